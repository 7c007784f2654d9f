/- Texts of this claim. -/
import Derived.Test.YtmnmebdmpigddaaGreatDoorB12
set_option maxRecDepth 100000
namespace Go.Proofs.YtmnmebdmpigddaaGreatDoor
open Go.RowKit Proofs.Tryz
theorem Below.drewN {B:Nat} {a w:World} (h:Below B a w) (n:Nat):Below B a (w.drewN n):=⟨h.os,h.tape,h.output,h.size,h.block⟩
@[irreducible] def gZ (ok:Bool) (i j:Int):Int:=if ok then jS i j else 0
theorem ab8 {xs ys:List Nat}:xz (val av xs) (val av ys)=jS (num false xs) (num false ys):=by
 rw[kk,kk];unfold jS xz bJ;by_cases h1:val av xs<val av ys
 · simp[h1]
 · by_cases h2:val av ys<val av xs<;>simp[h1,h2]
theorem ab9 {xs ys:List Nat}:xz (val av ys) (val av xs)=jS (num true xs) (num true ys):=by
 rw[kk,kk];unfold jS xz bJ;by_cases h1:val av ys<val av xs
 · simp[h1]
 · by_cases h2:val av xs<val av ys<;>simp[h1,h2]
theorem ayx {xs ys:List Nat} (hg:zm true xs=true):jS (num true xs) (num false ys)= -1:=by
 have h:=vux hg;have h1:num true xs<0:=by simpa using h
 have h2:(0:Int)≤num false ys:=by rw[kk];unfold bJ;simp
 unfold jS;rw[if_pos om]
theorem ayj {xs ys:List Nat} (hk:zm true ys=true):jS (num false xs) (num true ys)=1:=by
 have h:=vux hk;have h1:num true ys<0:=by simpa using h
 have h2:(0:Int)≤num false xs:=by rw[kk];unfold bJ;simp
 unfold jS;rw[if_neg om,if_pos om]
section
variable (A B:Option Addr) (c d:Nat) (xs ys:List Nat) (w:World)
theorem yyx (neg:Bool) (hx:aA w A xs) (hl:xs.length≤9223372036854775807) :
 Calls prog 70 #[.agg #[.bool neg,.slice A xs.length c]] w fun e w'=>e= .returned (.int .i64 (gZ (zm neg xs) (num neg xs) 0))∧Below w.heap.size w w':=by
 unfold gZ;cases h:zm neg xs
 · exact Sj A c xs w neg hx hl h
 · exact Mq A c xs w neg hx h
set_option maxHeartbeats 1000000 in
theorem Ng (n1 n2:Bool) (hx:aA w A xs) (hl:xs.length≤9223372036854775807) (hg:zm n1 xs=false) :
 Calls prog 40 #[.agg #[.bool n1,.slice A xs.length c],.agg #[.bool n2,.slice B ys.length d]] w fun e w'=>e= .returned (.int .i64 0)∧Below w.heap.size w w':=by
 go_enter func40,ntmps40
 go_wp2_with fail
 refine (yf n1 c _ A xs hl ((hx.alloc _).alloc _)).mono ?_;rintro e w1 ⟨rfl,hb1⟩;have L1:Below w.heap.size w w1:=(((Below.refl _ _).alloc (Nat.le_refl _) _).alloc (by simp) _).trans (hb1.mono (by simp;omega));go_wp2_with fail
 go_ret
 exact ⟨rfl,L1⟩
set_option maxHeartbeats 1000000 in
theorem Nh (n1 n2:Bool) (hx:aA w A xs) (hy:aA w B ys) (hl:ys.length≤9223372036854775807) (hg:zm n1 xs=true) (hk:zm n2 ys=false) :
 Calls prog 40 #[.agg #[.bool n1,.slice A xs.length c],.agg #[.bool n2,.slice B ys.length d]] w fun e w'=>e= .returned (.int .i64 0)∧Below w.heap.size w w':=by
 obtain ⟨_,_,hlx,_⟩:=ym hg;go_enter func40,ntmps40
 go_wp2_with fail
 refine (yf n1 c _ A xs om ((hx.alloc _).alloc _)).mono ?_;rintro e w1 ⟨rfl,hb1⟩;have Y1:=(aB.new (w.alloc (.cells #[.bool n1,.slice A xs.length c] 24)) 24 #[.bool n2,.slice B ys.length d]).below hb1 (by simp);have L1:Below w.heap.size w w1:=(((Below.refl _ _).alloc (Nat.le_refl _) _).alloc (by simp) _).trans (hb1.mono (by simp;omega));simp only[World.size_alloc] at Y1
 obtain ⟨y0,y1,y2,y3⟩:=Y1.two;go_wp2_with fail
 refine (yf n2 d _ B ys hl (hy.below L1 (Nat.le_refl _))).mono ?_;rintro e w2 ⟨rfl,hb2⟩;have L2:=L1.trans (hb2.mono L1.size);go_wp2_with fail
 go_ret
 exact ⟨rfl,L2⟩
set_option maxHeartbeats 1000000 in
theorem Tj (n1 n2:Bool) (hx:aA w A xs) (hy:aA w B ys) (hg:zm n1 xs=true) (hk:zm n2 ys=true) :
 Calls prog 40 #[.agg #[.bool n1,.slice A xs.length c],.agg #[.bool n2,.slice B ys.length d]] w fun e w'=>e= .returned (.int .i64 (jS (num n1 xs) (num n2 ys)))∧Below w.heap.size w w':=by
 obtain ⟨hs,hn,hlx,_⟩:=ym hg;obtain ⟨ht,hm,pq,_⟩:=ym hk;cases n1<;>cases n2
 case false.false=>
  have HV:=Lib.hid (ab8 (xs:=xs) (ys:=ys));go_enter func40,ntmps40
  go_wp2_with fail
  refine (yf false c _ A xs om ((hx.alloc _).alloc _)).mono ?_;rintro e w1 ⟨rfl,hb1⟩;have X1:=(aB.first w 24 #[.bool false,.slice A xs.length c] (.cells #[.bool false,.slice B ys.length d] 24)).below hb1 (by simp;omega);have Y1:=(aB.new (w.alloc (.cells #[.bool false,.slice A xs.length c] 24)) 24 #[.bool false,.slice B ys.length d]).below hb1 (by simp);have L1:Below w.heap.size w w1:=(((Below.refl _ _).alloc (Nat.le_refl _) _).alloc (by simp) _).trans (hb1.mono (by simp;omega));simp only[World.size_alloc] at X1 Y1
  clear hb1;obtain ⟨y0,y1,y2,y3⟩:=Y1.two;go_wp2_with fail
  refine (yf false d _ B ys om (hy.below L1 (Nat.le_refl _))).mono ?_;rintro e w2 ⟨rfl,hb2⟩;have X2:=X1.below hb2 X1.lt;have Y2:=Y1.below hb2 Y1.lt;have L2:=L1.trans (hb2.mono L1.size);clear y0 y1 y2 y3 X1 Y1 L1 hb2;obtain ⟨x0,x1,x2,x3⟩:=X2.two;obtain ⟨y0,y1,y2,y3⟩:=Y2.two;go_wp2_with fail
  refine (qvz A B c d xs ys _ (hx.below L2 (Nat.le_refl _)) (hy.below L2 (Nat.le_refl _)) hs ht hn hm om om).mono ?_;rintro e w3 ⟨rfl,n,rfl⟩;rw[HV.out];go_wp2_with fail
  go_ret
  exact ⟨rfl,Below.drewN L2 n⟩
 case true.true=>
  have HV:=Lib.hid (ab9 (xs:=xs) (ys:=ys));go_enter func40,ntmps40
  go_wp2_with fail
  refine (yf true c _ A xs om ((hx.alloc _).alloc _)).mono ?_;rintro e w1 ⟨rfl,hb1⟩;have X1:=(aB.first w 24 #[.bool true,.slice A xs.length c] (.cells #[.bool true,.slice B ys.length d] 24)).below hb1 (by simp;omega);have Y1:=(aB.new (w.alloc (.cells #[.bool true,.slice A xs.length c] 24)) 24 #[.bool true,.slice B ys.length d]).below hb1 (by simp);have L1:Below w.heap.size w w1:=(((Below.refl _ _).alloc (Nat.le_refl _) _).alloc (by simp) _).trans (hb1.mono (by simp;omega));simp only[World.size_alloc] at X1 Y1
  clear hb1;obtain ⟨y0,y1,y2,y3⟩:=Y1.two;go_wp2_with fail
  refine (yf true d _ B ys om (hy.below L1 (Nat.le_refl _))).mono ?_;rintro e w2 ⟨rfl,hb2⟩;have X2:=X1.below hb2 X1.lt;have Y2:=Y1.below hb2 Y1.lt;have L2:=L1.trans (hb2.mono L1.size);clear y0 y1 y2 y3 X1 Y1 L1 hb2;obtain ⟨x0,x1,x2,x3⟩:=X2.two;obtain ⟨y0,y1,y2,y3⟩:=Y2.two;go_wp2_with fail
  refine (qvz B A d c ys xs _ (hy.below L2 (Nat.le_refl _)) (hx.below L2 (Nat.le_refl _)) ht hs hm hn om om).mono ?_;rintro e w3 ⟨rfl,n,rfl⟩;rw[HV.out];go_wp2_with fail
  go_ret
  exact ⟨rfl,Below.drewN L2 n⟩
 case true.false=>
  have HV:=Lib.hid (ayx (xs:=xs) (ys:=ys) hg);go_enter func40,ntmps40
  go_wp2_with fail
  refine (yf true c _ A xs om ((hx.alloc _).alloc _)).mono ?_;rintro e w1 ⟨rfl,hb1⟩;have X1:=(aB.first w 24 #[.bool true,.slice A xs.length c] (.cells #[.bool false,.slice B ys.length d] 24)).below hb1 (by simp;omega);have Y1:=(aB.new (w.alloc (.cells #[.bool true,.slice A xs.length c] 24)) 24 #[.bool false,.slice B ys.length d]).below hb1 (by simp);have L1:Below w.heap.size w w1:=(((Below.refl _ _).alloc (Nat.le_refl _) _).alloc (by simp) _).trans (hb1.mono (by simp;omega));simp only[World.size_alloc] at X1 Y1
  clear hb1;obtain ⟨y0,y1,y2,y3⟩:=Y1.two;go_wp2_with fail
  refine (yf false d _ B ys om (hy.below L1 (Nat.le_refl _))).mono ?_;rintro e w2 ⟨rfl,hb2⟩;have X2:=X1.below hb2 X1.lt;have Y2:=Y1.below hb2 Y1.lt;have L2:=L1.trans (hb2.mono L1.size);clear y0 y1 y2 y3 X1 Y1 L1 hb2;obtain ⟨x0,x1,x2,x3⟩:=X2.two;obtain ⟨y0,y1,y2,y3⟩:=Y2.two;go_wp2_with fail
  go_ret
  exact ⟨kz HV.out.symm,L2⟩
 case false.true=>
  have HV:=Lib.hid (ayj (xs:=xs) (ys:=ys) hk);go_enter func40,ntmps40
  go_wp2_with fail
  refine (yf false c _ A xs om ((hx.alloc _).alloc _)).mono ?_;rintro e w1 ⟨rfl,hb1⟩;have X1:=(aB.first w 24 #[.bool false,.slice A xs.length c] (.cells #[.bool true,.slice B ys.length d] 24)).below hb1 (by simp;omega);have Y1:=(aB.new (w.alloc (.cells #[.bool false,.slice A xs.length c] 24)) 24 #[.bool true,.slice B ys.length d]).below hb1 (by simp);have L1:Below w.heap.size w w1:=(((Below.refl _ _).alloc (Nat.le_refl _) _).alloc (by simp) _).trans (hb1.mono (by simp;omega));simp only[World.size_alloc] at X1 Y1
  clear hb1;obtain ⟨y0,y1,y2,y3⟩:=Y1.two;go_wp2_with fail
  refine (yf true d _ B ys om (hy.below L1 (Nat.le_refl _))).mono ?_;rintro e w2 ⟨rfl,hb2⟩;have X2:=X1.below hb2 X1.lt;have Y2:=Y1.below hb2 Y1.lt;have L2:=L1.trans (hb2.mono L1.size);clear y0 y1 y2 y3 X1 Y1 L1 hb2;obtain ⟨x0,x1,x2,x3⟩:=X2.two;obtain ⟨y0,y1,y2,y3⟩:=Y2.two;go_wp2_with fail
  go_ret
  exact ⟨kz HV.out.symm,L2⟩
theorem J5 (n1 n2:Bool) (hx:aA w A xs) (hy:aA w B ys) (hl:xs.length≤9223372036854775807) (hl':ys.length≤9223372036854775807) :
 Calls prog 40 #[.agg #[.bool n1,.slice A xs.length c],.agg #[.bool n2,.slice B ys.length d]] w fun e w'=>e= .returned (.int .i64 (gZ (zm n1 xs&&zm n2 ys) (num n1 xs) (num n2 ys)))∧Below w.heap.size w w':=by
 unfold gZ;cases hg:zm n1 xs
 · exact Ng A B c d xs ys w n1 n2 hx hl hg
 cases hk:zm n2 ys
 · exact Nh A B c d xs ys w n1 n2 hx hy hl' hg hk
 exact Tj A B c d xs ys w n1 n2 hx hy hg hk
end
theorem Per.wF {X:Nat→Prop} {w:World} {A:Option Addr} {xs:List Nat} (h:aH w A xs) (hx:∀q,A=some q→ ¬X q.block):Per X w (fun b=>aH b A xs):=fun b hb=>
 ⟨h.1,fun h0=>by
  obtain ⟨g,o,rfl,hg,hc⟩:=h.2 h0;exact ⟨g,o,rfl,Nat.lt_of_lt_of_le hg hb.size,fun k hk=>(hb.cell (p:=⟨g,o+k,none⟩) hg (hx ⟨g,o,none⟩ rfl)).trans (hc k hk)⟩⟩
theorem Per.eY {w:World} {A:Option Addr} {xs:List Nat} (h:aH w A xs):Per No w (fun b=>aH b A xs):=Per.wF h (fun _ _=>id)
theorem Per.eO {X:Nat→Prop} {w:World} {base c:Nat} {A:Option Addr} {xs:List Nat} (h:aM w base A c xs) (hx:∀k,X k→k<base):Per X w (fun b=>aH b A xs):=Per.wF h.nums (fun q hq e=>by have:=hx _ e;have:=(h.ge q hq).1;omega)
theorem Uc {j:Int} (h0:j≠0):0<(ah j).length:=by rw[qa];exact RL de om
theorem aY7 {i:Int} (A:Option Addr) (c:Nat) (w:World) (hi:i.natAbs<av^30) (hx:aA w A (limbs i)):Calls prog 85 #[.agg #[.bool (decide (i<0)),.slice A (limbs i).length c]] w (Zh w i):=by
 have h:=J2 (decide (i<0)) A c (limbs i) w hx (vh hi);rwa [jr] at h
theorem az4 {i:Int} (A:Option Addr) (c:Nat) (w:World) (hi:i.natAbs<av^30) (hx:aA w A (limbs i)):Calls prog 42 #[.agg #[.bool (decide (i<0)),.slice A (limbs i).length c]] w fun e w'=>e= .returned (.bool true)∧Below w.heap.size w w':=by
 have h:=vhk (decide (i<0)) c w A (limbs i) (by have:=zt hi;omega) hx;rwa [vh hi] at h
theorem adj (xs:List Nat) (k:Nat):nth xs k=((xs.getD k 0:Nat):Int):=by unfold nth;rfl
theorem Ud {P:Prop} (h:P:=by
 rcases Nat.lt_or_ge i.natAbs (10^k) with h | h
 · exact h
 · have:=Nat.div_pos h hp;omega):P:=h
theorem BL (m n k:Nat) :
 ((m%10^k+n%10^k)/10^k+m/10^k%10+n/10^k%10)%10=(m+n)/10^k%10∧
 ((m%10^k+n%10^k)/10^k+m/10^k%10+n/10^k%10)/10=(m%10^(k+1)+n%10^(k+1))/10^(k+1):=by
 have hp:0<10^k:=Nat.pow_pos de;have e:(m+n)/10^k=m/10^k+n/10^k+(m%10^k+n%10^k)/10^k:=by
  have h1:=Nat.div_add_mod m (10^k);have h2:=Nat.div_add_mod n (10^k);have h3:m+n=(m%10^k+n%10^k)+10^k*(m/10^k+n/10^k):=by rw[Nat.mul_add];omega
  rw[h3,Nat.add_mul_div_left _ _ hp];omega
 have e2:(m%10^(k+1)+n%10^(k+1))=(m%10^k+n%10^k)+10^k*(m/10^k%10+n/10^k%10):=by
  rw[Nat.pow_succ,Nat.mod_mul,Nat.mod_mul,Nat.mul_add];omega
 constructor
 · rw[e];omega
 · rw[e2,Nat.pow_succ,←Nat.div_div_eq_div_mul,Nat.add_mul_div_left _ _ hp];congr 1
   omega
def G6 (m n k:Nat):Nat:=if m%10^k<n%10^k then 1 else 0
theorem Ue (m n k:Nat):G6 m n k≤1:=by unfold G6;split<;>omega
theorem ae0 (P m n:Nat) (hp:0<P) (h:n≤m):(m-n)/P+n/P+(if m%P<n%P then 1 else 0)=m/P:=by
 have h1:=Nat.div_add_mod m P;have h2:=Nat.div_add_mod n P;have h3:=Nat.mod_lt m hp;have h4:=Nat.mod_lt n hp;generalize m/P=M at *
 generalize n/P=N at *
 generalize m%P=m0 at *
 generalize n%P=n0 at *
 by_cases hb:m0<n0
 · rw[if_pos hb];have hN:N<M:=by
    rcases Nat.lt_or_ge N M with h5 | h5
    · exact h5
    · have:=Nat.mul_le_mul_left P h5;omega
   obtain ⟨D,rfl⟩:∃D,M=N+1+D:=⟨M-(N+1),om⟩;have e:m-n=(P+m0-n0)+P*D:=by
    have:P*(N+1+D)=P*N+P+P*D:=by rw[Nat.mul_add,Nat.mul_add,Nat.mul_one]
    omega
   rw[e,Nat.add_mul_div_left _ _ hp,Nat.div_eq_of_lt om];omega
 · rw[if_neg hb];have hN:N≤M:=by
    rcases Nat.lt_or_ge M N with h5 | h5
    · have:=Nat.mul_le_mul_left P h5;rw[Nat.mul_succ] at this;omega
    · exact h5
   obtain ⟨D,rfl⟩:∃D,M=N+D:=⟨M-N,om⟩;have e:m-n=(m0-n0)+P*D:=by
    have:P*(N+D)=P*N+P*D:=by rw[Nat.mul_add]
    omega
   rw[e,Nat.add_mul_div_left _ _ hp,Nat.div_eq_of_lt om];omega
theorem Uf (m n k:Nat) (h:n≤m) :
 (m/10^k%10+10-G6 m n k-n/10^k%10)%10=(m-n)/10^k%10∧1-(m/10^k%10+10-G6 m n k-n/10^k%10)/10=G6 m n (k+1)∧
 n/10^k%10+G6 m n k≤m/10^k%10+10:=by
 have hp:0<10^k:=Nat.pow_pos de;have e1:=ae0 (10^k) m n hp h;have hb:=Ue m n k;refine ⟨?_,?_,om⟩
 · unfold G6 at hb ⊢;generalize (if m%10^k<n%10^k then 1 else 0)=c at *
   omega
 · have hm:m%10^(k+1)=m%10^k+10^k*(m/10^k%10):=by rw[Nat.pow_succ,Nat.mod_mul]
   have hn:n%10^(k+1)=n%10^k+10^k*(n/10^k%10):=by rw[Nat.pow_succ,Nat.mod_mul]
   have h3:=Nat.mod_lt m hp;have h4:=Nat.mod_lt n hp;have ha:m/10^k%10<10:=Nat.mod_lt _ de;have hb':n/10^k%10<10:=Nat.mod_lt _ de;unfold G6;rw[hm,hn];generalize m/10^k%10=a at *
   generalize n/10^k%10=b at *
   generalize m%10^k=m0 at *
   generalize n%10^k=n0 at *
   generalize 10^k=P at *
   rcases Nat.lt_trichotomy a b with hab | hab | hab
   · have:P*(a+1)≤P*b:=Nat.mul_le_mul_left P hab;rw[Nat.mul_add,Nat.mul_one] at this;rw[if_pos (by omega:m0+P*a<n0+P*b)];split<;>omega
   · subst hab;by_cases hc:m0<n0
     · rw[if_pos hc,if_pos om];omega
     · rw[if_neg hc,if_neg om];omega
   · have:P*(b+1)≤P*a:=Nat.mul_le_mul_left P hab;rw[Nat.mul_add,Nat.mul_one] at this;rw[if_neg (by omega:¬m0+P*a<n0+P*b)];split<;>omega
theorem yeq {i:Int} {k:Nat} (h:(ah i).length≤k):i.natAbs/10^k=0:=by
 rw[qa] at h;exact Nat.div_eq_of_lt ((zz de _ _).1 h)
def wG (W:World) (i:Int) (e:Ending) (w':World):Prop:=∃A c,e= .returned (.slice A (ah i).length c)∧aM w' W.heap.size A c (ah i)∧Below W.heap.size W w'
theorem vik (i j:Int) (k:Nat) {cv s:Int} (hc:cv=(((i.natAbs%10^k+j.natAbs%10^k)/10^k:Nat):Int)) (hs:s=cv+nth (ah i) k+nth (ah j) k) :
 pad k (i.natAbs+j.natAbs)++ [(s%10).toNat]=pad (k+1) (i.natAbs+j.natAbs)∧s/10=(((i.natAbs%10^(k+1)+j.natAbs%10^(k+1))/10^(k+1):Nat):Int):=by
 obtain ⟨h1,h2⟩:=BL i.natAbs j.natAbs k;rw[ztz,ztz] at hs;rw[qaz,←h1,←h2];subst hc;subst hs;refine ⟨?_,om⟩;congr 2
theorem Ug (m n k:Nat):(m%10^k+n%10^k)/10^k≤1:=by
 have hp:0<10^k:=Nat.pow_pos de;have h3:=Nat.mod_lt m hp;have h4:=Nat.mod_lt n hp;rw[Nat.div_le_iff_le_mul_add_pred hp];omega
theorem Uh (i j:Int) (k:Nat) {cv:Int} (hc:cv=(((i.natAbs%10^k+j.natAbs%10^k)/10^k:Nat):Int)) (h1:(ah i).length≤k) (h2:(ah j).length≤k) :
 pad k (i.natAbs+j.natAbs)++ [cv.toNat]=pad (k+1) (i.natAbs+j.natAbs)∧val 10 (pad (k+1) (i.natAbs+j.natAbs))=i.natAbs+j.natAbs:=by
 have a1:=yeq h1;have a2:=yeq h2;obtain ⟨h3,_⟩:=BL i.natAbs j.natAbs k;rw[a1,a2] at h3;have hcl:=Ug i.natAbs j.natAbs k;constructor
 · rw[qaz,←h3];generalize (i.natAbs%10^k+j.natAbs%10^k)/10^k=q at *
   subst hc;congr 2
   omega
 · rw[vtz];have hp:0<10^k:=Nat.pow_pos de;have b1:i.natAbs<10^k:=by
    exact Ud
   have b2:j.natAbs<10^k:=by
    rcases Nat.lt_or_ge j.natAbs (10^k) with h | h
    · exact h
    · have:=Nat.div_pos h hp;omega
   exact Nat.mod_eq_of_lt (by rw[Nat.pow_succ];omega)
theorem kT (i j:Int) (k:Nat) (h:j.natAbs≤i.natAbs) {cv s:Int} (hc:cv=((G6 i.natAbs j.natAbs k:Nat):Int)) (hs:s=nth (ah i) k+10-cv-nth (ah j) k) :
 pad k (i.natAbs-j.natAbs)++ [(s%10).toNat]=pad (k+1) (i.natAbs-j.natAbs)∧1-s/10=((G6 i.natAbs j.natAbs (k+1):Nat):Int)∧0≤s:=by
 obtain ⟨h1,h2,h3⟩:=Uf i.natAbs j.natAbs k h;have hb:=Ue i.natAbs j.natAbs k;rw[ztz,ztz] at hs;rw[qaz,←h1,←h2];have e:s=((i.natAbs/10^k%10+10-G6 i.natAbs j.natAbs k-j.natAbs/10^k%10:Nat):Int):=by
  subst hc;subst hs;omega
 have hlt:i.natAbs/10^k%10+10-G6 i.natAbs j.natAbs k-j.natAbs/10^k%10<20:=by
  have:=Nat.mod_lt (i.natAbs/10^k) (by decide:0<10);omega
 generalize i.natAbs/10^k%10+10-G6 i.natAbs j.natAbs k-j.natAbs/10^k%10=q at *
 subst e;refine ⟨?_,om,om⟩;congr 2
theorem NI (i j:Int) (k:Nat) (h1:(ah i).length≤k):val 10 (pad k (i.natAbs-j.natAbs))=i.natAbs-j.natAbs:=by
 rw[vtz];have a1:=yeq h1;have hp:0<10^k:=Nat.pow_pos de;have b1:i.natAbs<10^k:=by
  exact Ud
 exact Nat.mod_eq_of_lt om
set_option maxHeartbeats 1000000 in
theorem qwx (A B:Option Addr) (c d:Nat) (i j q:Int) (w:World) (hx:aH w A (ah i)) (hy:aH w B (ah j)) (hl:(ah i).length≤1000000) (hl':(ah j).length≤1000000) (hq:i.natAbs+j.natAbs=q.natAbs) :
 Calls prog 132 #[.slice A (ah i).length c,.slice B (ah j).length d] w (wG w q):=by
 have HQ:=Lib.hid hq;have HSX:=Lib.hid (jx i);have HSY:=Lib.hid (jx j);clear hq;go_enter func132,ntmps132
 go_wp2_with fail
 go_loopw [5,6,7,8] (fun dv cv iv _ wr=>∃(k:Nat) (A':Option Addr) (c':Nat) (zs:List Nat) (u:Int),k≤1000000∧iv= .int .i64 k∧dv= .slice A' zs.length c'∧cv= .int .u8 u∧0≤u∧u≤1∧zs.length≤k∧aM wr w.heap.size A' c' zs∧
  Hid (u=(((i.natAbs%10^k+j.natAbs%10^k)/10^k:Nat):Int))∧Hid (zs=pad k (i.natAbs+j.natAbs))∧Below w.heap.size w wr) (fun _ _ iv _ _=>1000000-(intOf iv).toNat)
 case atStart=>exact ⟨0,none,0,[],0,om,rfl,rfl,rfl,om,om,by simp,aM.nil _ _,by show _=_;simp[Nat.mod_one],rfl,Below.refl _ _⟩
 case round=>
  obtain ⟨k,A',c',zs,u,hk,rfl,rfl,rfl,hu0,hu1,hzl,hown,HU,HZ,hbel⟩:=hrel;have Qf:aH wr A (ah i):=hx.below hbel (Nat.le_refl _);have hyr:aH wr B (ah j):=hy.below hbel (Nat.le_refl _);have hsz:=hbel.size;have hnx:=zu (ah i) k;have hny:=zu (ah j) k;have aY8:=qr om HSX.out k;have aY9:=qr om HSY.out k;by_cases hka:k<(ah i).length
  · obtain ⟨b,o,rfl,hb,hc⟩:=Qf.2 om;have hcell:=hc k hka;have hm1:(k:Int)<((ah i).length:Int):=om;clear hc;by_cases hkb:k<(ah j).length
    · obtain ⟨b',o',rfl,hb',hc'⟩:=hyr.2 om;have hcell':=hc' k hkb;have hm2:(k:Int)<((ah j).length:Int):=om;clear hc';have hstep:=vik i j k (s:=(u+nth (ah i) k+nth (ah j) k)) HU.out rfl;have hw8:0≤(u+nth (ah i) k+nth (ah j) k):=om;have hw9:(u+nth (ah i) k+nth (ah j) k)<20:=om;have e1:(u+nth (ah i) k+nth (ah j) k)%10=((((u+nth (ah i) k+nth (ah j) k)%10).toNat:Nat):Int):=om;have hC:=oa wr _ _ e1;have HC:=Lib.hid hC;have H8:Hid (∀x∈ [((u+nth (ah i) k+nth (ah j) k)%10).toNat],x<256):=by intro x hx';simp only[List.mem_cons,List.not_mem_nil,or_false] at hx';omega
      have HN:Hid (zs.length+ [((u+nth (ah i) k+nth (ah j) k)%10).toNat].length≤17592186044416):=by show zs.length+1≤_;omega
      have HST:=Lib.hid hstep;clear e1 hC hstep;go_wp2_with (at_builtin;go_loud (refine kw rfl (.tmp 42) (.tmp 45) rfl w.heap.size A' c' zs rfl (hown.alloc _) [((u+nth (ah i) k+nth (ah j) k)%10).toNat] ⟨wr.heap.size,0,none⟩ 1 1 rfl rfl (by exact HC.out) H8.out HN.out (by simp;omega) (fun A3 c3 w3 hown3 hg3=>?_)))
      go_roundw
      case rel=>exact ⟨k+1,A3,c3,zs++ [((u+nth (ah i) k+nth (ah j) k)%10).toNat],_,om,by go_num,by simp,rfl,om,om,by simp;omega,hown3,HST.out.2,by show _=_;rw[HZ.out];exact HST.out.1,Below.oW (hbel.alloc om _) (hown.alloc _) (by simp;omega) hg3⟩
      case measure=>simp[intOf];omega
    · have hm2:¬(k:Int)<((ah j).length:Int):=om;have h0:=kl (ah j) k om;have HS0:Hid (u+nth (ah i) k=u+nth (ah i) k+nth (ah j) k):=by show _=_;rw[h0];omega
      clear h0;have hstep:=vik i j k (s:=(u+nth (ah i) k)) HU.out HS0.out;have hw8:0≤(u+nth (ah i) k):=om;have hw9:(u+nth (ah i) k)<20:=om;have e1:(u+nth (ah i) k)%10=((((u+nth (ah i) k)%10).toNat:Nat):Int):=om;have hC:=oa wr _ _ e1;have HC:=Lib.hid hC;have H8:Hid (∀x∈ [((u+nth (ah i) k)%10).toNat],x<256):=by intro x hx';simp only[List.mem_cons,List.not_mem_nil,or_false] at hx';omega
      have HN:Hid (zs.length+ [((u+nth (ah i) k)%10).toNat].length≤17592186044416):=by show zs.length+1≤_;omega
      have HST:=Lib.hid hstep;clear e1 hC hstep;go_wp2_with (at_builtin;go_loud (refine kw rfl (.tmp 42) (.tmp 45) rfl w.heap.size A' c' zs rfl (hown.alloc _) [((u+nth (ah i) k)%10).toNat] ⟨wr.heap.size,0,none⟩ 1 1 rfl rfl (by exact HC.out) H8.out HN.out (by simp;omega) (fun A3 c3 w3 hown3 hg3=>?_)))
      go_roundw
      case rel=>exact ⟨k+1,A3,c3,zs++ [((u+nth (ah i) k)%10).toNat],_,om,by go_num,by simp,rfl,om,om,by simp;omega,hown3,HST.out.2,by show _=_;rw[HZ.out];exact HST.out.1,Below.oW (hbel.alloc om _) (hown.alloc _) (by simp;omega) hg3⟩
      case measure=>simp[intOf];omega
  · have hm1:¬(k:Int)<((ah i).length:Int):=om;have h0:=kl (ah i) k om;by_cases hkb:k<(ah j).length
    · obtain ⟨b',o',rfl,hb',hc'⟩:=hyr.2 om;have hcell':=hc' k hkb;have hm2:(k:Int)<((ah j).length:Int):=om;have HS0:Hid (u+nth (ah j) k=u+nth (ah i) k+nth (ah j) k):=by show _=_;rw[h0];omega
      clear hc' h0;have hstep:=vik i j k (s:=(u+nth (ah j) k)) HU.out HS0.out;have hw8:0≤(u+nth (ah j) k):=om;have hw9:(u+nth (ah j) k)<20:=om;have e1:(u+nth (ah j) k)%10=((((u+nth (ah j) k)%10).toNat:Nat):Int):=om;have hC:=oa wr _ _ e1;have HC:=Lib.hid hC;have H8:Hid (∀x∈ [((u+nth (ah j) k)%10).toNat],x<256):=by intro x hx';simp only[List.mem_cons,List.not_mem_nil,or_false] at hx';omega
      have HN:Hid (zs.length+ [((u+nth (ah j) k)%10).toNat].length≤17592186044416):=by show zs.length+1≤_;omega
      have HST:=Lib.hid hstep;clear e1 hC hstep;go_wp2_with (at_builtin;go_loud (refine kw rfl (.tmp 42) (.tmp 45) rfl w.heap.size A' c' zs rfl (hown.alloc _) [((u+nth (ah j) k)%10).toNat] ⟨wr.heap.size,0,none⟩ 1 1 rfl rfl (by exact HC.out) H8.out HN.out (by simp;omega) (fun A3 c3 w3 hown3 hg3=>?_)))
      go_roundw
      case rel=>exact ⟨k+1,A3,c3,zs++ [((u+nth (ah j) k)%10).toNat],_,om,by go_num,by simp,rfl,om,om,by simp;omega,hown3,HST.out.2,by show _=_;rw[HZ.out];exact HST.out.1,Below.oW (hbel.alloc om _) (hown.alloc _) (by simp;omega) hg3⟩
      case measure=>simp[intOf];omega
    · have hm2:¬(k:Int)<((ah j).length:Int):=om;have hend:=Uh i j k HU.out om om;have e1:u=(u.toNat:Int):=om;have hC:=oa wr _ _ e1;have HC:=Lib.hid hC;have H8:Hid (∀x∈ [u.toNat],x<256):=by intro x hx';simp only[List.mem_cons,List.not_mem_nil,or_false] at hx';omega
      have HN:Hid (zs.length+ [u.toNat].length≤17592186044416):=by show zs.length+1≤_;omega
      have HE:=Lib.hid hend;clear e1 hC hend h0;go_wp2_with (at_builtin;go_loud (refine kw rfl (.tmp 49) (.tmp 51) rfl w.heap.size A' c' zs rfl (hown.alloc _) [u.toNat] ⟨wr.heap.size,0,none⟩ 1 1 rfl rfl (by exact HC.out) H8.out HN.out (by simp;omega) (fun A3 c3 w3 hown3 hg3=>?_));refine Hid.out ?_)
      refine Lib.hid ?_;have hb3:=Below.oW (hbel.alloc om _) (hown.alloc _) (by simp;omega) hg3;obtain ⟨ds,hds⟩:∃ds,ds=zs++ [u.toNat]:=⟨_,rfl⟩;rw[←hds] at hown3;have hll:zs.length+1=ds.length:=by rw[hds];simp
      rw[hll];have JY:val 10 ds=q.natAbs:=by rw[hds,HZ.out,HE.out.1,HE.out.2,HQ.out]
      have hsm:small 10 ds:=by rw[hds,HZ.out,HE.out.1];exact qgq _ _
      have hlen3:ds.length≤1048576:=by rw[hds];simp;omega
      have HV:=Lib.hid JY;have HSM:=Lib.hid hsm;have HL3:=Lib.hid hlen3;clear JY hsm hlen3 hds HE HC H8 HN hll;go_wp2_with (go_at_call 106;refine (znv w.heap.size A3 c3 ds q _ hown3 HSM.out HV.out HL3.out).mono ?_;rintro e w4 ⟨rfl,cK,rfl⟩)
      go_ret
      exact ⟨A3,c3,rfl,cK,hb3⟩
set_option maxHeartbeats 1000000 in
theorem zqz (A B:Option Addr) (c d:Nat) (i j q:Int) (w:World) (hx:aH w A (ah i)) (hy:aH w B (ah j)) (hl:(ah i).length≤1048576) (hl':(ah j).length≤1048576) (hle:j.natAbs≤i.natAbs) (hq:i.natAbs-j.natAbs=q.natAbs) :
 Calls prog 134 #[.slice A (ah i).length c,.slice B (ah j).length d] w (wG w q):=by
 have HQ:=Lib.hid hq;have yO:=Lib.hid hle;have HSX:=Lib.hid (jx i);have HSY:=Lib.hid (jx j);clear hq hle;go_enter func134,ntmps134
 go_wp2_with fail
 go_loopw [5,6,7,8] (fun dv cv iv _ wr=>∃(k:Nat) (A':Option Addr) (c':Nat) (zs:List Nat) (u:Int),k≤(ah i).length∧iv= .int .i64 k∧dv= .slice A' zs.length c'∧cv= .int .u8 u∧0≤u∧u≤1∧zs.length≤k∧aM wr w.heap.size A' c' zs∧
  Hid (u=((G6 i.natAbs j.natAbs k:Nat):Int))∧Hid (zs=pad k (i.natAbs-j.natAbs))∧Below w.heap.size w wr) (fun _ _ iv _ _=>1048576-(intOf iv).toNat)
 case atStart=>exact ⟨0,none,0,[],0,om,rfl,rfl,rfl,om,om,by simp,aM.nil _ _,by show _=_;simp[G6,Nat.mod_one],rfl,Below.refl _ _⟩
 case round=>
  obtain ⟨k,A',c',zs,u,hk,rfl,rfl,rfl,hu0,hu1,hzl,hown,HU,HZ,hbel⟩:=hrel;have Qf:aH wr A (ah i):=hx.below hbel (Nat.le_refl _);have hyr:aH wr B (ah j):=hy.below hbel (Nat.le_refl _);have hsz:=hbel.size;have hnx:=zu (ah i) k;have hny:=zu (ah j) k;have aY8:=qr om HSX.out k;have aY9:=qr om HSY.out k;by_cases hka:k<(ah i).length
  · obtain ⟨b,o,rfl,hb,hc⟩:=Qf.2 om;have hcell:=hc k hka;have hm1:(k:Int)<((ah i).length:Int):=om;clear hc;by_cases hkb:k<(ah j).length
    · obtain ⟨b',o',rfl,hb',hc'⟩:=hyr.2 om;have hcell':=hc' k hkb;have hm2:(k:Int)<((ah j).length:Int):=om;clear hc';have hstep:=kT i j k yO.out (s:=(nth (ah i) k+10-u-nth (ah j) k)) HU.out rfl;have hw8:0≤(nth (ah i) k+10-u-nth (ah j) k):=hstep.2.2;have hw9:(nth (ah i) k+10-u-nth (ah j) k)<20:=om;have e1:(nth (ah i) k+10-u-nth (ah j) k)%10=((((nth (ah i) k+10-u-nth (ah j) k)%10).toNat:Nat):Int):=om;have hC:=oa wr _ _ e1;have HC:=Lib.hid hC;have H8:Hid (∀x∈ [((nth (ah i) k+10-u-nth (ah j) k)%10).toNat],x<256):=by intro x hx';simp only[List.mem_cons,List.not_mem_nil,or_false] at hx';omega
      have HN:Hid (zs.length+ [((nth (ah i) k+10-u-nth (ah j) k)%10).toNat].length≤17592186044416):=by show zs.length+1≤_;omega
      have hq0:0≤1-(nth (ah i) k+10-u-nth (ah j) k)/10:=om;have HST:=Lib.hid hstep;clear e1 hC hstep;go_wp2_with (at_builtin;go_loud (refine kw rfl (.tmp 32) (.tmp 35) rfl w.heap.size A' c' zs rfl (hown.alloc _) [((nth (ah i) k+10-u-nth (ah j) k)%10).toNat] ⟨wr.heap.size,0,none⟩ 1 1 rfl rfl (by exact HC.out) H8.out HN.out (by simp;omega) (fun A3 c3 w3 hown3 hg3=>?_)))
      go_roundw
      case rel=>exact ⟨k+1,A3,c3,zs++ [((nth (ah i) k+10-u-nth (ah j) k)%10).toNat],_,om,by go_num,by simp,rfl,om,om,by simp;omega,hown3,HST.out.2.1,by show _=_;rw[HZ.out];exact HST.out.1,Below.oW (hbel.alloc om _) (hown.alloc _) (by simp;omega) hg3⟩
      case measure=>simp[intOf];omega
    · have hm2:¬(k:Int)<((ah j).length:Int):=om;have h0:=kl (ah j) k om;have HS0:Hid (nth (ah i) k+10-u=nth (ah i) k+10-u-nth (ah j) k):=by show _=_;rw[h0];omega
      clear h0;have hstep:=kT i j k yO.out (s:=(nth (ah i) k+10-u)) HU.out HS0.out;have hw8:0≤(nth (ah i) k+10-u):=hstep.2.2;have hw9:(nth (ah i) k+10-u)<20:=om;have e1:(nth (ah i) k+10-u)%10=((((nth (ah i) k+10-u)%10).toNat:Nat):Int):=om;have hC:=oa wr _ _ e1;have HC:=Lib.hid hC;have H8:Hid (∀x∈ [((nth (ah i) k+10-u)%10).toNat],x<256):=by intro x hx';simp only[List.mem_cons,List.not_mem_nil,or_false] at hx';omega
      have HN:Hid (zs.length+ [((nth (ah i) k+10-u)%10).toNat].length≤17592186044416):=by show zs.length+1≤_;omega
      have hq0:0≤1-(nth (ah i) k+10-u)/10:=om;have HST:=Lib.hid hstep;clear e1 hC hstep;go_wp2_with (at_builtin;go_loud (refine kw rfl (.tmp 32) (.tmp 35) rfl w.heap.size A' c' zs rfl (hown.alloc _) [((nth (ah i) k+10-u)%10).toNat] ⟨wr.heap.size,0,none⟩ 1 1 rfl rfl (by exact HC.out) H8.out HN.out (by simp;omega) (fun A3 c3 w3 hown3 hg3=>?_)))
      go_roundw
      case rel=>exact ⟨k+1,A3,c3,zs++ [((nth (ah i) k+10-u)%10).toNat],_,om,by go_num,by simp,rfl,om,om,by simp;omega,hown3,HST.out.2.1,by show _=_;rw[HZ.out];exact HST.out.1,Below.oW (hbel.alloc om _) (hown.alloc _) (by simp;omega) hg3⟩
      case measure=>simp[intOf];omega
  · have hm1:¬(k:Int)<((ah i).length:Int):=om;have hend:=NI i j k om;have JY:val 10 zs=q.natAbs:=by rw[HZ.out,hend,HQ.out]
    have hsm:small 10 zs:=by rw[HZ.out];exact qgq _ _
    have HV:=Lib.hid JY;have HSM:=Lib.hid hsm;clear JY hsm hend;go_wp2_with (go_at_call 106;refine (znv w.heap.size A' c' zs q _ hown HSM.out HV.out om).mono ?_;rintro e w4 ⟨rfl,cK,rfl⟩)
    go_ret
    exact ⟨A',c',rfl,cK,hbel⟩
theorem vcv {xs ys:List Nat} (hs:small 10 xs) (hm:oj ys) (h:xs.length<ys.length):xz (val 10 xs) (val 10 ys)= -1∧xz (val 10 ys) (val 10 xs)=1:=by
 have:=xi (by decide:2≤10) hs hm h;unfold xz;exact ⟨if_pos this,by rw[if_neg om,if_pos this]⟩
theorem vrq {xs ys:List Nat} (hs:small 10 xs) (h:xs.length=ys.length) {k:Nat} (hk:k<xs.length) (hd:∀j,k+1≤j→nth xs j=nth ys j) (hlt:nth xs k<nth ys k) :
 xz (val 10 xs) (val 10 ys)= -1∧xz (val 10 ys) (val 10 xs)=1:=by
 have:=yuz hs h hk (fun j hj _=>(yqv _ _ _ _).1 (hd j hj)) ((jR _ _ _ _).1 hlt);unfold xz;exact ⟨if_pos this,by rw[if_neg om,if_pos this]⟩
theorem G7 {xs ys:List Nat} (h:xs.length=ys.length) (hd:∀j,0≤j→nth xs j=nth ys j):xz (val 10 xs) (val 10 ys)=0:=by
 exact ap2
set_option maxRecDepth 100000 in
set_option maxHeartbeats 400000 in
theorem G8 (A B:Option Addr) (c d:Nat) (xs ys:List Nat) (w:World) (hx:aH w A xs) (hy:aH w B ys) (hs:small 10 xs) (ht:small 10 ys) (hn:oj xs) (hm:oj ys)
 (hl:xs.length≤1048576) (hl':ys.length≤1048576) :
 Calls prog 133 #[.slice A xs.length c,.slice B ys.length d] w fun e w'=>e= .returned (.int .i64 (xz (val 10 xs) (val 10 ys)))∧ ∃n,w'=w.drewN n:=by
 by_cases hlen:xs.length=ys.length
 · have hne:¬(xs.length:Int)<(ys.length:Int):=om;have hne2:¬(ys.length:Int)<(xs.length:Int):=om;have HL:=Lib.hid hlen;clear hlen;go_enter func133,ntmps133
   go_wp2
   go_loopw [5] (fun v wr=>∃k:Nat,k≤xs.length∧v= .int .i64 ((k:Int)-1)∧(∀j,k≤j→nth xs j=nth ys j)∧ ∃n,wr=w.drewN n) (fun v _=>(intOf v+1).toNat)
   case atStart=>exact ⟨xs.length,Nat.le_refl _,rfl,fun j hj=>by rw[kl xs j hj,kl ys j (by rw[←HL.out];exact hj)],0,rfl⟩
   case round=>
    obtain ⟨k,hk,rfl,hz,n,rfl⟩:=hrel;have HZ:=Lib.hid hz;clear hz;by_cases hk0:k=0
    · subst hk0;go_wp2
      go_ret
      exact ⟨kz (G7 HL.out HZ.out).symm,n,rfl⟩
    · obtain ⟨m,rfl⟩:∃m,k=m+1:=⟨k-1,om⟩;obtain ⟨b,o,rfl,hb,hc⟩:=hx.2 om;obtain ⟨b',o',rfl,hb',hc'⟩:=hy.2 (by rw[←HL.out];omega);have hcell:=hc m om;have hcell':=hc' m (by rw[←HL.out];omega);have hm1:(m:Int)<(xs.length:Int):=om;have hm2:(m:Int)<(ys.length:Int):=by have:=HL.out;omega
      have hm0:(0:Int)≤(m:Int):=om;clear hc hc';rcases Int.lt_trichotomy (nth xs m) (nth ys m) with h | h | h
      · have hdl:decide (nth xs m<nth ys m)=true:=by simpa using h
        have H:=Lib.hid h;clear h;go_wp2
        go_quiet (fail)
        go_wp2
        go_ret
        exact ⟨kz (vrq hs HL.out om HZ.out H.out).1.symm,_,by simp only[World.drewN_drewN];rfl⟩
      · have hd1:decide (nth xs m<nth ys m)=false:=by simp[h]
        have hd2:decide (nth ys m<nth xs m)=false:=by simp[h]
        have H:=Lib.hid h;clear h;go_wp2
        go_quiet (fail)
        go_wp2
        go_quiet (fail)
        go_wp2
        go_roundw
        case rel=>exact ⟨m,om,rfl,fun j hj=>by
         by_cases e:j=m
         · rw[e];exact H.out
         · exact HZ.out j om,_,by first | rfl | (simp only[World.drewN_drewN];rfl)⟩
        case measure=>simp[intOf]
      · have hd1:decide (nth xs m<nth ys m)=false:=by simp;omega
        have hd2:decide (nth ys m<nth xs m)=true:=by simpa using h
        have H:=Lib.hid h;clear h;go_wp2
        go_quiet (fail)
        go_wp2
        go_quiet (fail)
        go_wp2
        go_ret
        exact ⟨kz (vrq ht HL.out.symm (by have:=HL.out;omega) (fun j hj=>(HZ.out j hj).symm) H.out).2.symm,_,by simp only[World.drewN_drewN];rfl⟩
 · rcases Nat.lt_or_ge xs.length ys.length with h | h
   · have hlt:(xs.length:Int)<(ys.length:Int):=om;go_enter func133,ntmps133
     go_wp2
     go_ret
     exact ⟨kz (vcv hs hm h).1.symm,0,rfl⟩
   · have hlt:¬(xs.length:Int)<(ys.length:Int):=om;have hlt2:(ys.length:Int)<(xs.length:Int):=om;go_enter func133,ntmps133
     go_wp2
     go_ret
     exact ⟨kz (vcv ht hn om).2.symm,0,rfl⟩
theorem BM (A B:Option Addr) (c d:Nat) (i j:Int) (w:World) (hx:aH w A (ah i)) (hy:aH w B (ah j)) (hl:(ah i).length≤1048576) (hl':(ah j).length≤1048576) :
 Calls prog 133 #[.slice A (ah i).length c,.slice B (ah j).length d] w fun e w'=>e= .returned (.int .i64 (xz i.natAbs j.natAbs))∧ ∃n,w'=w.drewN n:=by
 have h:=G8 A B c d (ah i) (ah j) w hx hy (jx i) (jx j) (by rw[qa];exact zbv de _) (by rw[qa];exact zbv de _) hl hl';rwa [zrx,zrx] at h
def bd5 (w:World) (A:Option Addr) (xs:List Nat):Prop:=
 (∀k,nth xs k<9223372036854775808)∧(0<xs.length→ ∃b o,A=some ⟨b,o,none⟩∧b<w.heap.size∧ ∀k,k<xs.length→w.cell? ⟨b,o+k,none⟩=some (.int .i64 (nth xs k)))
def xX (ys:List Nat) (j:Nat):Value:=.int .i64 (nth ys j)
def bX (w:World) (g n:Nat) (ys:List Nat):Prop:=w.rowIs g 3 n (xX ys)∧ys.length≤n
section
variable {w w':World} {g n:Nat} {ys:List Nat}
theorem bX.cell (h:bX w g n ys) {j:Nat} (hj:j<n):w.cell? ⟨g,j,none⟩=some (.int .i64 (nth ys j)):=h.1.cell hj
theorem bX.frozen (h:bX w g n ys) (j:Nat):w.frozen? ⟨g,j,none⟩=false:=h.1.frozen j
theorem bX.made (w:World) (n:Nat):bX (w.alloc (.cells (madeCells #[.int .i64 0] n) 3)) w.heap.size n []:=
 ⟨(World.rowIs_made w _ n _).congr fun i _=>by unfold xX;rw[yqk],Nat.zero_le _⟩
theorem bX.set (h:bX w g n ys) (i v:Nat) (hi:i<ys.length):bX (w.setCell ⟨g,i,none⟩ (.int .i64 (v:Int))) g n (ys.set i v):=
 ⟨(h.1.set i _).congr fun j _=>by unfold xX;rw[yez _ _ _ hi];split<;>rfl,by simpa using h.2⟩
theorem bX.setInt (h:bX w g n ys) (v:Int) (h0:0≤v) {i:Nat} (hi:i<ys.length):bX (w.setCell ⟨g,i,none⟩ (.int .i64 v)) g n (ys.set i v.toNat):=by
 exact F6
theorem bX.of_block (h:bX w g n ys) (e:w'.heap[g]? =w.heap[g]?):bX w' g n ys:=⟨h.1.of_block e,h.2⟩
theorem bX.drew (h:bX w g n ys):bX w.drew g n ys:=h
theorem bX.below {B:Nat} (h:bX w g n ys) (hb:Below B w w') (hg:g<B):bX w' g n ys:=h.of_block (hb.block g hg)
theorem bX.fill (h:bX w g n ys):bX w g n (ys++List.replicate (n-ys.length) 0):=by
 refine ⟨h.1.congr fun i hi=>?_,by have:=h.2;simp;omega⟩;unfold xX nth;exact RU
end
def bg8 (w:World) (base:Nat) (A:Option Addr) (c:Nat) (xs:List Nat):Prop:=
 w.ownsRow base 3 1 (.slice A xs.length c) xs.length (xs.map fun x:Nat=>Value.int .i64 (x:Int))∧ ∀x∈xs,x<9223372036854775808
section
variable {w w':World} {base:Nat} {A:Option Addr} {c:Nat} {xs:List Nat}
end
theorem aRx:(prog.info? 3).map (fun i=>(i.zero,i.size,i.bytes))=some (some (.int .i64 0),1,8):=kr
theorem aRj (n:Nat) (h:n≤35184372088832):∀w:World,(Instr.makeSlice 155 (.int .i64 (n:Int)) (.int .i64 (n:Int))).run prog w= .ok (.slice (some ⟨w.heap.size,0,none⟩) n n) (w.alloc (.cells (madeCells #[.int .i64 0] n) 3)):=
 fun w=>run_make_row' _ _ _ 8 FR aRx rfl _ _ n om om w
theorem Xj {P:Prop} (h:P:=by
 refine bodyPost_ret (v:=.tuple #[.int .i64 0,.int .i64 7]) (by simp[results,Tryz.results69,go_sem]) rfl ?_;exact qoq L1 HO.out):P:=h
theorem aS1 {P:Prop} (h:P:=by
 obtain ⟨k,hk,rfl,rfl⟩:=hrel;by_cases hk0:k=0
 · subst hk0;obtain ⟨u,hu⟩:∃u:Int,u=((val av (xs.drop 0):Nat):Int):=⟨_,rfl⟩;have hu1:u<10000000000000000000:=by rw[hu,List.drop_zero];have:=HS.out;omega
   have hu0:0≤u:=by rw[hu];omega
   have hval:u=((val av xs:Nat):Int):=by rw[hu,List.drop_zero]
   rw[←hu];clear hu;cases neg
   · have hv:num false xs=u:=by rw[kk,hval];rfl
     have HV:=Lib.hid hv;clear hv hval;by_cases hr:u<9223372036854775808
     · have hw:=Eb u hu0 hr;go_wp2
       refine bodyPost_ret (v:=.tuple #[.int .i64 u,.int .i64 0]) (by simp[results,Tryz.results69,go_sem,hw]) rfl ?_;exact tN L1 (by rw[HV.out];unfold eU;omega) HV.out.symm
     · go_wp2
       refine bodyPost_ret (v:=.tuple #[.int .i64 0,.int .i64 7]) (by simp[results,Tryz.results69,go_sem]) rfl ?_;exact qoq L1 (by rw[HV.out];unfold eU;omega)
   · have hv:num true xs= -u:=by rw[kk,hval];rfl
     have HV:=Lib.hid hv;clear hv hval;by_cases hr:u≤9223372036854775808
     · have hw:=Ed u hu0 hr;go_wp2
       refine bodyPost_ret (v:=.tuple #[.int .i64 (-u),.int .i64 0]) (by simp[results,Tryz.results69,go_sem,hw]) rfl ?_;exact tN L1 (by rw[HV.out];unfold eU;omega) HV.out.symm
     · go_wp2
       refine bodyPost_ret (v:=.tuple #[.int .i64 0,.int .i64 7]) (by simp[results,Tryz.results69,go_sem]) rfl ?_;exact qoq L1 (by rw[HV.out];unfold eU;omega)
 · obtain ⟨m,rfl⟩:∃m,k=m+1:=⟨k-1,om⟩;obtain ⟨b1,o1,hA,hb1,hc1⟩:=hx1.2 om;have hcm:=hc1 m om;have hm1:(m:Int)<(xs.length:Int):=om;have hnn:=zu xs m;obtain ⟨he,hlt⟩:=HU.out m om;obtain ⟨p,hp⟩:∃p:Int,p=((val av (xs.drop (m+1)):Nat):Int):=⟨_,rfl⟩;have hp0:0≤p:=by rw[hp];omega
   rw[←hp] at he ⊢;have HE:=Lib.hid he;have hb2:p*1000000000000000000+nth xs m<10000000000000000000:=by rw[he];exact hlt
   have hp1:p≤10:=om;clear hc1 he hp hlt;(first | (injection hA with hA;injection hA with h1 h2;subst h1;subst h2) | subst hA)
   go_wp2
   go_round
   case rel=>exact ⟨m,om,by rw[HE.out],by go_num⟩
   case measure=>simp[intOf]):P:=h
def eU (v:Int):Prop:=-9223372036854775808≤v∧v≤9223372036854775807
instance (v:Int):Decidable (eU v):=by unfold eU;infer_instance
@[irreducible] def mW (ok:Bool) (v:Int):Int:=if ok then (if eU v then v else 0) else 0
@[irreducible] def iB (ok:Bool) (v:Int):Int:=if ok then (if eU v then 0 else 7) else 3
def Qt (W:World) (ok:Bool) (v:Int) (e:Ending) (w':World):Prop:=e= .returned (.tuple #[.int .i64 (mW ok v),.int .i64 (iB ok v)])∧Below W.heap.size W w'
theorem I7 {W w':World} {v:Int} (h:Below W.heap.size W w'):Qt W false v (.returned (.tuple #[.int .i64 0,.int .i64 3])) w':=⟨by unfold mW iB;rfl,h⟩
theorem qoq {W w':World} {v:Int} (h:Below W.heap.size W w') (hv:¬eU v):Qt W true v (.returned (.tuple #[.int .i64 0,.int .i64 7])) w':=⟨by unfold mW iB;simp[hv],h⟩
theorem tN {W w':World} {v u:Int} (h:Below W.heap.size W w') (hv:eU v) (hu:u=v):Qt W true v (.returned (.tuple #[.int .i64 u,.int .i64 0])) w':=⟨by subst hu;unfold mW iB;simp[hv],h⟩
theorem zpv {b:Nat} {l:List Nat} {k:Nat} (h:k<l.length):val b (l.drop k)=l.getD k 0+b*val b (l.drop (k+1)):=by
 rw[List.drop_eq_getElem_cons h,val];simp[List.getD,List.getElem?_eq_getElem h]
theorem vnq {b:Nat} (hb:1≤b) (l:List Nat) (k:Nat):val b (l.drop k)≤val b l:=by
 have h:=qez (b:=b) l k;have h1:1≤b^(l.take k).length:=Nat.one_le_pow _ _ hb;have h2:1*val b (l.drop k)≤b^(l.take k).length*val b (l.drop k):=Nat.mul_le_mul_right _ h1;omega
theorem Xk {neg:Bool} {xs:List Nat} (hg:zm neg xs=true) (h:2<xs.length):¬eU (num neg xs):=by
 obtain ⟨hs,hn,hl,_⟩:=ym hg;have h1:=jN qk hn om;have h2:av^2≤av^(xs.length-1):=Nat.pow_le_pow_right (by unfold av;omega) om;have h3:=xy neg xs;have h4:av^2=1000000000000000000000000000000000000:=by unfold av;rfl
 unfold eU;omega
theorem val_two {xs:List Nat} (h:xs.length=2):val av xs=xs.getD 0 0+1000000000000000000*xs.getD 1 0:=by
 have e1:=zpv (b:=av) (l:=xs) (k:=0) om;have e2:=zpv (b:=av) (l:=xs) (k:=1) om;rw[List.drop_of_length_le (i:=1+1) om] at e2;rw[List.drop_zero] at e1;simp only[val] at e2
 rw[e1,e2];unfold av;omega
theorem Xl {neg:Bool} {xs:List Nat} (h:xs.length=2) (h9:9<nth xs 1):¬eU (num neg xs):=by
 have h3:=xy neg xs;rw[val_two h] at h3;have h4:9<xs.getD 1 0:=by unfold nth at h9;omega
 unfold eU;omega
theorem Pb {neg:Bool} {xs:List Nat} (hg:zm neg xs=true) (h:xs.length≤2) (h9:xs.length=2→nth xs 1≤9):val av xs<10000000000000000000:=by
 obtain ⟨hs,hn,hl,_⟩:=ym hg;rcases Nat.lt_or_ge xs.length 2 with h2 | h2
 · have h1:=kp hs;have h3:av^xs.length≤av^1:=Nat.pow_le_pow_right (by unfold av;omega) om;have h4:av^1=1000000000000000000:=by unfold av;rfl
   omega
 · have h3:xs.length=2:=om;rw[val_two h3];have h4:=h9 h3;have h5:=qr (by unfold av;omega) hs 0;unfold nth at h4 h5;unfold av at h5;omega
theorem Ed (u:Int) (h0:0≤u) (h1:u≤9223372036854775808):IntKind.i64.wrap (IntKind.u64.wrap (-u))= -u:=by
 exact jP
theorem Eb (u:Int) (h0:0≤u) (h1:u<9223372036854775808):IntKind.i64.wrap u=u:=by
 exact jP
section
variable (A:Option Addr) (c:Nat) (xs:List Nat) (w:World)
set_option maxHeartbeats 1000000 in
theorem ai9 (neg:Bool) (hx:aA w A xs) (hl:xs.length≤9223372036854775807) (hg:zm neg xs=false) :
 Calls prog 69 #[.agg #[.bool neg,.slice A xs.length c]] w (Qt w false (num neg xs)):=by
 go_enter func69,ntmps69
 go_wp2_with fail
 refine (yf neg c _ A xs hl (hx.alloc _)).mono ?_;rintro e w1 ⟨rfl,hb1⟩;have L1:Below w.heap.size w w1:=((Below.refl _ _).alloc (Nat.le_refl _) _).trans (hb1.mono (by simp));go_wp2_with fail
 refine bodyPost_ret (v:=.tuple #[.int .i64 0,.int .i64 3]) (by simp[results,Tryz.results69,go_sem]) rfl ?_;exact I7 L1
set_option maxHeartbeats 1000000 in
theorem K7 (neg:Bool) (hx:aA w A xs) (hg:zm neg xs=true) (h:2<xs.length∨(xs.length=2∧9<nth xs 1)) :
 Calls prog 69 #[.agg #[.bool neg,.slice A xs.length c]] w (Qt w true (num neg xs)):=by
 obtain ⟨hs,hn,hl,_⟩:=ym hg;rcases h with h | ⟨h,h9⟩
 · have HO:=Lib.hid (Xk hg h);have h2:(2:Int)<(xs.length:Int):=om;go_enter func69,ntmps69
   go_wp2_with fail
   refine (yf neg c _ A xs om (hx.alloc _)).mono ?_;rintro e w1 ⟨rfl,hb1⟩;have X1:=(aB.new w 24 #[.bool neg,.slice A xs.length c]).below hb1 (by simp);have L1:Below w.heap.size w w1:=((Below.refl _ _).alloc (Nat.le_refl _) _).trans (hb1.mono (by simp));obtain ⟨x0,x1,x2,x3⟩:=X1.two;clear hb1;go_wp2_with fail
   exact Xj
 · have HO:=Lib.hid (Xl (neg:=neg) h h9);obtain ⟨b,o,rfl,hb,hc⟩:=hx.2 om;have hc1:=hc 1 om;have H2:=Lib.hid h;have HX:=Lib.hid hx;clear h hx;go_enter func69,ntmps69
   go_wp2_with fail
   refine (yf neg c _ _ xs om (HX.out.alloc _)).mono ?_;rintro e w1 ⟨rfl,hb1⟩;have X1:=(aB.new w 24 #[.bool neg,.slice (some ⟨b,o,none⟩) xs.length c]).below hb1 (by simp);have L1:Below w.heap.size w w1:=((Below.refl _ _).alloc (Nat.le_refl _) _).trans (hb1.mono (by simp));obtain ⟨x0,x1,x2,x3⟩:=X1.two;have hcw:w1.cell? ⟨b,o+1,none⟩=some (.int .u64 (nth xs 1)):=(L1.cell (p:=⟨b,o+1,none⟩) hb).trans hc1;rw[H2.out] at x1;clear hb1 hc hc1;go_wp2_with fail
   exact Xj
set_option maxHeartbeats 1000000 in
theorem aCj (neg:Bool) (hx:aA w A xs) (hg:zm neg xs=true) (h:xs.length≤2) (h9:xs.length=2→nth xs 1≤9) :
 Calls prog 69 #[.agg #[.bool neg,.slice A xs.length c]] w (Qt w true (num neg xs)):=by
 obtain ⟨hs,hn,hl,_⟩:=ym hg;have hsm:=Pb hg h h9;have aS2:(xs.length=2∧ ∃b o,A=some ⟨b,o,none⟩∧b<w.heap.size∧w.cell? ⟨b,o+1,none⟩=some (.int .u64 (nth xs 1)))∨xs.length<2:=by
  rcases Nat.lt_or_ge xs.length 2 with h2 | h2
  · exact Or.inr h2
  · obtain ⟨b,o,rfl,hb,hc⟩:=hx.2 om;exact Or.inl ⟨om,b,o,rfl,hb,hc 1 om⟩
 have h2:¬(2:Int)<(xs.length:Int):=om;have HS:=Lib.hid hsm;clear hsm;go_enter func69,ntmps69
 go_wp2_with fail
 refine (yf neg c _ _ xs om (hx.alloc _)).mono ?_;rintro e w1 ⟨rfl,hb1⟩;have X1:=(aB.new w 24 #[.bool neg,.slice A xs.length c]).below hb1 (by simp);have L1:Below w.heap.size w w1:=((Below.refl _ _).alloc (Nat.le_refl _) _).trans (hb1.mono (by simp));obtain ⟨x0,x1,x2,x3⟩:=X1.two;have hx1:=hx.below L1 (Nat.le_refl _);have hu:∀k,k<xs.length→((val av (xs.drop (k+1)):Nat):Int)*1000000000000000000+nth xs k=((val av (xs.drop k):Nat):Int)∧((val av (xs.drop k):Nat):Int)<10000000000000000000:=by
  intro k hk;have e:=zpv (b:=av) hk;have e2:=vnq (b:=av) (by unfold av;omega) xs k;have e3:=HS.out;unfold nth;generalize val av (xs.drop (k+1))=p at *
  generalize val av (xs.drop k)=q at *
  unfold av at e;omega
 have HU:=Lib.hid hu;clear hb1 hu;rcases aS2 with ⟨h3,b,o,rfl,hb,hc1⟩ | h3
 · have hcw:w1.cell? ⟨b,o+1,none⟩=some (.int .u64 (nth xs 1)):=(L1.cell (p:=⟨b,o+1,none⟩) hb).trans hc1;have h9':=h9 h3;have hlt2:((xs.length:Int)==2)=true:=by simp;omega
   have hone:(1:Int)<(xs.length:Int):=om;have H3:=Lib.hid h3;clear hc1 h3 h9;go_wp2_with fail
   go_loop [4,5] (fun u v=>∃k:Nat,k≤xs.length∧u= .int .u64 ((val av (xs.drop k):Nat):Int)∧v= .int .i64 ((k:Int)-1)) (fun u v=>(intOf v+1).toNat)
   case atStart=>exact ⟨xs.length,Nat.le_refl _,by rw[List.drop_of_length_le (Nat.le_refl _)];rfl,rfl⟩
   case round=>
    exact aS1
 · have hlt2:((xs.length:Int)==2)=false:=by simp;omega
   clear h9;go_wp2_with fail
   go_loop [4,5] (fun u v=>∃k:Nat,k≤xs.length∧u= .int .u64 ((val av (xs.drop k):Nat):Int)∧v= .int .i64 ((k:Int)-1)) (fun u v=>(intOf v+1).toNat)
   case atStart=>exact ⟨xs.length,Nat.le_refl _,by rw[List.drop_of_length_le (Nat.le_refl _)];rfl,rfl⟩
   case round=>
    exact aS1
theorem vax (neg:Bool) (hx:aA w A xs) (hl:xs.length≤9223372036854775807) :
 Calls prog 69 #[.agg #[.bool neg,.slice A xs.length c]] w (Qt w (zm neg xs) (num neg xs)):=by
 cases hg:zm neg xs
 · exact ai9 A c xs w neg hx hl hg
 by_cases h1:2<xs.length
 · exact K7 A c xs w neg hx hg (Or.inl h1)
 by_cases h2:xs.length=2∧9<nth xs 1
 · exact K7 A c xs w neg hx hg (Or.inr h2)
 exact aCj A c xs w neg hx hg om (by intro h3;by_cases h4:nth xs 1≤9;exact h4;exact absurd ⟨h3,om⟩ h2)
end
theorem Xm {P:Prop} (h:P:=by
 refine bodyPost_ret (v:=.tuple #[.int .i64 0,.bool false]) (by simp[results,Tryz.results84,go_sem]) rfl ?_;exact qxx L1 (by rw[HV.out];unfold eU;omega)):P:=h
@[irreducible] def Zx (i:Int):Int:=if eU i then i else 0
def mX (W:World) (i:Int) (e:Ending) (w':World):Prop:=e= .returned (.tuple #[.int .i64 (Zx i),.bool (decide (eU i))])∧Below W.heap.size W w'
theorem qxx {W w':World} {i:Int} (h:Below W.heap.size W w') (hv:¬eU i):mX W i (.returned (.tuple #[.int .i64 0,.bool false])) w':=⟨by unfold Zx;simp[hv],h⟩
theorem vpx {W w':World} {i u:Int} (h:Below W.heap.size W w') (hv:eU i) (hu:u=i):mX W i (.returned (.tuple #[.int .i64 u,.bool true])) w':=⟨by subst hu;unfold Zx;simp[hv],h⟩
theorem Pd {i:Int} (h:19<(ah i).length):¬eU i:=by
 rw[qa] at h;have h2:=mt (zz (by decide:2≤10) i.natAbs 19).2 om;unfold eU;omega
set_option maxHeartbeats 1000000 in
theorem mY (A:Option Addr) (c:Nat) (i:Int) (w:World) (hx:aH w A (ah i)) (hl:(ah i).length≤1048576) :
 Calls prog 84 #[.agg #[.bool (decide (i<0)),.slice A (ah i).length c]] w (mX w i):=by
 by_cases h19:19<(ah i).length
 · have HO:=Lib.hid (Pd h19);have ba8:(19:Int)<((ah i).length:Int):=om;go_enter func84,ntmps84
   go_wp2_with fail
   refine bodyPost_ret (v:=.tuple #[.int .i64 0,.bool false]) (by simp[results,Tryz.results84,go_sem]) rfl ?_;exact qxx ((Below.refl _ _).alloc (Nat.le_refl _) _) HO.out
 · have ba8:¬(19:Int)<((ah i).length:Int):=om;have hbig:val 10 (ah i)<10000000000000000000:=by
    rw[zrx];have:=(zz (by decide:2≤10) i.natAbs 19).1 (by rw[←qa];omega);omega
   have hu:∀k,k<(ah i).length→10*((val 10 ((ah i).drop (k+1)):Nat):Int)+nth (ah i) k=((val 10 ((ah i).drop k):Nat):Int)∧((val 10 ((ah i).drop k):Nat):Int)<10000000000000000000∧nth (ah i) k<10:=by
    intro k hk;have e:=zpv (b:=10) hk;have e2:=vnq (b:=10) om (ah i) k;have e3:=qr om (jx i) k;refine ⟨?_,om,e3⟩;unfold nth;generalize val 10 ((ah i).drop (k+1))=p at *
    generalize val 10 ((ah i).drop k)=q at *
    omega
   have HU:=Lib.hid hu;have HB:=Lib.hid hbig;have HI:=Lib.hid (zrx i);obtain ⟨bn,hbn⟩:∃bn,bn=decide (i<0):=⟨_,rfl⟩;rw[←hbn];have HN:=Lib.hid hbn;clear hu hbig h19 hbn;generalize htt:ah i=ds at *
   clear htt;go_enter func84,ntmps84
   go_wp2_with fail
   go_loop [4,5] (fun u v=>∃k:Nat,k≤ds.length∧u= .int .u64 ((val 10 (ds.drop k):Nat):Int)∧v= .int .i64 ((k:Int)-1)) (fun u v=>(intOf v+1).toNat)
   case atStart=>exact ⟨ds.length,Nat.le_refl _,by rw[List.drop_of_length_le (Nat.le_refl _)];rfl,rfl⟩
   case round=>
    obtain ⟨k,hk,rfl,rfl⟩:=hrel;have L1:Below w.heap.size w (w.alloc (.cells #[.bool bn,.slice A ds.length c] 48)):=(Below.refl _ _).alloc (Nat.le_refl _) _;by_cases hk0:k=0
    · subst hk0;obtain ⟨u,hu⟩:∃u:Int,u=((val 10 (ds.drop 0):Nat):Int):=⟨_,rfl⟩;have hu1:u<10000000000000000000:=by rw[hu,List.drop_zero];have:=HB.out;omega
      have hu0:0≤u:=by rw[hu];omega
      have hval:u=(i.natAbs:Int):=by rw[hu,List.drop_zero,HI.out]
      rw[←hu];clear hu;cases bn
      · have hv:i=u:=by have:=HN.out;simp at this;omega
        have HV:=Lib.hid hv;clear hv hval;by_cases hr:u<9223372036854775808
        · have hw:=Eb u hu0 hr;go_wp2
          refine bodyPost_ret (v:=.tuple #[.int .i64 u,.bool true]) (by simp[results,Tryz.results84,go_sem]) rfl ?_;exact vpx L1 (by rw[HV.out];unfold eU;omega) HV.out.symm
        · go_wp2
          exact Xm
      · have hv:i= -u:=by have:=HN.out;simp at this;omega
        have HV:=Lib.hid hv;clear hv hval;by_cases hr:u≤9223372036854775808
        · have hw:=Ed u hu0 hr;go_wp2
          refine bodyPost_ret (v:=.tuple #[.int .i64 (-u),.bool true]) (by simp[results,Tryz.results84,go_sem,hw]) rfl ?_;exact vpx L1 (by rw[HV.out];unfold eU;omega) HV.out.symm
        · go_wp2
          exact Xm
    · obtain ⟨m,rfl⟩:∃m,k=m+1:=⟨k-1,om⟩;obtain ⟨b1,o1,rfl,hb1,hc1⟩:=hx.2 om;have hcm:=hc1 m om;have hm1:(m:Int)<(ds.length:Int):=om;have hnn:=zu ds m;obtain ⟨he,hlt,aY0⟩:=HU.out m om;obtain ⟨p,hp⟩:∃p:Int,p=((val 10 (ds.drop (m+1)):Nat):Int):=⟨_,rfl⟩;have hp0:0≤p:=by rw[hp];omega
      rw[←hp] at he ⊢;have HE:=Lib.hid he;have hb2:10*p+nth ds m<10000000000000000000:=by rw[he];exact hlt
      have hp1:10*p<10000000000000000000:=om;clear hc1 he hp hlt;go_wp2
      go_round
      case rel=>exact ⟨m,om,by rw[HE.out],by go_num⟩
      case measure=>simp[intOf]
end Go.Proofs.YtmnmebdmpigddaaGreatDoor
