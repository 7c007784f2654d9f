/- Texts of this claim. -/
import Derived.Test.YtmnmebdmpigddaaGreatDoorT12
set_option maxRecDepth 100000
namespace Go.Proofs.YtmnmebdmpigddaaGreatDoor
open Go.RowKit Proofs.Tryz
theorem TF {P:Prop} (h:P:=by
 rcases Nat.lt_or_ge i.natAbs (10^k) with h | h
 · exact h
 · have:=Nat.div_pos h hp;omega):P:=h
theorem Bq (m n k:Nat) :
 ((m%10^k+n%10^k)/10^k+m/10^k%10+n/10^k%10)%10=(m+n)/10^k%10∧
 ((m%10^k+n%10^k)/10^k+m/10^k%10+n/10^k%10)/10=(m%10^(k+1)+n%10^(k+1))/10^(k+1):=by
 have hp:0<10^k:=Nat.pow_pos de;have e:(m+n)/10^k=m/10^k+n/10^k+(m%10^k+n%10^k)/10^k:=by
  have h1:=Nat.div_add_mod m (10^k);have h2:=Nat.div_add_mod n (10^k);have h3:m+n=(m%10^k+n%10^k)+10^k*(m/10^k+n/10^k):=by rw[Nat.mul_add];omega
  rw[h3,Nat.add_mul_div_left _ _ hp];omega
 have e2:(m%10^(k+1)+n%10^(k+1))=(m%10^k+n%10^k)+10^k*(m/10^k%10+n/10^k%10):=by
  rw[Nat.pow_succ,Nat.mod_mul,Nat.mod_mul,Nat.mul_add];omega
 constructor
 · rw[e];omega
 · rw[e2,Nat.pow_succ,←Nat.div_div_eq_div_mul,Nat.add_mul_div_left _ _ hp];congr 1
   omega
def GV (m n k:Nat):Nat:=if m%10^k<n%10^k then 1 else 0
theorem TG (m n k:Nat):GV m n k≤1:=by unfold GV;split<;>omega
theorem Z0 (P m n:Nat) (hp:0<P) (h:n≤m):(m-n)/P+n/P+(if m%P<n%P then 1 else 0)=m/P:=by
 have h1:=Nat.div_add_mod m P;have h2:=Nat.div_add_mod n P;have h3:=Nat.mod_lt m hp;have h4:=Nat.mod_lt n hp;generalize m/P=M at *
 generalize n/P=N at *
 generalize m%P=m0 at *
 generalize n%P=n0 at *
 by_cases hb:m0<n0
 · rw[if_pos hb];have hN:N<M:=by
    rcases Nat.lt_or_ge N M with h5 | h5
    · exact h5
    · have:=Nat.mul_le_mul_left P h5;omega
   obtain ⟨D,rfl⟩:∃D,M=N+1+D:=⟨M-(N+1),om⟩;have e:m-n=(P+m0-n0)+P*D:=by
    have:P*(N+1+D)=P*N+P+P*D:=by rw[Nat.mul_add,Nat.mul_add,Nat.mul_one]
    omega
   rw[e,Nat.add_mul_div_left _ _ hp,Nat.div_eq_of_lt om];omega
 · rw[if_neg hb];have hN:N≤M:=by
    rcases Nat.lt_or_ge M N with h5 | h5
    · have:=Nat.mul_le_mul_left P h5;rw[Nat.mul_succ] at this;omega
    · exact h5
   obtain ⟨D,rfl⟩:∃D,M=N+D:=⟨M-N,om⟩;have e:m-n=(m0-n0)+P*D:=by
    have:P*(N+D)=P*N+P*D:=by rw[Nat.mul_add]
    omega
   rw[e,Nat.add_mul_div_left _ _ hp,Nat.div_eq_of_lt om];omega
theorem TH (m n k:Nat) (h:n≤m) :
 (m/10^k%10+10-GV m n k-n/10^k%10)%10=(m-n)/10^k%10∧1-(m/10^k%10+10-GV m n k-n/10^k%10)/10=GV m n (k+1)∧
 n/10^k%10+GV m n k≤m/10^k%10+10:=by
 have hp:0<10^k:=Nat.pow_pos de;have e1:=Z0 (10^k) m n hp h;have hb:=TG m n k;refine ⟨?_,?_,om⟩
 · unfold GV at hb ⊢;generalize (if m%10^k<n%10^k then 1 else 0)=c at *
   omega
 · have hm:m%10^(k+1)=m%10^k+10^k*(m/10^k%10):=by rw[Nat.pow_succ,Nat.mod_mul]
   have hn:n%10^(k+1)=n%10^k+10^k*(n/10^k%10):=by rw[Nat.pow_succ,Nat.mod_mul]
   have h3:=Nat.mod_lt m hp;have h4:=Nat.mod_lt n hp;have ha:m/10^k%10<10:=Nat.mod_lt _ de;have hb':n/10^k%10<10:=Nat.mod_lt _ de;unfold GV;rw[hm,hn];generalize m/10^k%10=a at *
   generalize n/10^k%10=b at *
   generalize m%10^k=m0 at *
   generalize n%10^k=n0 at *
   generalize 10^k=P at *
   rcases Nat.lt_trichotomy a b with hab | hab | hab
   · have:P*(a+1)≤P*b:=Nat.mul_le_mul_left P hab;rw[Nat.mul_add,Nat.mul_one] at this;rw[if_pos (by omega:m0+P*a<n0+P*b)];split<;>omega
   · subst hab;by_cases hc:m0<n0
     · rw[if_pos hc,if_pos om];omega
     · rw[if_neg hc,if_neg om];omega
   · have:P*(b+1)≤P*a:=Nat.mul_le_mul_left P hab;rw[Nat.mul_add,Nat.mul_one] at this;rw[if_neg (by omega:¬m0+P*a<n0+P*b)];split<;>omega
theorem ynq {i:Int} {k:Nat} (h:(av i).length≤k):i.natAbs/10^k=0:=by
 rw[jl] at h;exact Nat.div_eq_of_lt ((qg de _ _).1 h)
def KF (W:World) (i:Int) (e:Ending) (w':World):Prop:=∃A c,e= .returned (.slice A (av i).length c)∧aQ w' W.heap.size A c (av i)∧Below W.heap.size W w'
theorem qux (i j:Int) (k:Nat) {cv s:Int} (hc:cv=(((i.natAbs%10^k+j.natAbs%10^k)/10^k:Nat):Int)) (hs:s=cv+nth (av i) k+nth (av j) k) :
 pad k (i.natAbs+j.natAbs)++ [(s%10).toNat]=pad (k+1) (i.natAbs+j.natAbs)∧s/10=(((i.natAbs%10^(k+1)+j.natAbs%10^(k+1))/10^(k+1):Nat):Int):=by
 obtain ⟨h1,h2⟩:=Bq i.natAbs j.natAbs k;rw[zqx,zqx] at hs;rw[ymq,←h1,←h2];subst hc;subst hs;refine ⟨?_,om⟩;congr 2
theorem TI (m n k:Nat):(m%10^k+n%10^k)/10^k≤1:=by
 have hp:0<10^k:=Nat.pow_pos de;have h3:=Nat.mod_lt m hp;have h4:=Nat.mod_lt n hp;rw[Nat.div_le_iff_le_mul_add_pred hp];omega
theorem TJ (i j:Int) (k:Nat) {cv:Int} (hc:cv=(((i.natAbs%10^k+j.natAbs%10^k)/10^k:Nat):Int)) (h1:(av i).length≤k) (h2:(av j).length≤k) :
 pad k (i.natAbs+j.natAbs)++ [cv.toNat]=pad (k+1) (i.natAbs+j.natAbs)∧val 10 (pad (k+1) (i.natAbs+j.natAbs))=i.natAbs+j.natAbs:=by
 have a1:=ynq h1;have a2:=ynq h2;obtain ⟨h3,_⟩:=Bq i.natAbs j.natAbs k;rw[a1,a2] at h3;have hcl:=TI i.natAbs j.natAbs k;constructor
 · rw[ymq,←h3];generalize (i.natAbs%10^k+j.natAbs%10^k)/10^k=q at *
   subst hc;congr 2
   omega
 · rw[vev];have hp:0<10^k:=Nat.pow_pos de;have b1:i.natAbs<10^k:=by
    exact TF
   have b2:j.natAbs<10^k:=by
    rcases Nat.lt_or_ge j.natAbs (10^k) with h | h
    · exact h
    · have:=Nat.div_pos h hp;omega
   exact Nat.mod_eq_of_lt (by rw[Nat.pow_succ];omega)
theorem lF (i j:Int) (k:Nat) (h:j.natAbs≤i.natAbs) {cv s:Int} (hc:cv=((GV i.natAbs j.natAbs k:Nat):Int)) (hs:s=nth (av i) k+10-cv-nth (av j) k) :
 pad k (i.natAbs-j.natAbs)++ [(s%10).toNat]=pad (k+1) (i.natAbs-j.natAbs)∧1-s/10=((GV i.natAbs j.natAbs (k+1):Nat):Int)∧0≤s:=by
 obtain ⟨h1,h2,h3⟩:=TH i.natAbs j.natAbs k h;have hb:=TG i.natAbs j.natAbs k;rw[zqx,zqx] at hs;rw[ymq,←h1,←h2];have e:s=((i.natAbs/10^k%10+10-GV i.natAbs j.natAbs k-j.natAbs/10^k%10:Nat):Int):=by
  subst hc;subst hs;omega
 have hlt:i.natAbs/10^k%10+10-GV i.natAbs j.natAbs k-j.natAbs/10^k%10<20:=by
  have:=Nat.mod_lt (i.natAbs/10^k) (by decide:0<10);omega
 generalize i.natAbs/10^k%10+10-GV i.natAbs j.natAbs k-j.natAbs/10^k%10=q at *
 subst e;refine ⟨?_,om,om⟩;congr 2
theorem NI (i j:Int) (k:Nat) (h1:(av i).length≤k):val 10 (pad k (i.natAbs-j.natAbs))=i.natAbs-j.natAbs:=by
 rw[vev];have a1:=ynq h1;have hp:0<10^k:=Nat.pow_pos de;have b1:i.natAbs<10^k:=by
  exact TF
 exact Nat.mod_eq_of_lt om
set_option maxHeartbeats 1000000 in
theorem vS (A B:Option Addr) (c d:Nat) (i j q:Int) (w:World) (hx:aL w A (av i)) (hy:aL w B (av j)) (hl:(av i).length≤1000000) (hl':(av j).length≤1000000) (hq:i.natAbs+j.natAbs=q.natAbs) :
 Calls prog 132 #[.slice A (av i).length c,.slice B (av j).length d] w (KF w q):=by
 have HQ:=Lib.hid hq;have HSX:=Lib.hid (xn i);have HSY:=Lib.hid (xn j);clear hq;go_enter func132,ntmps132
 go_wp2_with fail
 go_loopw [5,6,7,8] (fun dv cv iv _ wr=>∃(k:Nat) (A':Option Addr) (c':Nat) (zs:List Nat) (u:Int),k≤1000000∧iv= .int .i64 k∧dv= .slice A' zs.length c'∧cv= .int .u8 u∧0≤u∧u≤1∧zs.length≤k∧aQ wr w.heap.size A' c' zs∧
  Hid (u=(((i.natAbs%10^k+j.natAbs%10^k)/10^k:Nat):Int))∧Hid (zs=pad k (i.natAbs+j.natAbs))∧Below w.heap.size w wr) (fun _ _ iv _ _=>1000000-(intOf iv).toNat)
 case atStart=>exact ⟨0,none,0,[],0,om,rfl,rfl,rfl,om,om,by simp,aQ.nil _ _,by show _=_;simp[Nat.mod_one],rfl,Below.refl _ _⟩
 case round=>
  obtain ⟨k,A',c',zs,u,hk,rfl,rfl,rfl,hu0,hu1,hzl,hown,HU,HZ,hbel⟩:=hrel;have Zm:aL wr A (av i):=hx.below hbel (Nat.le_refl _);have hyr:aL wr B (av j):=hy.below hbel (Nat.le_refl _);have hsz:=hbel.size;have hnx:=yc (av i) k;have hny:=yc (av j) k;have aQ1:=qx om HSX.out k;have aQ2:=qx om HSY.out k;by_cases hka:k<(av i).length
  · obtain ⟨b,o,rfl,hb,hc⟩:=Zm.2 om;have hcell:=hc k hka;have hm1:(k:Int)<((av i).length:Int):=om;clear hc;by_cases hkb:k<(av j).length
    · obtain ⟨b',o',rfl,hb',hc'⟩:=hyr.2 om;have hcell':=hc' k hkb;have hm2:(k:Int)<((av j).length:Int):=om;clear hc';have hstep:=qux i j k (s:=(u+nth (av i) k+nth (av j) k)) HU.out rfl;have hw8:0≤(u+nth (av i) k+nth (av j) k):=om;have hw9:(u+nth (av i) k+nth (av j) k)<20:=om;have e1:(u+nth (av i) k+nth (av j) k)%10=((((u+nth (av i) k+nth (av j) k)%10).toNat:Nat):Int):=om;have hC:=xw wr _ _ e1;have HC:=Lib.hid hC;have H8:Hid (∀x∈ [((u+nth (av i) k+nth (av j) k)%10).toNat],x<256):=by intro x hx';simp only[List.mem_cons,List.not_mem_nil,or_false] at hx';omega
      have HN:Hid (zs.length+ [((u+nth (av i) k+nth (av j) k)%10).toNat].length≤17592186044416):=by show zs.length+1≤_;omega
      have HST:=Lib.hid hstep;clear e1 hC hstep;go_wp2_with (at_builtin;go_loud (refine kx rfl (.tmp 42) (.tmp 45) rfl w.heap.size A' c' zs rfl (hown.alloc _) [((u+nth (av i) k+nth (av j) k)%10).toNat] ⟨wr.heap.size,0,none⟩ 1 1 rfl rfl (by exact HC.out) H8.out HN.out (by simp;omega) (fun A3 c3 w3 hown3 hg3=>?_)))
      go_roundw
      case rel=>exact ⟨k+1,A3,c3,zs++ [((u+nth (av i) k+nth (av j) k)%10).toNat],_,om,by go_num,by simp,rfl,om,om,by simp;omega,hown3,HST.out.2,by show _=_;rw[HZ.out];exact HST.out.1,Below.zZ (hbel.alloc om _) (hown.alloc _) (by simp;omega) hg3⟩
      case measure=>simp[intOf];omega
    · have hm2:¬(k:Int)<((av j).length:Int):=om;have h0:=gn (av j) k om;have HS0:Hid (u+nth (av i) k=u+nth (av i) k+nth (av j) k):=by show _=_;rw[h0];omega
      clear h0;have hstep:=qux i j k (s:=(u+nth (av i) k)) HU.out HS0.out;have hw8:0≤(u+nth (av i) k):=om;have hw9:(u+nth (av i) k)<20:=om;have e1:(u+nth (av i) k)%10=((((u+nth (av i) k)%10).toNat:Nat):Int):=om;have hC:=xw wr _ _ e1;have HC:=Lib.hid hC;have H8:Hid (∀x∈ [((u+nth (av i) k)%10).toNat],x<256):=by intro x hx';simp only[List.mem_cons,List.not_mem_nil,or_false] at hx';omega
      have HN:Hid (zs.length+ [((u+nth (av i) k)%10).toNat].length≤17592186044416):=by show zs.length+1≤_;omega
      have HST:=Lib.hid hstep;clear e1 hC hstep;go_wp2_with (at_builtin;go_loud (refine kx rfl (.tmp 42) (.tmp 45) rfl w.heap.size A' c' zs rfl (hown.alloc _) [((u+nth (av i) k)%10).toNat] ⟨wr.heap.size,0,none⟩ 1 1 rfl rfl (by exact HC.out) H8.out HN.out (by simp;omega) (fun A3 c3 w3 hown3 hg3=>?_)))
      go_roundw
      case rel=>exact ⟨k+1,A3,c3,zs++ [((u+nth (av i) k)%10).toNat],_,om,by go_num,by simp,rfl,om,om,by simp;omega,hown3,HST.out.2,by show _=_;rw[HZ.out];exact HST.out.1,Below.zZ (hbel.alloc om _) (hown.alloc _) (by simp;omega) hg3⟩
      case measure=>simp[intOf];omega
  · have hm1:¬(k:Int)<((av i).length:Int):=om;have h0:=gn (av i) k om;by_cases hkb:k<(av j).length
    · obtain ⟨b',o',rfl,hb',hc'⟩:=hyr.2 om;have hcell':=hc' k hkb;have hm2:(k:Int)<((av j).length:Int):=om;have HS0:Hid (u+nth (av j) k=u+nth (av i) k+nth (av j) k):=by show _=_;rw[h0];omega
      clear hc' h0;have hstep:=qux i j k (s:=(u+nth (av j) k)) HU.out HS0.out;have hw8:0≤(u+nth (av j) k):=om;have hw9:(u+nth (av j) k)<20:=om;have e1:(u+nth (av j) k)%10=((((u+nth (av j) k)%10).toNat:Nat):Int):=om;have hC:=xw wr _ _ e1;have HC:=Lib.hid hC;have H8:Hid (∀x∈ [((u+nth (av j) k)%10).toNat],x<256):=by intro x hx';simp only[List.mem_cons,List.not_mem_nil,or_false] at hx';omega
      have HN:Hid (zs.length+ [((u+nth (av j) k)%10).toNat].length≤17592186044416):=by show zs.length+1≤_;omega
      have HST:=Lib.hid hstep;clear e1 hC hstep;go_wp2_with (at_builtin;go_loud (refine kx rfl (.tmp 42) (.tmp 45) rfl w.heap.size A' c' zs rfl (hown.alloc _) [((u+nth (av j) k)%10).toNat] ⟨wr.heap.size,0,none⟩ 1 1 rfl rfl (by exact HC.out) H8.out HN.out (by simp;omega) (fun A3 c3 w3 hown3 hg3=>?_)))
      go_roundw
      case rel=>exact ⟨k+1,A3,c3,zs++ [((u+nth (av j) k)%10).toNat],_,om,by go_num,by simp,rfl,om,om,by simp;omega,hown3,HST.out.2,by show _=_;rw[HZ.out];exact HST.out.1,Below.zZ (hbel.alloc om _) (hown.alloc _) (by simp;omega) hg3⟩
      case measure=>simp[intOf];omega
    · have hm2:¬(k:Int)<((av j).length:Int):=om;have hend:=TJ i j k HU.out om om;have e1:u=(u.toNat:Int):=om;have hC:=xw wr _ _ e1;have HC:=Lib.hid hC;have H8:Hid (∀x∈ [u.toNat],x<256):=by intro x hx';simp only[List.mem_cons,List.not_mem_nil,or_false] at hx';omega
      have HN:Hid (zs.length+ [u.toNat].length≤17592186044416):=by show zs.length+1≤_;omega
      have HE:=Lib.hid hend;clear e1 hC hend h0;go_wp2_with (at_builtin;go_loud (refine kx rfl (.tmp 49) (.tmp 51) rfl w.heap.size A' c' zs rfl (hown.alloc _) [u.toNat] ⟨wr.heap.size,0,none⟩ 1 1 rfl rfl (by exact HC.out) H8.out HN.out (by simp;omega) (fun A3 c3 w3 hown3 hg3=>?_));refine Hid.out ?_)
      refine Lib.hid ?_;have hb3:=Below.zZ (hbel.alloc om _) (hown.alloc _) (by simp;omega) hg3;obtain ⟨ds,hds⟩:∃ds,ds=zs++ [u.toNat]:=⟨_,rfl⟩;rw[←hds] at hown3;have hll:zs.length+1=ds.length:=by rw[hds];simp
      rw[hll];have Kl:val 10 ds=q.natAbs:=by rw[hds,HZ.out,HE.out.1,HE.out.2,HQ.out]
      have hsm:small 10 ds:=by rw[hds,HZ.out,HE.out.1];exact ysz _ _
      have hlen3:ds.length≤1048576:=by rw[hds];simp;omega
      have HV:=Lib.hid Kl;have HSM:=Lib.hid hsm;have HL3:=Lib.hid hlen3;clear Kl hsm hlen3 hds HE HC H8 HN hll;go_wp2_with (go_at_call 106;refine (qtq w.heap.size A3 c3 ds q _ hown3 HSM.out HV.out HL3.out).mono ?_;rintro e w4 ⟨rfl,iG,rfl⟩)
      go_ret
      exact ⟨A3,c3,rfl,iG,hb3⟩
set_option maxHeartbeats 1000000 in
theorem yxq (A B:Option Addr) (c d:Nat) (i j q:Int) (w:World) (hx:aL w A (av i)) (hy:aL w B (av j)) (hl:(av i).length≤1048576) (hl':(av j).length≤1048576) (hle:j.natAbs≤i.natAbs) (hq:i.natAbs-j.natAbs=q.natAbs) :
 Calls prog 134 #[.slice A (av i).length c,.slice B (av j).length d] w (KF w q):=by
 have HQ:=Lib.hid hq;have yC:=Lib.hid hle;have HSX:=Lib.hid (xn i);have HSY:=Lib.hid (xn j);clear hq hle;go_enter func134,ntmps134
 go_wp2_with fail
 go_loopw [5,6,7,8] (fun dv cv iv _ wr=>∃(k:Nat) (A':Option Addr) (c':Nat) (zs:List Nat) (u:Int),k≤(av i).length∧iv= .int .i64 k∧dv= .slice A' zs.length c'∧cv= .int .u8 u∧0≤u∧u≤1∧zs.length≤k∧aQ wr w.heap.size A' c' zs∧
  Hid (u=((GV i.natAbs j.natAbs k:Nat):Int))∧Hid (zs=pad k (i.natAbs-j.natAbs))∧Below w.heap.size w wr) (fun _ _ iv _ _=>1048576-(intOf iv).toNat)
 case atStart=>exact ⟨0,none,0,[],0,om,rfl,rfl,rfl,om,om,by simp,aQ.nil _ _,by show _=_;simp[GV,Nat.mod_one],rfl,Below.refl _ _⟩
 case round=>
  obtain ⟨k,A',c',zs,u,hk,rfl,rfl,rfl,hu0,hu1,hzl,hown,HU,HZ,hbel⟩:=hrel;have Zm:aL wr A (av i):=hx.below hbel (Nat.le_refl _);have hyr:aL wr B (av j):=hy.below hbel (Nat.le_refl _);have hsz:=hbel.size;have hnx:=yc (av i) k;have hny:=yc (av j) k;have aQ1:=qx om HSX.out k;have aQ2:=qx om HSY.out k;by_cases hka:k<(av i).length
  · obtain ⟨b,o,rfl,hb,hc⟩:=Zm.2 om;have hcell:=hc k hka;have hm1:(k:Int)<((av i).length:Int):=om;clear hc;by_cases hkb:k<(av j).length
    · obtain ⟨b',o',rfl,hb',hc'⟩:=hyr.2 om;have hcell':=hc' k hkb;have hm2:(k:Int)<((av j).length:Int):=om;clear hc';have hstep:=lF i j k yC.out (s:=(nth (av i) k+10-u-nth (av j) k)) HU.out rfl;have hw8:0≤(nth (av i) k+10-u-nth (av j) k):=hstep.2.2;have hw9:(nth (av i) k+10-u-nth (av j) k)<20:=om;have e1:(nth (av i) k+10-u-nth (av j) k)%10=((((nth (av i) k+10-u-nth (av j) k)%10).toNat:Nat):Int):=om;have hC:=xw wr _ _ e1;have HC:=Lib.hid hC;have H8:Hid (∀x∈ [((nth (av i) k+10-u-nth (av j) k)%10).toNat],x<256):=by intro x hx';simp only[List.mem_cons,List.not_mem_nil,or_false] at hx';omega
      have HN:Hid (zs.length+ [((nth (av i) k+10-u-nth (av j) k)%10).toNat].length≤17592186044416):=by show zs.length+1≤_;omega
      have hq0:0≤1-(nth (av i) k+10-u-nth (av j) k)/10:=om;have HST:=Lib.hid hstep;clear e1 hC hstep;go_wp2_with (at_builtin;go_loud (refine kx rfl (.tmp 32) (.tmp 35) rfl w.heap.size A' c' zs rfl (hown.alloc _) [((nth (av i) k+10-u-nth (av j) k)%10).toNat] ⟨wr.heap.size,0,none⟩ 1 1 rfl rfl (by exact HC.out) H8.out HN.out (by simp;omega) (fun A3 c3 w3 hown3 hg3=>?_)))
      go_roundw
      case rel=>exact ⟨k+1,A3,c3,zs++ [((nth (av i) k+10-u-nth (av j) k)%10).toNat],_,om,by go_num,by simp,rfl,om,om,by simp;omega,hown3,HST.out.2.1,by show _=_;rw[HZ.out];exact HST.out.1,Below.zZ (hbel.alloc om _) (hown.alloc _) (by simp;omega) hg3⟩
      case measure=>simp[intOf];omega
    · have hm2:¬(k:Int)<((av j).length:Int):=om;have h0:=gn (av j) k om;have HS0:Hid (nth (av i) k+10-u=nth (av i) k+10-u-nth (av j) k):=by show _=_;rw[h0];omega
      clear h0;have hstep:=lF i j k yC.out (s:=(nth (av i) k+10-u)) HU.out HS0.out;have hw8:0≤(nth (av i) k+10-u):=hstep.2.2;have hw9:(nth (av i) k+10-u)<20:=om;have e1:(nth (av i) k+10-u)%10=((((nth (av i) k+10-u)%10).toNat:Nat):Int):=om;have hC:=xw wr _ _ e1;have HC:=Lib.hid hC;have H8:Hid (∀x∈ [((nth (av i) k+10-u)%10).toNat],x<256):=by intro x hx';simp only[List.mem_cons,List.not_mem_nil,or_false] at hx';omega
      have HN:Hid (zs.length+ [((nth (av i) k+10-u)%10).toNat].length≤17592186044416):=by show zs.length+1≤_;omega
      have hq0:0≤1-(nth (av i) k+10-u)/10:=om;have HST:=Lib.hid hstep;clear e1 hC hstep;go_wp2_with (at_builtin;go_loud (refine kx rfl (.tmp 32) (.tmp 35) rfl w.heap.size A' c' zs rfl (hown.alloc _) [((nth (av i) k+10-u)%10).toNat] ⟨wr.heap.size,0,none⟩ 1 1 rfl rfl (by exact HC.out) H8.out HN.out (by simp;omega) (fun A3 c3 w3 hown3 hg3=>?_)))
      go_roundw
      case rel=>exact ⟨k+1,A3,c3,zs++ [((nth (av i) k+10-u)%10).toNat],_,om,by go_num,by simp,rfl,om,om,by simp;omega,hown3,HST.out.2.1,by show _=_;rw[HZ.out];exact HST.out.1,Below.zZ (hbel.alloc om _) (hown.alloc _) (by simp;omega) hg3⟩
      case measure=>simp[intOf];omega
  · have hm1:¬(k:Int)<((av i).length:Int):=om;have hend:=NI i j k om;have Kl:val 10 zs=q.natAbs:=by rw[HZ.out,hend,HQ.out]
    have hsm:small 10 zs:=by rw[HZ.out];exact ysz _ _
    have HV:=Lib.hid Kl;have HSM:=Lib.hid hsm;clear Kl hsm hend;go_wp2_with (go_at_call 106;refine (qtq w.heap.size A' c' zs q _ hown HSM.out HV.out om).mono ?_;rintro e w4 ⟨rfl,iG,rfl⟩)
    go_ret
    exact ⟨A',c',rfl,iG,hbel⟩
end Go.Proofs.YtmnmebdmpigddaaGreatDoor
namespace Go.Proofs.YtmnmebdmpigddaaGreatDoor
open Go.RowKit Proofs.Tryz
theorem qov {xs ys:List Nat} (hs:small 10 xs) (hm:xh ys) (h:xs.length<ys.length):og (val 10 xs) (val 10 ys)= -1∧og (val 10 ys) (val 10 xs)=1:=by
 have:=kh (by decide:2≤10) hs hm h;unfold og;exact ⟨if_pos this,by rw[if_neg om,if_pos this]⟩
theorem vdx {xs ys:List Nat} (hs:small 10 xs) (h:xs.length=ys.length) {k:Nat} (hk:k<xs.length) (hd:∀j,k+1≤j→nth xs j=nth ys j) (hlt:nth xs k<nth ys k) :
 og (val 10 xs) (val 10 ys)= -1∧og (val 10 ys) (val 10 xs)=1:=by
 have:=yhz hs h hk (fun j hj _=>(ydq _ _ _ _).1 (hd j hj)) ((kD _ _ _ _).1 hlt);unfold og;exact ⟨if_pos this,by rw[if_neg om,if_pos this]⟩
theorem GY {xs ys:List Nat} (h:xs.length=ys.length) (hd:∀j,0≤j→nth xs j=nth ys j):og (val 10 xs) (val 10 ys)=0:=by
 exact aj3
set_option maxRecDepth 100000 in
set_option maxHeartbeats 400000 in
theorem GZ (A B:Option Addr) (c d:Nat) (xs ys:List Nat) (w:World) (hx:aL w A xs) (hy:aL w B ys) (hs:small 10 xs) (ht:small 10 ys) (hn:xh xs) (hm:xh ys)
 (hl:xs.length≤1048576) (hl':ys.length≤1048576) :
 Calls prog 133 #[.slice A xs.length c,.slice B ys.length d] w fun e w'=>e= .returned (.int .i64 (og (val 10 xs) (val 10 ys)))∧ ∃n,w'=w.drewN n:=by
 by_cases hlen:xs.length=ys.length
 · have hne:¬(xs.length:Int)<(ys.length:Int):=om;have hne2:¬(ys.length:Int)<(xs.length:Int):=om;have HL:=Lib.hid hlen;clear hlen;go_enter func133,ntmps133
   go_wp2
   go_loopw [5] (fun v wr=>∃k:Nat,k≤xs.length∧v= .int .i64 ((k:Int)-1)∧(∀j,k≤j→nth xs j=nth ys j)∧ ∃n,wr=w.drewN n) (fun v _=>(intOf v+1).toNat)
   case atStart=>exact ⟨xs.length,Nat.le_refl _,rfl,fun j hj=>by rw[gn xs j hj,gn ys j (by rw[←HL.out];exact hj)],0,rfl⟩
   case round=>
    obtain ⟨k,hk,rfl,hz,n,rfl⟩:=hrel;have HZ:=Lib.hid hz;clear hz;by_cases hk0:k=0
    · subst hk0;go_wp2
      go_ret
      exact ⟨xf (GY HL.out HZ.out).symm,n,rfl⟩
    · obtain ⟨m,rfl⟩:∃m,k=m+1:=⟨k-1,om⟩;obtain ⟨b,o,rfl,hb,hc⟩:=hx.2 om;obtain ⟨b',o',rfl,hb',hc'⟩:=hy.2 (by rw[←HL.out];omega);have hcell:=hc m om;have hcell':=hc' m (by rw[←HL.out];omega);have hm1:(m:Int)<(xs.length:Int):=om;have hm2:(m:Int)<(ys.length:Int):=by have:=HL.out;omega
      have hm0:(0:Int)≤(m:Int):=om;clear hc hc';rcases Int.lt_trichotomy (nth xs m) (nth ys m) with h | h | h
      · have hdl:decide (nth xs m<nth ys m)=true:=by simpa using h
        have H:=Lib.hid h;clear h;go_wp2
        go_quiet (fail)
        go_wp2
        go_ret
        exact ⟨xf (vdx hs HL.out om HZ.out H.out).1.symm,_,by simp only[World.drewN_drewN];rfl⟩
      · have hd1:decide (nth xs m<nth ys m)=false:=by simp[h]
        have hd2:decide (nth ys m<nth xs m)=false:=by simp[h]
        have H:=Lib.hid h;clear h;go_wp2
        go_quiet (fail)
        go_wp2
        go_quiet (fail)
        go_wp2
        go_roundw
        case rel=>exact ⟨m,om,rfl,fun j hj=>by
         by_cases e:j=m
         · rw[e];exact H.out
         · exact HZ.out j om,_,by first | rfl | (simp only[World.drewN_drewN];rfl)⟩
        case measure=>simp[intOf]
      · have hd1:decide (nth xs m<nth ys m)=false:=by simp;omega
        have hd2:decide (nth ys m<nth xs m)=true:=by simpa using h
        have H:=Lib.hid h;clear h;go_wp2
        go_quiet (fail)
        go_wp2
        go_quiet (fail)
        go_wp2
        go_ret
        exact ⟨xf (vdx ht HL.out.symm (by have:=HL.out;omega) (fun j hj=>(HZ.out j hj).symm) H.out).2.symm,_,by simp only[World.drewN_drewN];rfl⟩
 · rcases Nat.lt_or_ge xs.length ys.length with h | h
   · have hlt:(xs.length:Int)<(ys.length:Int):=om;go_enter func133,ntmps133
     go_wp2
     go_ret
     exact ⟨xf (qov hs hm h).1.symm,0,rfl⟩
   · have hlt:¬(xs.length:Int)<(ys.length:Int):=om;have hlt2:(ys.length:Int)<(xs.length:Int):=om;go_enter func133,ntmps133
     go_wp2
     go_ret
     exact ⟨xf (qov ht hn om).2.symm,0,rfl⟩
theorem Br (A B:Option Addr) (c d:Nat) (i j:Int) (w:World) (hx:aL w A (av i)) (hy:aL w B (av j)) (hl:(av i).length≤1048576) (hl':(av j).length≤1048576) :
 Calls prog 133 #[.slice A (av i).length c,.slice B (av j).length d] w fun e w'=>e= .returned (.int .i64 (og i.natAbs j.natAbs))∧ ∃n,w'=w.drewN n:=by
 have h:=GZ A B c d (av i) (av j) w hx hy (xn i) (xn j) (by rw[jl];exact xu de _) (by rw[jl];exact xu de _) hl hl';rwa [kG,kG] at h
end Go.Proofs.YtmnmebdmpigddaaGreatDoor
namespace Go.Proofs.YtmnmebdmpigddaaGreatDoor
open Go.RowKit
def cB (w:World) (A:Option Addr) (xs:List Nat):Prop:=
 (∀k,nth xs k<9223372036854775808)∧(0<xs.length→ ∃b o,A=some ⟨b,o,none⟩∧b<w.heap.size∧ ∀k,k<xs.length→w.cell? ⟨b,o+k,none⟩=some (.int .i64 (nth xs k)))
def qsz (ys:List Nat) (j:Nat):Value:=.int .i64 (nth ys j)
def bH (w:World) (g n:Nat) (ys:List Nat):Prop:=w.rowIs g 3 n (qsz ys)∧ys.length≤n
section
variable {w w':World} {g n:Nat} {ys:List Nat}
theorem bH.cell (h:bH w g n ys) {j:Nat} (hj:j<n):w.cell? ⟨g,j,none⟩=some (.int .i64 (nth ys j)):=h.1.cell hj
theorem bH.frozen (h:bH w g n ys) (j:Nat):w.frozen? ⟨g,j,none⟩=false:=h.1.frozen j
theorem bH.lt (h:bH w g n ys):g<w.heap.size:=h.1.lt
theorem bH.made (w:World) (n:Nat):bH (w.alloc (.cells (madeCells #[.int .i64 0] n) 3)) w.heap.size n []:=
 ⟨(World.rowIs_made w _ n _).congr fun i _=>by unfold qsz;rw[ysk],Nat.zero_le _⟩
theorem bH.snoc (h:bH w g n ys) (v:Nat) (hn:ys.length<n):bH (w.setCell ⟨g,ys.length,none⟩ (.int .i64 (v:Int))) g n (ys++ [v]):=
 ⟨(h.1.set ys.length _).congr fun i _=>by unfold qsz;rw[j5];split<;>rfl,by simp;omega⟩
theorem bH.bY (h:bH w g n ys) (v:Int) (h0:0≤v) {k:Nat} (hk:ys.length=k) (hn:k<n):bH (w.setCell ⟨g,k,none⟩ (.int .i64 v)) g n (ys++ [v.toNat]):=by
 exact RP
theorem bH.set (h:bH w g n ys) (i v:Nat) (hi:i<ys.length):bH (w.setCell ⟨g,i,none⟩ (.int .i64 (v:Int))) g n (ys.set i v):=
 ⟨(h.1.set i _).congr fun j _=>by unfold qsz;rw[qkv _ _ _ hi];split<;>rfl,by simpa using h.2⟩
theorem bH.setInt (h:bH w g n ys) (v:Int) (h0:0≤v) {i:Nat} (hi:i<ys.length):bH (w.setCell ⟨g,i,none⟩ (.int .i64 v)) g n (ys.set i v.toNat):=by
 exact RO
theorem bH.of_block (h:bH w g n ys) (e:w'.heap[g]? =w.heap[g]?):bH w' g n ys:=⟨h.1.of_block e,h.2⟩
theorem bH.alloc (h:bH w g n ys) (o:Obj):bH (w.alloc o) g n ys:=⟨h.1.alloc o,h.2⟩
theorem bH.drew (h:bH w g n ys):bH w.drew g n ys:=h
theorem bH.drewN (h:bH w g n ys) (k:Nat):bH (w.drewN k) g n ys:=h
theorem bH.setOther (h:bH w g n ys) {a:Addr} (ha:g≠a.block) (v:Value):bH (w.setCell a v) g n ys:=⟨h.1.setOther ha v,h.2⟩
theorem bH.below {B:Nat} (h:bH w g n ys) (hb:Below B w w') (hg:g<B):bH w' g n ys:=h.of_block (hb.block g hg)
theorem bH.fill (h:bH w g n ys):bH w g n (ys++List.replicate (n-ys.length) 0):=by
 refine ⟨h.1.congr fun i hi=>?_,by have:=h.2;simp;omega⟩;unfold qsz nth;exact RY
end
def bM (w:World) (base:Nat) (A:Option Addr) (c:Nat) (xs:List Nat):Prop:=
 w.ownsRow base 3 1 (.slice A xs.length c) xs.length (xs.map fun x:Nat=>Value.int .i64 (x:Int))∧ ∀x∈xs,x<9223372036854775808
section
variable {w w':World} {base:Nat} {A:Option Addr} {c:Nat} {xs:List Nat}
theorem nJ (h:∀x∈xs,x<9223372036854775808) (k:Nat):nth xs k<9223372036854775808:=by
 exact RV
theorem bM.nums (h:bM w base A c xs):cB w A xs:=by
 refine ⟨nJ h.2,fun h0=>?_⟩;exact Sb
theorem bM.nil (w:World) (base:Nat):bM w base none 0 []:=⟨World.ownsRow_nil _ _ _ _,fun _ h=>by cases h⟩
theorem bM.FW {g n:Nat} {ys:List Nat} (h:bH w g n ys) (hb:base≤g) (hc:n≤maxLen) (hx:xs.length≤n) (he:∀j,j<xs.length→nth ys j=nth xs j) (h64:∀x∈xs,x<9223372036854775808):bM w base (some ⟨g,0,none⟩) n xs:=by
 obtain ⟨⟨cur,hh,hsz,hcell⟩,hle⟩:=h;refine ⟨⟨by simp,.inr ⟨g,n,cur,rfl,hb,hh,hx,hc,om,?_⟩⟩,h64⟩;apply List.ext_getElem?
 intro j;rw[List.getElem?_take];by_cases hj:j<xs.length
 · rw[if_pos om];have h1:=hcell j om;rw[Array.getElem?_toList,h1];unfold qsz;rw[he j hj];simp[nth,hj]
 · rw[if_neg om,List.getElem?_eq_none (by simpa using Nat.le_of_not_lt hj)]
theorem bM.kept {row:Option Nat} (h:bM w base A c xs) (hg:w.grownBy w' row) (hne:(Value.slice A xs.length c).ownBlock=none∨(Value.slice A xs.length c).ownBlock≠row):bM w' base A c xs:=⟨h.1.kept hg hne,h.2⟩
theorem bM.below {B:Nat} (h:bM w base A c xs) (hb:Below B w w') (hB:w.heap.size≤B):bM w' base A c xs:=
 h.kept (row:=none) ⟨hb.os,hb.tape,hb.output,hb.size,fun k hk _=>hb.block k om⟩ (by cases (Value.slice A xs.length c).ownBlock<;>simp)
theorem bM.alloc (h:bM w base A c xs) (o:Obj):bM (w.alloc o) base A c xs:=⟨h.1.alloc o,h.2⟩
theorem bM.drew (h:bM w base A c xs):bM w.drew base A c xs:=h
theorem bM.drewN (h:bM w base A c xs) (k:Nat):bM (w.drewN k) base A c xs:=h
theorem bM.mono {b':Nat} (h:bM w base A c xs) (hb:b'≤base):bM w b' A c xs:=by
 exact RQ
theorem bM.setCell (h:bM w base A c xs) {p:Addr} (hp:∀q,A=some q→q.block≠p.block) (u:Value):bM (w.setCell p u) base A c xs:=by
 exact RZ
theorem bM.aM (h:bM w base A c xs) {p:Addr} (hp:p.block<base) (u:Value):bM (w.setCell p u) base A c xs:=
 ⟨ownsRow_setCell_below h.1 hp u,h.2⟩
theorem bM.set2 (h:bM w base A c xs) {g:Nat} {t:TypeId} {x y:Value} (hb:aB w g t #[x,y]) (ht:3≠t) (u v:Value):bM ((w.setCell ⟨g,0,none⟩ u).setCell ⟨g,1,none⟩ v) base A c xs:=by
 exact RU
theorem bM.ge (h:bM w base A c xs):∀q,A=some q→base≤q.block∧q.block<w.heap.size:=by
 intro q hq;subst hq;exact h.1.lt q.block rfl
theorem cB.keep (h:cB w A xs) (hs:w.heap.size≤w'.heap.size) (hk:∀p:Addr,p.block<w.heap.size→w'.cell? p=w.cell? p):cB w' A xs:=
 ⟨h.1,fun h0=>by
  obtain ⟨b,o,rfl,hb,hc⟩:=h.2 h0;exact ⟨b,o,rfl,om,fun k hk'=>(hk _ hb).trans (hc k hk')⟩⟩
theorem cB.alloc (h:cB w A xs) (o:Obj):cB (w.alloc o) A xs:=h.keep (by simp) fun p hp=>World.cell?_alloc_lt w o p hp
theorem cB.drew (h:cB w A xs):cB w.drew A xs:=h
theorem cB.drewN (h:cB w A xs) (k:Nat):cB (w.drewN k) A xs:=h
theorem cB.below {B:Nat} (h:cB w A xs) (hb:Below B w w') (hB:w.heap.size≤B):cB w' A xs:=h.keep hb.size fun _ hp=>hb.cell om
theorem cB.setCell (h:cB w A xs) {p:Addr} (hp:∀q,A=some q→q.block≠p.block) (u:Value):cB (w.setCell p u) A xs:=
 ⟨h.1,fun h0=>by
  obtain ⟨b,o,rfl,hb,hc⟩:=h.2 h0;refine ⟨b,o,rfl,by simpa [World.setCell] using hb,fun k hk'=>?_⟩;rw[World.cell?_setCell_other _ _ _ _ (fun e=>hp _ rfl (by rw[e]))];exact hc k hk'⟩
end
theorem bM.iU {w:World} {base n:Nat} {v:Value} {xs:List Nat} (h:w.ownsRow base 3 1 v n (xs.map fun x:Nat=>Value.int .i64 (x:Int))) (h64:∀x∈xs,x<9223372036854775808) :
 ∃A c,v= .slice A xs.length c∧bM w base A c xs:=by
 have hn:xs.length=n:=by simpa using h.1
 subst hn;rcases h.2 with ⟨rfl,hz⟩ | ⟨g,cap,cur,rfl,r⟩
 · exact ⟨none,0,by rw[hz],by rw[List.eq_nil_of_length_eq_zero hz];exact bM.nil _ _⟩
 · exact FV
theorem bM.cut {w:World} {base:Nat} {A:Option Addr} {c:Nat} {xs:List Nat} (h:bM w base A c xs) (hc:xs≠ []) {k:Nat} (hk:k≤xs.length):bM w base A c (xs.take k):=by
 exact Sc
theorem bH.nums {w':World} {g len:Nat} {zs:List Nat} (h:bH w' g len zs) (hz:zs.length=len) (h64:∀x∈zs,x<9223372036854775808):cB w' (some ⟨g,0,none⟩) zs:=
 ⟨nJ h64,fun _=>⟨g,0,rfl,h.lt,fun k hk=>by rw[Nat.zero_add];exact h.cell om⟩⟩
def inR (v:Int):Prop:=-9223372036854775808≤v∧v≤9223372036854775807
instance (v:Int):Decidable (inR v):=by unfold inR;infer_instance
@[irreducible] def aS0 (ok:Bool) (v:Int):Int:=if ok then (if inR v then v else 0) else 0
@[irreducible] def aS1 (ok:Bool) (v:Int):Int:=if ok then (if inR v then 0 else 7) else 3
def aS2 (W:World) (ok:Bool) (v:Int) (e:Ending) (w':World):Prop:=e= .returned (.tuple #[.int .i64 (aS0 ok v),.int .i64 (aS1 ok v)])∧Below W.heap.size W w'
section
variable (A:Option Addr) (c:Nat) (xs:List Nat) (w:World)
end
end Go.Proofs.YtmnmebdmpigddaaGreatDoor
namespace Go.Proofs.YtmnmebdmpigddaaGreatDoor
open Go.RowKit
@[irreducible] def smV (i:Int):Int:=if inR i then i else 0
def aK4 (W:World) (i:Int) (e:Ending) (w':World):Prop:=e= .returned (.tuple #[.int .i64 (smV i),.bool (decide (inR i))])∧Below W.heap.size W w'
end Go.Proofs.YtmnmebdmpigddaaGreatDoor
