/- Texts of this claim. -/
namespace Go.Proofs.YtmnmebdmpigddaaGreatDoor
theorem om {P:Prop} (h:P:=by omega):P:=h
def val (b:Nat):List Nat→Nat
 | []=>0
 | x::l=>x+b*val b l
def small (b:Nat) (l:List Nat):Prop:=∀x∈l,x<b
def vcq (b:Nat):Nat→Nat→List Nat
 | 0,_=>[]
 | f+1,n=>if n=0 then [] else n%b::vcq b f (n/b)
def aS (b n:Nat):List Nat:=vcq b n n
def oj (l:List Nat):Prop:=l.length=0∨l.getD (l.length-1) 0≠0
section
variable {b:Nat}
theorem qnq (l m:List Nat):val b (l++m)=val b l+b^l.length*val b m:=by
 induction l with
 | nil=>simp[val]
 | cons x l ih=>
  simp only[List.cons_append,val,ih,List.length_cons,Nat.pow_succ,Nat.mul_add]
  rw[Nat.mul_comm (b^l.length) b,Nat.mul_assoc];omega
theorem zrz (l:List Nat) (x:Nat):val b (l++ [x])=val b l+b^l.length*x:=by
 rw[qnq];simp[val]
theorem jM (l:List Nat) (k:Nat) (h:k<l.length):l.take (k+1)=l.take k++ [l.getD k 0]:=by
 rw[List.take_succ_eq_append_getElem h];simp[List.getD,List.getElem?_eq_getElem h]
theorem ylk (l:List Nat) (k:Nat) (h:l.length≤k):l.getD k 0=0:=by
 simp[List.getD,List.getElem?_eq_none h]
theorem yg (l:List Nat) (k:Nat):val b (l.take (k+1))=val b (l.take k)+b^k*l.getD k 0:=by
 by_cases h:k<l.length
 · rw[jM l k h,zrz,List.length_take,Nat.min_eq_left om]
 · rw[List.take_of_length_le om,List.take_of_length_le om,ylk l k om];simp
theorem vk (l:List Nat) (k:Nat) (h:l.length≤k):val b (l.take k)=val b l:=by rw[List.take_of_length_le h]
theorem yoq {l m:List Nat}:small b (l++m)↔small b l∧small b m:=by
 unfold small;constructor
 · intro h;exact ⟨fun x hx=>h x (by simp[hx]),fun x hx=>h x (by simp[hx])⟩
 · rintro ⟨h1,h2⟩ x hx;rcases List.mem_append.1 hx with h | h
   · exact h1 x h
   · exact h2 x h
theorem jy {l:List Nat} {x:Nat} (h:small b l) (hx:x<b):small b (l++ [x]):=
 yoq.2 ⟨h,fun y hy=>by simp at hy;subst hy;exact hx⟩
theorem ke:small b []:=fun _ h=>by cases h
theorem zhz {x:Nat} {l:List Nat}:small b (x::l)↔x<b∧small b l:=by
 unfold small;constructor
 · intro h;exact ⟨h x (by simp),fun y hy=>h y (by simp[hy])⟩
 · rintro ⟨h1,h2⟩ y hy;rcases List.mem_cons.1 hy with h | h
   · subst h;exact h1
   · exact h2 y h
theorem qnk {l:List Nat} (hb:0<b) (h:small b l) (k:Nat):l.getD k 0<b:=by
 by_cases hk:k<l.length
 · simp only[List.getD,List.getElem?_eq_getElem hk,Option.getD_some];exact h _ (List.getElem_mem hk)
 · rw[ylk l k om];exact hb
theorem oU {l:List Nat} (h:∀k,k<l.length→l.getD k 0<b):small b l:=by
 intro x hx;obtain ⟨k,hk,rfl⟩:=List.getElem_of_mem hx;have:=h k hk;simpa [List.getD,List.getElem?_eq_getElem hk] using this
theorem gm {l:List Nat} (h:small b l) (k:Nat):small b (l.take k):=fun x hx=>h x (List.mem_of_mem_take hx)
theorem kp {l:List Nat} (h:small b l):val b l<b^l.length:=by
 induction l with
 | nil=>simp[val]
 | cons x l ih=>
  obtain ⟨h1,h2⟩:=zhz.1 h;have:=ih h2;simp only[val,List.length_cons,Nat.pow_succ]
  have h3:b*(val b l+1)≤b*b^l.length:=Nat.mul_le_mul_left b this;rw[Nat.mul_add,Nat.mul_one] at h3;rw[Nat.mul_comm (b^l.length) b];omega
theorem vG (hb:2≤b):∀(f g n:Nat),n≤f→n≤g→vcq b f n=vcq b g n:=by
 intro f;induction f with
 | zero=>
  intro g n hf _;obtain rfl:n=0:=om;cases g<;>simp[vcq]
 | succ f ih=>
  intro g n hf hg;by_cases hn:n=0
  · subst hn;cases g<;>simp[vcq]
  · obtain ⟨g,rfl⟩:∃g',g=g'+1:=⟨g-1,om⟩;have hlt:n/b<n:=Nat.div_lt_self om hb;simp only[vcq,hn,if_false]
    rw[ih g (n/b) om om]
theorem ymq:aS b 0= []:=rfl
theorem kg (hb:2≤b) {n:Nat} (hn:n≠0):aS b n=n%b::aS b (n/b):=by
 obtain ⟨m,rfl⟩:∃m,n=m+1:=⟨n-1,om⟩;have hlt:(m+1)/b<m+1:=Nat.div_lt_self om hb;show vcq b (m+1) (m+1)=_
 simp only[vcq,hn,if_false]
 rw[vG hb m ((m+1)/b) _ om (Nat.le_refl _)];rfl
theorem vcz (hb:2≤b) (P:Nat→Prop) (h0:P 0) (hs:∀n,n≠0→P (n/b)→P n):∀n,P n:=by
 intro n;induction n using Nat.strongRecOn with
 | _ n ih=>
  by_cases hn:n=0
  · subst hn;exact h0
  · exact hs n hn (ih _ (Nat.div_lt_self om hb))
theorem kx (hb:2≤b) (n:Nat):val b (aS b n)=n:=by
 refine vcz hb (fun n=>val b (aS b n)=n) rfl (fun n hn ih=>?_) n;rw[kg hb hn,val,ih];exact Nat.mod_add_div n b
theorem xd (hb:2≤b) (n:Nat):small b (aS b n):=by
 refine vcz hb (fun n=>small b (aS b n)) ke (fun n hn ih=>?_) n;rw[kg hb hn];exact zhz.2 ⟨Nat.mod_lt _ om,ih⟩
theorem RL (hb:2≤b) {n:Nat} (hn:n≠0):0<(aS b n).length:=by rw[kg hb hn];simp
theorem zbv (hb:2≤b) (n:Nat):oj (aS b n):=by
 refine vcz hb (fun n=>oj (aS b n)) (Or.inl rfl) (fun n hn ih=>?_) n;right
 rw[kg hb hn];by_cases hq:n/b=0
 · rw[hq,ymq];have hlt:n<b:=by
    rcases Nat.lt_or_ge n b with h | h
    · exact h
    · have:=Nat.div_pos h om;omega
   simp[Nat.mod_eq_of_lt hlt,hn]
 · have hp:=RL hb hq;rcases ih with h | h
   · omega
   · rw[List.length_cons,Nat.add_sub_cancel];obtain ⟨m,hm⟩:∃m,(aS b (n/b)).length=m+1:=⟨(aS b (n/b)).length-1,om⟩;rw[hm] at h ⊢;simpa using h
theorem qbq {x:Nat} {l:List Nat} (h:oj (x::l)):oj l:=by
 rcases h with h | h
 · simp at h
 · by_cases hl:l.length=0
   · exact Or.inl hl
   · right
     obtain ⟨m,hm⟩:∃m,l.length=m+1:=⟨l.length-1,om⟩;rw[List.length_cons,Nat.add_sub_cancel,hm] at h;rw[hm];simpa using h
theorem ziz (hb:2≤b):∀ {l:List Nat},oj l→l.length≠0→val b l≠0:=by
 intro l;induction l with
 | nil=>intro _ h;simp at h
 | cons x l ih=>
  intro h _;by_cases hl:l.length=0
  · obtain rfl:=List.eq_nil_of_length_eq_zero hl;rcases h with h | h
    · simp at h
    · simp at h;simp[val];exact h
  · have:=ih (qbq h) hl;have h2:0<b*val b l:=Nat.mul_pos om om;simp only[val];omega
theorem vH (hb:2≤b):∀ {l:List Nat},small b l→oj l→l=aS b (val b l):=by
 intro l;induction l with
 | nil=>intro _ _;rfl
 | cons x l ih=>
  intro hs hl;obtain ⟨h1,h2⟩:=zhz.1 hs;have hne:=ziz hb hl (by simp);rw[kg hb hne];have hm:val b (x::l)%b=x:=by simp only[val];rw[Nat.add_mul_mod_self_left];exact Nat.mod_eq_of_lt h1
  have hd:val b (x::l)/b=val b l:=by simp only[val];rw[Nat.add_mul_div_left _ _ om,Nat.div_eq_of_lt h1];omega
  rw[hm,hd,←ih h2 (qbq hl)]
theorem jg (l:List Nat) (k:Nat) (h:∀j,k≤j→j<l.length→l.getD j 0=0):val b (l.take k)=val b l:=by
 by_cases hk:l.length≤k
 · exact vk l k hk
 · have:∀d,k+d≤l.length→val b (l.take (k+d))=val b (l.take k):=by
    intro d;induction d with
    | zero=>intro _;rfl
    | succ d ih=>
     intro hd;rw[←Nat.add_assoc,yg,h (k+d) om om,ih om];simp
   have h2:=this (l.length-k) om;rw[←h2,show k+(l.length-k)=l.length from om,List.take_length]
theorem Ab (hb:2≤b) {l:List Nat} {k:Nat} (hs:small b l) (hk:k≤l.length) (h0:∀j,k≤j→j<l.length→l.getD j 0=0) (hl:0<k→l.getD (k-1) 0≠0) :
 l.take k=aS b (val b l):=by
 rw[←jg (b:=b) l k h0];refine vH hb (gm hs k) ?_;by_cases hk0:k=0
 · left;simp[hk0]
 · right
   have h2:=hl om;rw[List.length_take,Nat.min_eq_left hk];have e:(l.take k).getD (k-1) 0=l.getD (k-1) 0:=by
    simp only[List.getD,List.getElem?_take];rw[if_pos om]
   rw[e];exact h2
theorem Ac (hb:2≤b) (k:Nat):0<b^k:=Nat.pow_pos om
theorem jN (hb:2≤b):∀ {l:List Nat},oj l→l.length≠0→b^(l.length-1)≤val b l:=by
 intro l;induction l with
 | nil=>intro _ h;simp at h
 | cons x l ih=>
  intro h _;by_cases hl:l.length=0
  · obtain rfl:=List.eq_nil_of_length_eq_zero hl;have:=ziz hb h (by simp);simp only[List.length_cons,List.length_nil,Nat.zero_add,Nat.sub_self,Nat.pow_zero];omega
  · have h1:=ih (qbq h) hl;obtain ⟨m,hm⟩:∃m,l.length=m+1:=⟨l.length-1,om⟩;rw[hm] at h1;simp only[List.length_cons,hm,Nat.add_sub_cancel,val] at h1 ⊢
    rw[Nat.pow_succ,Nat.mul_comm];have:=Nat.mul_le_mul_left b h1;omega
theorem zz (hb:2≤b) (n k:Nat):(aS b n).length≤k↔n<b^k:=by
 have hv:=kx hb n;constructor
 · intro h;have h1:=kp (xd hb n);rw[hv] at h1;exact Nat.lt_of_lt_of_le h1 (Nat.pow_le_pow_right om h)
 · intro h;rcases Nat.lt_or_ge k (aS b n).length with hk | hk
   · have h1:=jN hb (zbv hb n) om;rw[hv] at h1;have h2:b^k≤b^((aS b n).length-1):=Nat.pow_le_pow_right om om;omega
   · exact hk
theorem xi {l m:List Nat} (hb:2≤b) (hl:small b l) (hm:oj m) (h:l.length<m.length):val b l<val b m:=by
 have h1:=kp hl;have h2:=jN hb hm om;have h3:b^l.length≤b^(m.length-1):=Nat.pow_le_pow_right om om;omega
theorem qez (l:List Nat) (k:Nat):val b l=val b (l.take k)+b^(l.take k).length*val b (l.drop k):=by
 conv=>lhs;rw[←List.take_append_drop k l]
 exact qnq _ _
theorem yuz {l m:List Nat} (hl:small b l) (h:l.length=m.length) {k:Nat} (hk:k<l.length)
 (hd:∀j,k<j→j<l.length→l.getD j 0=m.getD j 0) (hlt:l.getD k 0<m.getD k 0):val b l<val b m:=by
 have e1:=qez (b:=b) l (k+1);have e2:=qez (b:=b) m (k+1);have hdrop:l.drop (k+1)=m.drop (k+1):=by
  apply List.ext_getElem?
  intro j;rw[List.getElem?_drop,List.getElem?_drop];by_cases hj:k+1+j<l.length
  · have h3:=hd (k+1+j) om hj;simp only[List.getD,List.getElem?_eq_getElem hj,List.getElem?_eq_getElem (show k+1+j<m.length from om),Option.getD_some] at h3
    rw[List.getElem?_eq_getElem hj,List.getElem?_eq_getElem (show k+1+j<m.length from om),h3]
  · rw[List.getElem?_eq_none om,List.getElem?_eq_none om]
 rw[List.length_take,Nat.min_eq_left om] at e1 e2;rw[hdrop] at e1;rw[yg] at e1 e2;have h1:=kp (gm hl k);rw[List.length_take,Nat.min_eq_left om] at h1;have h2:b^k*(l.getD k 0+1)≤b^k*m.getD k 0:=Nat.mul_le_mul_left _ hlt;rw[Nat.mul_add,Nat.mul_one] at h2;omega
def xz (m n:Nat):Int:=if m<n then -1 else if n<m then 1 else 0
end
end Go.Proofs.YtmnmebdmpigddaaGreatDoor
