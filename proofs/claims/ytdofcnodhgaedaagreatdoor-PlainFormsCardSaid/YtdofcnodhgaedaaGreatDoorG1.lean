/- Texts of this claim. -/
namespace Go.Proofs.YtdofcnodhgaedaaGreatDoor
theorem om {P:Prop} (h:P:=by omega):P:=h
def val (b:Nat):List Nat→Nat
 | []=>0
 | x::l=>x+b*val b l
def zi (b:Nat) (l:List Nat):Prop:=∀x∈l,x<b
def Rv (b:Nat):Nat→Nat→List Nat
 | 0,_=>[]
 | f+1,n=>if n=0 then [] else n%b::Rv b f (n/b)
def aI (b n:Nat):List Nat:=Rv b n n
def xg (l:List Nat):Prop:=l.length=0∨l.getD (l.length-1) 0≠0
section
variable {b:Nat}
theorem yeq (l m:List Nat):val b (l++m)=val b l+b^l.length*val b m:=by
 induction l with
 | nil=>simp[val]
 | cons x l ih=>
  simp only[List.cons_append,val,ih,List.length_cons,Nat.pow_succ,Nat.mul_add]
  rw[Nat.mul_comm (b^l.length) b,Nat.mul_assoc];omega
theorem YO (l:List Nat) (x:Nat):val b (l++ [x])=val b l+b^l.length*x:=by
 rw[yeq];simp[val]
theorem kT (l:List Nat) (k:Nat) (h:k<l.length):l.take (k+1)=l.take k++ [l.getD k 0]:=by
 rw[List.take_succ_eq_append_getElem h];simp[List.getD,List.getElem?_eq_getElem h]
theorem zmx (l:List Nat) (k:Nat) (h:l.length≤k):l.getD k 0=0:=by
 simp[List.getD,List.getElem?_eq_none h]
theorem zu (l:List Nat) (k:Nat):val b (l.take (k+1))=val b (l.take k)+b^k*l.getD k 0:=by
 by_cases h:k<l.length
 · rw[kT l k h,YO,List.length_take,Nat.min_eq_left om]
 · rw[List.take_of_length_le om,List.take_of_length_le om,zmx l k om];simp
theorem yr (l:List Nat) (k:Nat) (h:l.length≤k):val b (l.take k)=val b l:=by rw[List.take_of_length_le h]
theorem zpx {l m:List Nat}:zi b (l++m)↔zi b l∧zi b m:=by
 unfold zi;constructor
 · intro h;exact ⟨fun x hx=>h x (by simp[hx]),fun x hx=>h x (by simp[hx])⟩
 · rintro ⟨h1,h2⟩ x hx;rcases List.mem_append.1 hx with h | h
   · exact h1 x h
   · exact h2 x h
theorem vn {l:List Nat} {x:Nat} (h:zi b l) (hx:x<b):zi b (l++ [x]):=
 zpx.2 ⟨h,fun y hy=>by simp at hy;subst hy;exact hx⟩
theorem jg:zi b []:=fun _ h=>by cases h
theorem oh {x:Nat} {l:List Nat}:zi b (x::l)↔x<b∧zi b l:=by
 unfold zi;constructor
 · intro h;exact ⟨h x (by simp),fun y hy=>h y (by simp[hy])⟩
 · rintro ⟨h1,h2⟩ y hy;rcases List.mem_cons.1 hy with h | h
   · subst h;exact h1
   · exact h2 y h
theorem zov {l:List Nat} (hb:0<b) (h:zi b l) (k:Nat):l.getD k 0<b:=by
 by_cases hk:k<l.length
 · simp only[List.getD,List.getElem?_eq_getElem hk,Option.getD_some];exact h _ (List.getElem_mem hk)
 · rw[zmx l k om];exact hb
theorem mZ {l:List Nat} (h:∀k,k<l.length→l.getD k 0<b):zi b l:=by
 intro x hx;obtain ⟨k,hk,rfl⟩:=List.getElem_of_mem hx;have:=h k hk;simpa [List.getD,List.getElem?_eq_getElem hk] using this
theorem vm {l:List Nat} (h:zi b l) (k:Nat):zi b (l.take k):=fun x hx=>h x (List.mem_of_mem_take hx)
theorem gj {l:List Nat} (h:zi b l):val b l<b^l.length:=by
 induction l with
 | nil=>simp[val]
 | cons x l ih=>
  obtain ⟨h1,h2⟩:=oh.1 h;have:=ih h2;simp only[val,List.length_cons,Nat.pow_succ]
  have h3:b*(val b l+1)≤b*b^l.length:=Nat.mul_le_mul_left b this;rw[Nat.mul_add,Nat.mul_one] at h3;rw[Nat.mul_comm (b^l.length) b];omega
theorem rW (hb:2≤b):∀(f g n:Nat),n≤f→n≤g→Rv b f n=Rv b g n:=by
 intro f;induction f with
 | zero=>
  intro g n hf _;obtain rfl:n=0:=om;cases g<;>simp[Rv]
 | succ f ih=>
  intro g n hf hg;by_cases hn:n=0
  · subst hn;cases g<;>simp[Rv]
  · obtain ⟨g,rfl⟩:∃g',g=g'+1:=⟨g-1,om⟩;have hlt:n/b<n:=Nat.div_lt_self om hb;simp only[Rv,hn,if_false]
    rw[ih g (n/b) om om]
theorem znx:aI b 0= []:=rfl
theorem ga (hb:2≤b) {n:Nat} (hn:n≠0):aI b n=n%b::aI b (n/b):=by
 obtain ⟨m,rfl⟩:∃m,n=m+1:=⟨n-1,om⟩;have hlt:(m+1)/b<m+1:=Nat.div_lt_self om hb;show Rv b (m+1) (m+1)=_
 simp only[Rv,hn,if_false]
 rw[rW hb m ((m+1)/b) _ om (Nat.le_refl _)];rfl
theorem ynk (hb:2≤b) (P:Nat→Prop) (h0:P 0) (hs:∀n,n≠0→P (n/b)→P n):∀n,P n:=by
 intro n;induction n using Nat.strongRecOn with
 | _ n ih=>
  by_cases hn:n=0
  · subst hn;exact h0
  · exact hs n hn (ih _ (Nat.div_lt_self om hb))
theorem jj (hb:2≤b) (n:Nat):val b (aI b n)=n:=by
 refine ynk hb (fun n=>val b (aI b n)=n) rfl (fun n hn ih=>?_) n;rw[ga hb hn,val,ih];exact Nat.mod_add_div n b
theorem jo (hb:2≤b) (n:Nat):zi b (aI b n):=by
 refine ynk hb (fun n=>zi b (aI b n)) jg (fun n hn ih=>?_) n;rw[ga hb hn];exact oh.2 ⟨Nat.mod_lt _ om,ih⟩
theorem YP (hb:2≤b) {n:Nat} (hn:n≠0):0<(aI b n).length:=by rw[ga hb hn];simp
theorem zav (hb:2≤b) (n:Nat):xg (aI b n):=by
 refine ynk hb (fun n=>xg (aI b n)) (Or.inl rfl) (fun n hn ih=>?_) n;right
 rw[ga hb hn];by_cases hq:n/b=0
 · rw[hq,znx];have hlt:n<b:=by
    rcases Nat.lt_or_ge n b with h | h
    · exact h
    · have:=Nat.div_pos h om;omega
   simp[Nat.mod_eq_of_lt hlt,hn]
 · have hp:=YP hb hq;rcases ih with h | h
   · omega
   · rw[List.length_cons,Nat.add_sub_cancel];obtain ⟨m,hm⟩:∃m,(aI b (n/b)).length=m+1:=⟨(aI b (n/b)).length-1,om⟩;rw[hm] at h ⊢;simpa using h
theorem zxx {x:Nat} {l:List Nat} (h:xg (x::l)):xg l:=by
 rcases h with h | h
 · simp at h
 · by_cases hl:l.length=0
   · exact Or.inl hl
   · right
     obtain ⟨m,hm⟩:∃m,l.length=m+1:=⟨l.length-1,om⟩;rw[List.length_cons,Nat.add_sub_cancel,hm] at h;rw[hm];simpa using h
theorem xh (hb:2≤b):∀ {l:List Nat},xg l→l.length≠0→val b l≠0:=by
 intro l;induction l with
 | nil=>intro _ h;simp at h
 | cons x l ih=>
  intro h _;by_cases hl:l.length=0
  · obtain rfl:=List.eq_nil_of_length_eq_zero hl;rcases h with h | h
    · simp at h
    · simp at h;simp[val];exact h
  · have:=ih (zxx h) hl;have h2:0<b*val b l:=Nat.mul_pos om om;simp only[val];omega
theorem rX (hb:2≤b):∀ {l:List Nat},zi b l→xg l→l=aI b (val b l):=by
 intro l;induction l with
 | nil=>intro _ _;rfl
 | cons x l ih=>
  intro hs hl;obtain ⟨h1,h2⟩:=oh.1 hs;have hne:=xh hb hl (by simp);rw[ga hb hne];have hm:val b (x::l)%b=x:=by simp only[val];rw[Nat.add_mul_mod_self_left];exact Nat.mod_eq_of_lt h1
  have hd:val b (x::l)/b=val b l:=by simp only[val];rw[Nat.add_mul_div_left _ _ om,Nat.div_eq_of_lt h1];omega
  rw[hm,hd,←ih h2 (zxx hl)]
theorem qp (l:List Nat) (k:Nat) (h:∀j,k≤j→j<l.length→l.getD j 0=0):val b (l.take k)=val b l:=by
 by_cases hk:l.length≤k
 · exact yr l k hk
 · have:∀d,k+d≤l.length→val b (l.take (k+d))=val b (l.take k):=by
    intro d;induction d with
    | zero=>intro _;rfl
    | succ d ih=>
     intro hd;rw[←Nat.add_assoc,zu,h (k+d) om om,ih om];simp
   have h2:=this (l.length-k) om;rw[←h2,show k+(l.length-k)=l.length from om,List.take_length]
theorem xJ (hb:2≤b) {l:List Nat} {k:Nat} (hs:zi b l) (hk:k≤l.length) (h0:∀j,k≤j→j<l.length→l.getD j 0=0) (hl:0<k→l.getD (k-1) 0≠0) :
 l.take k=aI b (val b l):=by
 rw[←qp (b:=b) l k h0];refine rX hb (vm hs k) ?_;by_cases hk0:k=0
 · left;simp[hk0]
 · right
   have h2:=hl om;rw[List.length_take,Nat.min_eq_left hk];have e:(l.take k).getD (k-1) 0=l.getD (k-1) 0:=by
    simp only[List.getD,List.getElem?_take];rw[if_pos om]
   rw[e];exact h2
theorem xK (hb:2≤b) (k:Nat):0<b^k:=Nat.pow_pos om
theorem rY (hb:2≤b):∀ {l:List Nat},xg l→l.length≠0→b^(l.length-1)≤val b l:=by
 intro l;induction l with
 | nil=>intro _ h;simp at h
 | cons x l ih=>
  intro h _;by_cases hl:l.length=0
  · obtain rfl:=List.eq_nil_of_length_eq_zero hl;have:=xh hb h (by simp);simp only[List.length_cons,List.length_nil,Nat.zero_add,Nat.sub_self,Nat.pow_zero];omega
  · have h1:=ih (zxx h) hl;obtain ⟨m,hm⟩:∃m,l.length=m+1:=⟨l.length-1,om⟩;rw[hm] at h1;simp only[List.length_cons,hm,Nat.add_sub_cancel,val] at h1 ⊢
    rw[Nat.pow_succ,Nat.mul_comm];have:=Nat.mul_le_mul_left b h1;omega
theorem yp (hb:2≤b) (n k:Nat):(aI b n).length≤k↔n<b^k:=by
 have hv:=jj hb n;constructor
 · intro h;have h1:=gj (jo hb n);rw[hv] at h1;exact Nat.lt_of_lt_of_le h1 (Nat.pow_le_pow_right om h)
 · intro h;rcases Nat.lt_or_ge k (aI b n).length with hk | hk
   · have h1:=rY hb (zav hb n) om;rw[hv] at h1;have h2:b^k≤b^((aI b n).length-1):=Nat.pow_le_pow_right om om;omega
   · exact hk
theorem kk {l m:List Nat} (hb:2≤b) (hl:zi b l) (hm:xg m) (h:l.length<m.length):val b l<val b m:=by
 have h1:=gj hl;have h2:=rY hb hm om;have h3:b^l.length≤b^(m.length-1):=Nat.pow_le_pow_right om om;omega
theorem yqq (l:List Nat) (k:Nat):val b l=val b (l.take k)+b^(l.take k).length*val b (l.drop k):=by
 conv=>lhs;rw[←List.take_append_drop k l]
 exact yeq _ _
theorem gU {l m:List Nat} (hl:zi b l) (h:l.length=m.length) {k:Nat} (hk:k<l.length)
 (hd:∀j,k<j→j<l.length→l.getD j 0=m.getD j 0) (hlt:l.getD k 0<m.getD k 0):val b l<val b m:=by
 have e1:=yqq (b:=b) l (k+1);have e2:=yqq (b:=b) m (k+1);have hdrop:l.drop (k+1)=m.drop (k+1):=by
  apply List.ext_getElem?
  intro j;rw[List.getElem?_drop,List.getElem?_drop];by_cases hj:k+1+j<l.length
  · have h3:=hd (k+1+j) om hj;simp only[List.getD,List.getElem?_eq_getElem hj,List.getElem?_eq_getElem (show k+1+j<m.length from om),Option.getD_some] at h3
    rw[List.getElem?_eq_getElem hj,List.getElem?_eq_getElem (show k+1+j<m.length from om),h3]
  · rw[List.getElem?_eq_none om,List.getElem?_eq_none om]
 rw[List.length_take,Nat.min_eq_left om] at e1 e2;rw[hdrop] at e1;rw[zu] at e1 e2;have h1:=gj (vm hl k);rw[List.length_take,Nat.min_eq_left om] at h1;have h2:b^k*(l.getD k 0+1)≤b^k*m.getD k 0:=Nat.mul_le_mul_left _ hlt;rw[Nat.mul_add,Nat.mul_one] at h2;omega
def rZ (m n:Nat):Int:=if m<n then -1 else if n<m then 1 else 0
end
end Go.Proofs.YtdofcnodhgaedaaGreatDoor
