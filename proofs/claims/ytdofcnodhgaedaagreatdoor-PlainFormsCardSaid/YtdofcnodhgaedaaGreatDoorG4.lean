/- Texts of this claim. -/
import Derived.Test.YtdofcnodhgaedaaGreatDoorG3
import Derived.Below
import Derived.Orders
import Derived.Tactics
import Derived.WalkKit
import Derived.WalkSpells
import Derived.WalkLawsBesides
import Derived.Lib.Hide
namespace Go.Proofs.YtdofcnodhgaedaaGreatDoor
open Go.RowKit
theorem de {P:Prop} (h:P:=by decide):P:=h
theorem J3 {P:Prop} (h:P:=by
 simp only[List.mapM_cons,Sem.run_bind,Sem.run_pure,Result.andThen_ok,h3,h5]):P:=h
theorem J4 {P:Prop} (h:P:=by
 obtain ⟨e,he,hb,rfl⟩:=ylk hj;exact Xg e (by simpa using he) hb):P:=h
theorem J5 {P:Prop} (h:P:=by
 intro d;rw[Op.equalIn];simp only[Sem.run_bind,run_underlying hd,Result.andThen_ok]
 rfl):P:=h
theorem J6 {P:Prop} (h:P:=by
 exact ⟨fun e=>by rw[e] at this;simp at this,fun e=>by rw[e] at this;simp at this⟩):P:=h
theorem J7 {P:Prop} (h:P:=by
 have:=zrq hbx hc;rw[e,hb] at this;cases this):P:=h
theorem Ui {P:Prop} (h:P:=by
 intro h o ho;rcases List.mem_cons.1 ho with rfl | ho
 · exact ⟨h.1.1,h.1.2.1⟩
 · exact ih h.2 o ho):P:=h
theorem Uj {P:Prop} (h:P:=by
 intro t u h;refine hput t (fun e=>?_) u (m.kept t u h);exact (ymz h).2 (J8 (List.mem_of_getElem? ho) e)):P:=h
theorem Uk {P:Prop} (h:P:=by
 intro j hj k hk;refine (kc hil).2 (Or.inr ?_);rcases (kc hil).1 hj with rfl | hj
 · exact hd k hk
 · exact m.down j hj k hk):P:=h
theorem tT {P:Prop} (h:P:=by
 exact ⟨j',List.mem_cons.2 (Or.inr hj),r⟩):P:=h
theorem Ul {P:Prop} (h:P:=by
 split at ho
 · cases ho
 · rename_i hx
   rcases List.mem_cons.1 hb with rfl | hb
   · simp at hx
   · exact ih (by simp only[iy,Bool.and_eq_true] at h;exact h.2) hb ho):P:=h
theorem Um {P:Prop} (h:P:=by
 rcases ybq h with h | h
 · obtain ⟨j,_,hjd,rfl⟩:=qbk h;obtain ⟨o,ho,_⟩:=iA hjd;exact m.ran j t (hlen j o ho) hjd
 · exact m.kept t v h):P:=h
theorem Un {P:Prop} (h:P:=by
 intro hk o ho;simp only[pQ,Bool.and_eq_true] at hk
 rcases List.mem_cons.1 ho with rfl | ho
 · exact ⟨by simpa using hk.1.1.1,by simpa using hk.1.1.2⟩
 · exact ih hk.2 o ho):P:=h
theorem Uo {P:Prop} (h:P:=by
 have h2:(0:Int)≤(j:Int)∧(j:Int)≤(lim:Int):=om;simp only[Instr.sliceBound,ha hy,asIntOf,Sem.run_bind,Sem.run_pure,Result.andThen_ok]
 rw[if_pos h2];simp):P:=h
theorem Ej {P:Prop} (h:P:=by
 simp only[IntKind.bits,IntKind.signed,Bool.false_and,Bool.false_eq_true,if_false]
 omega):P:=h
theorem Uq {P:Prop} (h:P:=by
 intro j d u hj hjd hu;have hj':¬Ran listed j:=fun h=>hj ((kc hil).2 (Or.inr h));have hji:j≠i:=fun e=>hj ((kc hil).2 (Or.inl e));refine hput d (fun e=>hji ?_) _ (m.old j d u hj' hjd hu);exact pR hrow hjd (by rw[iB ho];exact e)):P:=h
theorem Ur {P:Prop} (h:P:=by
 refine ⟨m.defers,m.tmps,fun t v h=>?_⟩;rcases ybq h with h | h
 · obtain ⟨j,hj,hjd,rfl⟩:=qbk h;exact m.ran j t (hd j hj) hjd
 · rcases ybq h with h | h
   · obtain ⟨j,_,hjd,hji,hv⟩:=qbv h;exact m.old j t v (fun hr=>hi (m.down j hr i hji)) hjd hv
   · exact m.kept t v h):P:=h
theorem Us {P:Prop} (h:P:=by
 intro j d hj hjd;rcases (kc hil).1 hj with rfl | hj
 · rw[iB ho] at hjd;have hlt:=hN d hjd;rw[if_pos rfl,hjd];have:d<a.tmps.size:=by rw[m.tmps];exact hlt
   simp[Act.put,this]
 · rw[if_neg (hne hj)];refine hput d (fun e=>hne hj ?_) _ (m.ran j d hj hjd);exact pR hrow hjd (by rw[iB ho];exact e)):P:=h
theorem J9 {P:Prop} (h:P:=by
 split at h
 · rename_i he;injection h with h;subst h;exact ⟨List.mem_cons.2 (Or.inl rfl),Nat.eq_of_beq_eq_true he⟩
 · exact ⟨List.mem_cons.2 (Or.inr (ih h).1),(ih h).2⟩):P:=h
theorem Ut {P:Prop} (h:P:=by
 intro hr;refine ⟨?_,ih fun c hc=>hr c (List.mem_cons.2 (Or.inr hc))⟩;have hb:=hr b (List.mem_cons.2 (Or.inl rfl));obtain ⟨w1,w2⟩:=qck hwf hb;have hst:Ran listed b.st:=by
  unfold qg at w1;split at w1
  · rename_i o ho;exact hlen b.st o (by simpa using ho)
  · cases w1
 obtain ⟨g,cs,h1,h2,h20,h3,_,h5⟩:=m.boxes b hb (m.down _ hst _ w1);obtain ⟨v,y,rfl,h6,h7⟩:=h5 hst;exact ⟨g,v,y,h1,h20,h3,h6,h7⟩):P:=h
theorem Uu {P:Prop} (h:P:=by
 intro h hk a ha b hb hab;simp only[pQ,Bool.and_eq_true,List.all_eq_true,Bool.not_eq_true'] at hk
 rcases List.mem_cons.1 ha with rfl | ha'
 · rcases List.mem_cons.1 hb with rfl | hb'
   · exact absurd rfl hab
   · exact ⟨h.1.2.2 b hb',fun e=>by have:=hk.1.2 b hb';rw[e] at this;simp at this⟩
 · rcases List.mem_cons.1 hb with rfl | hb'
   · exact ⟨fun e=>h.1.2.2 a ha' e.symm,fun e=>by have:=hk.1.2 a ha';rw[e] at this;simp at this⟩
   · exact ih h.2 hk.2 a ha' b hb' hab):P:=h
theorem Uv {P:Prop} (h:P:=by
 have key:∀(r:List Oper) (k:Nat),(∀(i:Nat) (o:Oper),r[i]? =some o→l[k+i]? =some o)→qdx Y bs F vs w' k r:=by
  intro r;induction r with
  | nil=>intro k _;trivial
  | cons o r ih=>
   intro k hk;refine ⟨?_,ih (k+1) (fun i o' h=>by have:=hk (i+1) o' (by simpa using h);rwa [show k+(i+1)=k+1+i from om] at this)⟩;split
   · rename_i hb hf
     exact (m.facts k (hlen k o (by simpa using hk 0 o rfl)) hb hf).less m.outer
   · trivial
 exact key l 0 (fun i o h=>by simpa using h)):P:=h
theorem Uw {P:Prop} (h:P:=by
 have hst:∀o∈os,l[o.st]? ≠none→Ran listed o.st:=fun o _ h=>hall _ (by
  rcases Nat.lt_or_ge o.st l.length with h1 | h1
  · exact h1
  · exact absurd (List.getElem?_eq_none h1) h)
 have key:∀r:List Ox,(∀b∈r,b∈os)→pU σ l.toArray vs w' r:=by
  intro r;induction r with
  | nil=>intro _;trivial
  | cons b r ih=>
   intro hr;refine ⟨?_,ih fun c hc=>hr c (List.mem_cons.2 (Or.inr hc))⟩;have hb:=hr b (List.mem_cons.2 (Or.inl rfl));exact (m.outs b hb).2 (hst b hb (hin b hb))
 exact key os (fun _ h=>h)):P:=h
theorem Ux {P:Prop} (h:P:=by
 have key:∀r:List Bx,(∀b∈r,b∈bs)→iy r=true→yqx vs r:=by
  intro r;induction r with
  | nil=>intro _ _;trivial
  | cons b r ih=>
   intro hr hok;have hok':=hok;simp only[iy,Bool.and_eq_true,List.all_eq_true,Bool.not_eq_true'] at hok
   refine ⟨fun c hc=>?_,ih (fun c hc=>hr c (List.mem_cons.2 (Or.inr hc))) hok.2⟩;have hb:=hr b (List.mem_cons.2 (Or.inl rfl));have hc':=hr c (List.mem_cons.2 (Or.inr hc));have ab3:∀b∈bs,Ran listed b.at_:=by
    intro b hb;obtain ⟨w1,w2⟩:=qck hwf hb;have hst:Ran listed b.st:=by
     unfold qg at w1;split at w1
     · rename_i o ho;exact hlen b.st o (by simpa using ho)
     · cases w1
    exact m.down _ hst _ w1
   refine m.apart b hb c hc' (ab3 b hb) (ab3 c hc') (fun e=>?_);have:=(hok.1 c hc).1;rw[e] at this;simp at this
 exact key bs (fun _ h=>h) hbx):P:=h
abbrev Env:=List (Nat×Value)
def lk (t:Nat):Env→Option Value
 | []=>none
 | (s,v)::l=>match Nat.beq s t with
  | true=>some v
  | false=>lk t l
theorem kp (t s:Nat) (v:Value) (l:Env):lk t ((s,v)::l)=if s=t then some v else lk t l:=by
 by_cases h:s=t
 · subst h;simp[lk]
 · simp only[lk,h,if_false]
   have:Nat.beq s t=false:=by
    cases hb:Nat.beq s t
    · rfl
    · exact absurd (Nat.eq_of_beq_eq_true hb) h
   rw[this]
structure At (N:Nat) (σ:Env) (a:Act):Prop where
 defers:a.defers= []
 size:a.tmps.size=N
 get:∀t v,lk t σ=some v→a.tmps[t]? =some v
def ev (σ:Env):Operand→Option Value
 | .tmp t=>lk t σ
 | .const v=>some v
 | .global g=>some (.pointer (some ⟨g,0,none⟩))
 | .func f=>some (.func (.func f) #[] #[])
theorem At.ev {N:Nat} {σ:Env} {a:Act} {x:Operand} {v:Value} (h:At N σ a) (hx:ev σ x=some v):a.eval x=v:=by
 cases x with
 | tmp t=>
  have:=h.get t v hx;simp[Act.eval,this]
 | const u=>injection hx
 | global g=>simpa [Go.Proofs.YtdofcnodhgaedaaGreatDoor.ev,Act.eval] using hx
 | func f=>simpa [Go.Proofs.YtdofcnodhgaedaaGreatDoor.ev,Act.eval] using hx
theorem At.put {N:Nat} {σ:Env} {a:Act} {d:Nat} (h:At N σ a) (hd:Nat.blt d N=true) (v:Value):At N ((d,v)::σ) (a.put (some d) v):=by
 have hlt:d<a.tmps.size:=by rw[h.size];exact Nat.le_of_ble_eq_true hd
 refine ⟨h.defers,by simpa [Act.put] using h.size,fun t u ht=>?_⟩;rw[kp] at ht;by_cases hdt:d=t
 · subst hdt;rw[if_pos rfl] at ht;injection ht with ht
   subst ht;simp[Act.put,hlt]
 · rw[if_neg hdt] at ht;have:=h.get t u ht;simpa [Act.put,Array.getElem?_setIfInBounds_ne hdt] using this
theorem At.weak {N:Nat} {σ τ:Env} {a:Act} (h:At N σ a) (hs:∀t v,lk t τ=some v→lk t σ=some v):At N τ a:=⟨h.defers,h.size,fun t v ht=>h.get t v (hs t v ht)⟩
def Sub (σ:Env):Env→Prop
 | []=>True
 | (t,v)::τ=>lk t σ=some v∧Sub σ τ
theorem iC {σ:Env}:∀ {τ:Env},Sub σ τ→ ∀t v,lk t τ=some v→lk t σ=some v
 | [],_,_,_,h=>by cases h
 | (s,u)::τ,⟨h1,h2⟩,t,v,h=>by
  rw[kp] at h;by_cases hs:s=t
  · subst hs;rw[if_pos rfl] at h;rw[h1,h]
  · rw[if_neg hs] at h;exact iC h2 t v h
section
variable {P:Program} {N:Nat} {ops:Array Oper} {Q:Exit→Act→World→Prop} {σ:Env} {w:World}
def OW (P:Program) (N:Nat) (ops:Array Oper) (Q:Exit→Act→World→Prop) (o:Oper) (σ:Env) (w:World) (Post:Value→World→Prop):Prop:=
 ∀a,At N σ a→if Region.wanted o (yielded ops a.tmps)=true then o.wp P a w (fun a' w'=>∃v,a'=a.put o.dst v∧Post v w') Q else Post undef w
def RS (P:Program) (N:Nat) (ops:Array Oper) (Q:Exit→Act→World→Prop) (l:List Oper) (σ:Env) (w:World):Prop:=∀a,At N σ a→wpList P ops Q l a w
def CW (P:Program) (N:Nat) (c:Code) (Q:Exit→Act→World→Prop) (σ:Env) (w:World):Prop:=∀a,At N σ a→c.wp P Q a w
def EW (N:Nat) (Q:Exit→Act→World→Prop) (e:Exit) (σ:Env) (w:World):Prop:=∀a,At N σ a→Q e a w
theorem za {d:Nat} {op:Op} {ty:TypeId} {pos:String} {af:Array Edge} {g:Option (Nat×Bool)} {rest:List Oper} (hd:Nat.blt d N=true)
 (h:OW P N ops Q ⟨some d,op,ty,pos,af,g⟩ σ w (fun v w'=>RS P N ops Q rest ((d,v)::σ) w')):RS P N ops Q (⟨some d,op,ty,pos,af,g⟩::rest) σ w:=by
 intro a ha;refine wpList_step fun K hK=>?_;have h1:=h a ha;split
 · rename_i hw
   rw[if_pos hw] at h1;exact Oper.wp_mono (fun a' w' ⟨v,e,hv⟩=>by subst e;exact hK _ _ (hv _ (ha.put hd v))) h1
 · rename_i hw
   rw[if_neg hw] at h1;exact hK _ _ (h1 _ (ha.put hd _))
theorem yx {op:Op} {ty:TypeId} {pos:String} {af:Array Edge} {g:Option (Nat×Bool)} {rest:List Oper}
 (h:OW P N ops Q ⟨none,op,ty,pos,af,g⟩ σ w (fun _ w'=>RS P N ops Q rest σ w')):RS P N ops Q (⟨none,op,ty,pos,af,g⟩::rest) σ w:=by
 intro a ha;refine wpList_step fun K hK=>?_;have h1:=h a ha;split
 · rename_i hw
   rw[if_pos hw] at h1;exact Oper.wp_mono (fun a' w' ⟨v,e,hv⟩=>by subst e;exact hK _ _ (hv _ ha)) h1
 · rename_i hw
   rw[if_neg hw] at h1;exact hK _ _ (h1 _ ha)
theorem Bl (h:EW N Q .normal σ w):RS P N ops Q [] σ w:=fun a ha=>wpList_nil (h a ha)
theorem jz {e:Exit} {τ:Env} (hs:Sub σ τ) (h:EW N Q e τ w):EW N Q e σ w:=fun a ha=>h a (ha.weak (iC hs))
theorem at_set {a:Act} {t:Nat} {v u:Value} (h:lk t σ=some v) (e:v=u) (ha:At N σ a):At N ((t,u)::σ) a:=by
 subst e;refine ⟨ha.defers,ha.size,fun s x hs=>?_⟩;rw[kp] at hs;by_cases hst:t=s
 · subst hst;rw[if_pos rfl] at hs;injection hs with hs;subst hs;exact ha.get t v h
 · rw[if_neg hst] at hs;exact ha.get s x hs
theorem ze {l:List Oper} (t:Nat) {v:Value} (u:Value) (h:lk t σ=some v) (e:v=u) (k:RS P N ops Q l ((t,u)::σ) w):RS P N ops Q l σ w:=fun a ha=>k a (at_set h e ha)
theorem zy {c:Code} (t:Nat) {v:Value} (u:Value) (h:lk t σ=some v) (e:v=u) (k:CW P N c Q ((t,u)::σ) w):CW P N c Q σ w:=fun a ha=>k a (at_set h e ha)
theorem yi {x:Exit} (t:Nat) {v:Value} (u:Value) (h:lk t σ=some v) (e:v=u) (k:EW N Q x ((t,u)::σ) w):EW N Q x σ w:=fun a ha=>k a (at_set h e ha)
theorem yg {l:List Oper} (t:Nat) {b:Bool} (h:lk t σ=some (.bool b)) (ht:b=true→RS P N ops Q l ((t,.bool true)::σ) w) (hf:b=false→RS P N ops Q l ((t,.bool false)::σ) w):RS P N ops Q l σ w:=by
 cases b
 · exact ze t _ h rfl (hf rfl)
 · exact ze t _ h rfl (ht rfl)
theorem Ka {x y:Code} (h:CW P N x (Exit.then (y.wp P Q) Q) σ w):CW P N (.seq x y) Q σ w:=fun a ha=>wp_seq (h a ha)
theorem Kc {id:Nat} {c:Code} (h:CW P N c (Exit.inBlock id Q) σ w):CW P N (.block id c) Q σ w:=fun a ha=>wp_block (h a ha)
theorem Qa (h:EW N Q .normal σ w):CW P N .skip Q σ w:=fun a ha=>wp_skip (h a ha)
theorem Xh (h:EW N Q .ret σ w):CW P N .ret Q σ w:=fun a ha=>wp_ret (h a ha)
theorem Qb {id:Nat} (h:EW N Q (.exit id) σ w):CW P N (.exit id) Q σ w:=fun a ha=>wp_exit (h a ha)
theorem zg {c:Operand} {x y:Code} {t:Bool} (hc:ev σ c=some (.bool t)) (ht:t=true→CW P N x Q σ w) (hf:t=false→CW P N y Q σ w):CW P N (.cond c x y) Q σ w:=
 fun a ha=>wp_cond_split (ha.ev hc) (fun e=>ht e a ha) (fun e=>hf e a ha)
theorem Qc {c:Operand} {x y:Code} (hc:ev σ c=some (.bool true)) (ht:CW P N x Q σ w):CW P N (.cond c x y) Q σ w:=fun a ha=>wp_cond_true (ha.ev hc) (ht a ha)
theorem Qd {c:Operand} {x y:Code} (hc:ev σ c=some (.bool false)) (ht:CW P N y Q σ w):CW P N (.cond c x y) Q σ w:=fun a ha=>wp_cond_false (ha.ev hc) (ht a ha)
theorem nG {id:Nat} {l:List Oper} (h:RS P N l.toArray Q l σ w):CW P N (.region id l.toArray false) Q σ w:=fun a ha=>wp_region_lit (h a ha)
theorem pV {y:Code} (h:CW P N y Q σ w):EW N (Exit.then (y.wp P Q) Q) .normal σ w:=h
theorem tV {K:Act→World→Prop} (h:EW N Q .ret σ w):EW N (Exit.then K Q) .ret σ w:=h
theorem pW {K:Act→World→Prop} {id:Nat} (h:EW N Q (.exit id) σ w):EW N (Exit.then K Q) (.exit id) σ w:=h
theorem gG {id:Nat} (h:EW N Q .normal σ w):EW N (Exit.inBlock id Q) .normal σ w:=h
theorem pX {id:Nat} (h:EW N Q .ret σ w):EW N (Exit.inBlock id Q) .ret σ w:=h
theorem mM {id:Nat} (h:EW N Q .normal σ w):EW N (Exit.inBlock id Q) (.exit id) σ w:=fun a ha=>by simp only[Exit.inBlock,if_true];exact h a ha
def Uy (N:Nat) {ι:Type} (s:ι→Env) (R:ι→World→Prop):Act→World→Prop:=fun a w=>∃i,At N (s i) a∧R i w
theorem vk {x y:Code} {ι:Type} (s:ι→Env) (R:ι→World→Prop) (h1:CW P N x (Exit.then (Uy N s R) Q) σ w) (h2:∀i w,R i w→CW P N y Q (s i) w):CW P N x (Exit.then (y.wp P Q) Q) σ w:=
 fun a ha=>Code.wp_mono (fun e a w q=>by cases e<;>first | exact q | (obtain ⟨i,hi,hr⟩:=q;exact h2 i w hr a hi)) (h1 a ha)
theorem yy {ι:Type} {s:ι→Env} {R:ι→World→Prop} (i:ι) (hs:Sub σ (s i)) (hr:R i w):EW N (Exit.then (Uy N s R) Q) .normal σ w:=fun _ ha=>⟨i,ha.weak (iC hs),hr⟩
def Rnd (N:Nat) {ι:Type} (s:ι→Env) (R:ι→World→Prop) (m:ι→Nat) (i:ι):Act→World→Prop:=fun a w'=>∃j,m j<m i∧At N (s j) a∧R j w'
theorem yk {ι:Type} {s:ι→Env} {R:ι→World→Prop} {m:ι→Nat} {i:ι} (j:ι) (hm:m j<m i) (hs:Sub σ (s j)) (hr:R j w):EW N (Exit.then (Rnd N s R m i) Q) .normal σ w:=fun _ ha=>⟨j,hm,ha.weak (iC hs),hr⟩
theorem qt {c:Code} {ι:Type} (s:ι→Env) (R:ι→World→Prop) (m:ι→Nat) (i:ι) (h0:Sub σ (s i)) (hw:R i w)
 (hr:∀i w,R i w→CW P N c (Exit.then (Rnd N s R m i) Q) (s i) w):CW P N (.loop c) Q σ w:=by
 have key:∀n i a w,m i=n→At N (s i) a→R i w→ ∀b k cs,∃e a' w',Q e a' w'∧Arrives P (lone (b.at a (.code c:: .inLoop c::k)) cs w) b k cs e a' w':=by
  intro n;induction n using Nat.strongRecOn with
  | _ n ih=>
   intro i a w hn ha hR b k cs;obtain ⟨e,a₁,w₁,hq,harr⟩:=hr i w hR a ha b (.inLoop c::k) cs;cases e with
   | normal=>
    obtain ⟨j,hlt,haj,hRj⟩:=hq;obtain ⟨e₂,a₂,w₂,hq₂,harr₂⟩:=ih (m j) (hn▸hlt) j a₁ w₁ rfl haj hRj b k cs;exact ⟨e₂,a₂,w₂,hq₂,.of_steps (Steps.trans harr (.one step_inLoop)) harr₂⟩
   | exit id=>exact ⟨_,a₁,w₁,hq,.pass (x:=.inLoop c) rfl (fun _ _=>.inl (by simp)) harr⟩
   | goto l=>exact ⟨_,a₁,w₁,hq,.pass (x:=.inLoop c) rfl (fun _ _=>.inl (by simp)) harr⟩
   | ret=>exact ⟨_,a₁,w₁,hq,.pass (x:=.inLoop c) rfl (fun _ _=>.inl (by simp)) harr⟩
   | panic ch=>exact ⟨_,a₁,w₁,hq,.pass (x:=.inLoop c) rfl (fun _ _=>.inl (by simp)) harr⟩
   | outgrown=>exact ⟨_,a₁,w₁,hq,.pass (x:=.inLoop c) rfl (fun _ _=>.inl (by simp)) harr⟩
 intro a ha b k cs;obtain ⟨e,a',w',hq,harr⟩:=key _ i a w rfl (ha.weak (iC h0)) hw b k cs;exact ⟨e,a',w',hq,.of_steps (.one step_loop) harr⟩
section
variable {dst:Option Tmp} {ty:TypeId} {pos:String} {af:Array Edge} {Post:Value→World→Prop}
theorem zt {op:Op} {v:Value} {w':World} (h:∀ρ:Operand→Value,(∀ {x v},ev σ x=some v→ρ x=v)→(execOp ρ ⟨dst,op,ty,pos,af,none⟩).run P w= .ok (.value v) w') (k:Post v w'):OW P N ops Q ⟨dst,op,ty,pos,af,none⟩ σ w Post:=by
 intro a ha;rw[if_pos (by simp[Region.wanted])];unfold Oper.wp;rw[h a.eval (fun hx=>ha.ev hx)];exact ⟨v,rfl,k⟩
theorem Qe {op:Op} {w':World} (h:∀ρ:Operand→Value,(∀ {x v},ev σ x=some v→ρ x=v)→(execOp ρ ⟨dst,op,ty,pos,af,none⟩).run P w= .ok .skip w') (k:Post undef w'):OW P N ops Q ⟨dst,op,ty,pos,af,none⟩ σ w Post:=by
 intro a ha;rw[if_pos (by simp[Region.wanted])];unfold Oper.wp;rw[h a.eval (fun hx=>ha.ev hx)];exact ⟨undef,rfl,k⟩
def gd (ops:Array Oper) (σ:Env) (j:Nat):Option Bool:=
 match (ops[j]?).bind (·.dst) with
 | some t=>match lk t σ with
  | some (.bool b)=>some b
  | _=>none
 | none=>none
theorem iD {j:Nat} {b:Bool} {a:Act} (h:gd ops σ j=some b) (ha:At N σ a):yielded ops a.tmps j=some b:=by
 unfold gd at h;unfold yielded;split at h
 · rename_i t ht
   split at h
   · rename_i c hc
     rw[ht];simp only[Option.bind_some,ha.get t _ hc]
     exact h
   · cases h
 · cases h
theorem vt {op:Op} {j:Nat} {b:Bool} (hg:gd ops σ j=some b) (h:OW P N ops Q ⟨dst,op,ty,pos,af,none⟩ σ w Post):OW P N ops Q ⟨dst,op,ty,pos,af,some (j,b)⟩ σ w Post:=by
 intro a ha;rw[if_pos (by simp[Region.wanted,iD hg ha])];have h1:=h a ha;rw[if_pos (by simp[Region.wanted])] at h1;exact h1
theorem Ke {op:Op} {j:Nat} {b:Bool} (hg:gd ops σ j=some (!b)) (k:Post undef w):OW P N ops Q ⟨dst,op,ty,pos,af,some (j,b)⟩ σ w Post:=by
 intro a ha;rw[if_neg (by simp[Region.wanted,iD hg ha])];exact k
def isB:Value→Option Bool
 | .bool b=>some b
 | _=>none
def gv (ops:Array Oper) (σ:Env) (j:Nat):Option Value:=match (ops[j]?).bind (·.dst) with
 | some t=>lk t σ
 | none=>none
theorem Qf {op:Op} {j:Nat} {b:Bool} {v:Value} (hg:gv ops σ j=some v) (hv:isB v=none) (k:Post undef w):OW P N ops Q ⟨dst,op,ty,pos,af,some (j,b)⟩ σ w Post:=by
 intro a ha;have:yielded ops a.tmps j=none:=by
  unfold gv at hg;split at hg
  · rename_i t ht
    unfold yielded;rw[ht];simp only[Option.bind_some,ha.get t _ hg]
    cases v<;>first | rfl | cases hv
  · cases hg
 rw[if_neg (by simp[Region.wanted,this])];exact k
theorem ykk {x:Operand} {v:Value} (hx:ev σ x=some v) (k:Post v w):OW P N ops Q ⟨dst,.move x,ty,pos,af,none⟩ σ w Post:=
 zt (fun ρ ha=>by simp[execOp,ha hx,go_sem]) k
theorem ytz {x:Operand} {v:Value} (hx:ev σ x=some v) (k:Post v w):OW P N ops Q ⟨dst,.assign x,ty,pos,af,none⟩ σ w Post:=
 zt (fun ρ ha=>by simp[execOp,ha hx,go_sem]) k
theorem Kg {c x y:Operand} {v:Value} (hc:ev σ c=some (.bool true)) (hx:ev σ x=some v) (k:Post v w):OW P N ops Q ⟨dst,.pick c x y,ty,pos,af,none⟩ σ w Post:=
 zt (fun ρ ha=>by simp[execOp,ha hc,ha hx,go_sem]) k
theorem Kh {c x y:Operand} {v:Value} (hc:ev σ c=some (.bool false)) (hy:ev σ y=some v) (k:Post v w):OW P N ops Q ⟨dst,.pick c x y,ty,pos,af,none⟩ σ w Post:=
 zt (fun ρ ha=>by simp[execOp,ha hc,ha hy,go_sem]) k
theorem Xi {x:Operand} {T:TypeId} {b:Bool} (hx:ev σ x=some (.bool b)) (k:Post (.bool (!b)) w):OW P N ops Q ⟨dst,.unOp .not T x,ty,pos,af,none⟩ σ w Post:=
 zt (fun ρ ha=>by simp[execOp,ha hx,go_sem]) k
theorem pY {x:Operand} {T:TypeId} {q:IntKind} {m z:Int} (hx:ev σ x=some (.int q m)) (hz:q.wrap (0-m)=z) (k:Post (.int q z) w):OW P N ops Q ⟨dst,.unOp .neg T x,ty,pos,af,none⟩ σ w Post:=
 zt (fun ρ ha=>by subst hz;simp[execOp,ha hx,Op.unary,Op.intArith,go_sem]) k
theorem xf {x:Operand} {i:Nat} {vs:Array Value} {v:Value} (hx:ev σ x=some (.tuple vs)) (hv:vs[i]? =some v) (k:Post v w):OW P N ops Q ⟨dst,.extract x i,ty,pos,af,none⟩ σ w Post:=
 zt (fun ρ ha=>by simp[execOp,ha hx,Instr.extract,hv,go_sem]) k
section arith
variable {x y:Operand} {T U:TypeId} {q:IntKind} {m n z:Int}
theorem vu (hx:ev σ x=some (.int q m)) (hy:ev σ y=some (.int q n)) (hz:q.wrap (m+n)=z) (k:Post (.int q z) w):OW P N ops Q ⟨dst,.binOp .add T x y U,ty,pos,af,none⟩ σ w Post:=
 zt (fun ρ ha=>by subst hz;simp[execOp,ha hx,ha hy,binOp,eqGuard,Op.intArith,go_sem]) k
theorem vq (hx:ev σ x=some (.int q m)) (hy:ev σ y=some (.int q n)) (hz:q.wrap (m-n)=z) (k:Post (.int q z) w):OW P N ops Q ⟨dst,.binOp .sub T x y U,ty,pos,af,none⟩ σ w Post:=
 zt (fun ρ ha=>by subst hz;simp[execOp,ha hx,ha hy,binOp,eqGuard,Op.intArith,go_sem]) k
theorem jw (hx:ev σ x=some (.int q m)) (hy:ev σ y=some (.int q n)) (hz:q.wrap (m*n)=z) (k:Post (.int q z) w):OW P N ops Q ⟨dst,.binOp .mul T x y U,ty,pos,af,none⟩ σ w Post:=
 zt (fun ρ ha=>by subst hz;simp[execOp,ha hx,ha hy,binOp,eqGuard,Op.intArith,go_sem]) k
theorem Qg (hx:ev σ x=some (.int q m)) (hy:ev σ y=some (.int q n)) (h0:n≠0) (hz:q.wrap (m.tdiv n)=z) (k:Post (.int q z) w):OW P N ops Q ⟨dst,.binOp .quo T x y U,ty,pos,af,none⟩ σ w Post:=
 zt (fun ρ ha=>by subst hz;simp[execOp,ha hx,ha hy,binOp,eqGuard,Op.intDiv,h0,go_sem]) k
theorem ju (hx:ev σ x=some (.int q m)) (hy:ev σ y=some (.int q n)) (h0:n≠0) (hz:m.tmod n=z) (k:Post (.int q z) w):OW P N ops Q ⟨dst,.binOp .rem T x y U,ty,pos,af,none⟩ σ w Post:=
 zt (fun ρ ha=>by subst hz;simp[execOp,ha hx,ha hy,binOp,eqGuard,Op.intDiv,h0,go_sem]) k
theorem Bn (hx:ev σ x=some (.int q m)) (hy:ev σ y=some (.int q n)) (k:Post (.bool (m==n)) w):OW P N ops Q ⟨dst,.binOp .eql T x y U,ty,pos,af,none⟩ σ w Post:=
 zt (fun ρ ha=>by simp[execOp,ha hx,ha hy,binOp,eqGuard,Op.intCmp,go_sem]) k
theorem Xj (hx:ev σ x=some (.int q m)) (hy:ev σ y=some (.int q n)) (k:Post (.bool (m !=n)) w):OW P N ops Q ⟨dst,.binOp .neq T x y U,ty,pos,af,none⟩ σ w Post:=
 zt (fun ρ ha=>by simp[execOp,ha hx,ha hy,binOp,eqGuard,Op.intCmp,go_sem]) k
theorem Xk (hx:ev σ x=some (.int q m)) (hy:ev σ y=some (.int q n)) (k:Post (.bool (decide (m<n))) w):OW P N ops Q ⟨dst,.binOp .lss T x y U,ty,pos,af,none⟩ σ w Post:=
 zt (fun ρ ha=>by simp[execOp,ha hx,ha hy,binOp,eqGuard,Op.intCmp,go_sem]) k
theorem Xl (hx:ev σ x=some (.int q m)) (hy:ev σ y=some (.int q n)) (k:Post (.bool (decide (m≤n))) w):OW P N ops Q ⟨dst,.binOp .leq T x y U,ty,pos,af,none⟩ σ w Post:=
 zt (fun ρ ha=>by simp[execOp,ha hx,ha hy,binOp,eqGuard,Op.intCmp,go_sem]) k
theorem Ki (hx:ev σ x=some (.int q m)) (hy:ev σ y=some (.int q n)) (k:Post (.bool (decide (n<m))) w):OW P N ops Q ⟨dst,.binOp .gtr T x y U,ty,pos,af,none⟩ σ w Post:=
 zt (fun ρ ha=>by simp[execOp,ha hx,ha hy,binOp,eqGuard,Op.intCmp,go_sem]) k
theorem Xm (hx:ev σ x=some (.int q m)) (hy:ev σ y=some (.int q n)) (k:Post (.bool (decide (n≤m))) w):OW P N ops Q ⟨dst,.binOp .geq T x y U,ty,pos,af,none⟩ σ w Post:=
 zt (fun ρ ha=>by simp[execOp,ha hx,ha hy,binOp,eqGuard,Op.intCmp,go_sem]) k
theorem gm (hx:ev σ x=some (.int q m)) (hy:ev σ y=some (.int q n)) (hz:q.wrap (BitVec.ofInt q.bits m &&& BitVec.ofInt q.bits n).toNat=z) (k:Post (.int q z) w):OW P N ops Q ⟨dst,.binOp .and T x y U,ty,pos,af,none⟩ σ w Post:=
 zt (fun ρ ha=>by subst hz;simp[execOp,ha hx,ha hy,binOp,eqGuard,Op.intBits,go_sem]) k
theorem Uz (hx:ev σ x=some (.int q m)) (hy:ev σ y=some (.int q n)) (hz:q.wrap (BitVec.ofInt q.bits m ||| BitVec.ofInt q.bits n).toNat=z) (k:Post (.int q z) w):OW P N ops Q ⟨dst,.binOp .or T x y U,ty,pos,af,none⟩ σ w Post:=
 zt (fun ρ ha=>by subst hz;simp[execOp,ha hx,ha hy,binOp,eqGuard,Op.intBits,go_sem]) k
theorem yaz (hx:ev σ x=some (.int q m)) (hy:ev σ y=some (.int q n)) (hz:q.wrap (BitVec.ofInt q.bits m &&& ~~~BitVec.ofInt q.bits n).toNat=z) (k:Post (.int q z) w):OW P N ops Q ⟨dst,.binOp .andNot T x y U,ty,pos,af,none⟩ σ w Post:=
 zt (fun ρ ha=>by subst hz;simp[execOp,ha hx,ha hy,binOp,eqGuard,Op.intBits,go_sem]) k
theorem     gl {q' : IntKind} (hx : ev σ x = some (.int q m)) (hy : ev σ y = some (.int q' n)) (h0 : 0 ≤ n) (hz : q.wrap (m * 2 ^ (min n.toNat q.bits)) = z) (k : Post (.int q z) w) : OW P N ops Q ⟨dst, .binOp .shl T x y U, ty, pos, af, none⟩ σ w Post :=
      zt (fun ρ ha => by subst hz; have : ¬ n < 0 := by omega
                         simp [execOp, ha hx, ha hy, binOp, eqGuard, Op.shift, this, go_sem]) k
theorem     va {q' : IntKind} (hx : ev σ x = some (.int q m)) (hy : ev σ y = some (.int q' n)) (h0 : 0 ≤ n) (hz : m.fdiv (2 ^ (min n.toNat q.bits)) = z) (k : Post (.int q z) w) : OW P N ops Q ⟨dst, .binOp .shr T x y U, ty, pos, af, none⟩ σ w Post :=
      zt (fun ρ ha => by subst hz; have : ¬ n < 0 := by omega
                         simp [execOp, ha hx, ha hy, binOp, eqGuard, Op.shift, this, go_sem]) k
theorem jd (hd:P.underlying U=some (.int q)) {d:TypeDesc} (hs:P.underlying T=some d) {q':IntKind} (hx:ev σ x=some (.int q' m)) (hz:q.wrap m=z) (k:Post (.int q z) w):OW P N ops Q ⟨dst,.convert T U x,ty,pos,af,none⟩ σ w Post:=
 zt (fun ρ ha=>by subst hz;simp[execOp,ha hx,convert,Conv.intToInt,run_underlying hs,run_underlying hd,go_sem]) k
end arith
end
section
variable {d:Nat} {ty:TypeId} {pos:String} {af:Array Edge} {rest:List Oper} {x:Operand} {v:Value} {y:Code}
def evd (N d:Nat) (σ:Env) (x:Operand):Option Value:=bif Nat.blt d N then ev σ x else none
theorem zmk (h:evd N d σ x=some v):Nat.blt d N=true∧ev σ x=some v:=by
 unfold evd at h;cases hb:Nat.blt d N with
 | true=>rw[hb] at h;exact ⟨rfl,h⟩
 | false=>rw[hb] at h;cases h
theorem mvx (hx:evd N d σ x=some v) (k:RS P N ops Q rest ((d,v)::σ) w):RS P N ops Q (⟨some d,.move x,ty,pos,af,none⟩::rest) σ w:=za (zmk hx).1 (ykk (zmk hx).2 k)
theorem avx (hx:evd N d σ x=some v) (k:RS P N ops Q rest ((d,v)::σ) w):RS P N ops Q (⟨some d,.assign x,ty,pos,af,none⟩::rest) σ w:=za (zmk hx).1 (ytz (zmk hx).2 k)
theorem anx (hx:evd N d σ x=some v) (k:CW P N y Q ((d,v)::σ) w):RS P N ops (Exit.then (y.wp P Q) Q) [⟨some d,.assign x,ty,pos,af,none⟩] σ w:=za (zmk hx).1 (ytz (zmk hx).2 (Bl (pV k)))
theorem rnx (k:CW P N y Q σ w):RS P N ops (Exit.then (y.wp P Q) Q) [] σ w:=Bl (pV k)
theorem srx {id:Nat} {l:List Oper} (h:RS P N l.toArray (Exit.then (y.wp P Q) Q) l σ w):CW P N (.seq (.region id l.toArray false) y) Q σ w:=Ka (nG h)
def gdd (N d:Nat) (ops:Array Oper) (σ:Env) (j:Nat):Option Bool:=bif Nat.blt d N then gd ops σ j else none
theorem tX {j:Nat} {b:Bool} (h:gdd N d ops σ j=some b):Nat.blt d N=true∧gd ops σ j=some b:=by
 unfold gdd at h;cases hb:Nat.blt d N with
 | true=>rw[hb] at h;exact ⟨rfl,h⟩
 | false=>rw[hb] at h;cases h
theorem fU {op:Op} {j:Nat} {b:Bool} (hg:gdd N d ops σ j=some b) (h:OW P N ops Q ⟨some d,op,ty,pos,af,none⟩ σ w (fun v w'=>RS P N ops Q rest ((d,v)::σ) w')):RS P N ops Q (⟨some d,op,ty,pos,af,some (j,b)⟩::rest) σ w:=za (tX hg).1 (vt (tX hg).2 h)
end
end
structure Ext (X:Nat→Prop) (w w':World):Prop where
 os:w'.os=w.os
 tape:w'.tape=w.tape
 output:w'.output=w.output
 size:w.heap.size≤w'.heap.size
 block:∀k,k<w.heap.size→ ¬X k→w'.heap[k]? =w.heap[k]?
def ah:List (Option Nat)→Nat→Prop
 | [],_=>False
 | g::l,k=>some k=g∨ah l k
def No:Nat→Prop:=ah []
def One (g:Nat):Nat→Prop:=fun k=>k=g
section
variable {X Y:Nat→Prop} {a b c w w':World}
def bL (Y X:Nat→Prop) (w:World):Prop:=∀i,Y i→X i∨w.heap.size≤i
theorem aP (X:Nat→Prop) (w:World):bL X X w:=fun _ h=>Or.inl h
theorem Ext.refl (X:Nat→Prop) (w:World):Ext X w w:=⟨rfl,rfl,rfl,Nat.le_refl _,fun _ _ _=>rfl⟩
theorem aB (X:Nat→Prop) (w:World):Ext X w w:=Ext.refl X w
theorem Ext.trans (h:Ext X a b) (k:Ext X b c):Ext X a c:=
 ⟨k.os.trans h.os,k.tape.trans h.tape,k.output.trans h.output,Nat.le_trans h.size k.size,fun i hi hx=>(k.block i (Nat.lt_of_lt_of_le hi h.size) hx).trans (h.block i hi hx)⟩
theorem Ext.mono (h:Ext X a b) (hx:∀k,X k→k<a.heap.size→Y k):Ext Y a b:=⟨h.os,h.tape,h.output,h.size,fun i hi hy=>h.block i hi (fun e=>hy (hx i e hi))⟩
theorem Ext.of_below (h:Below a.heap.size a b) (X:Nat→Prop):Ext X a b:=⟨h.os,h.tape,h.output,h.size,fun i hi _=>h.block i hi⟩
theorem Qh (h:Ext X a b) (k:Below b.heap.size b c):Ext X a c:=h.trans (Ext.of_below k X)
theorem Ext.below (h:Ext X a b) (hx:∀k,X k→a.heap.size≤k):Below a.heap.size a b:=⟨h.os,h.tape,h.output,h.size,fun i hi=>h.block i hi (fun e=>by have:=hx i e;omega)⟩
theorem Ext.toBelow (h:Ext No a b):Below a.heap.size a b:=h.below (fun _ e=>e.elim)
theorem Ext.step (h:Ext X a b) (k:Ext Y b c) (hy:∀i,Y i→X i∨a.heap.size≤i):Ext X a c:=
 ⟨k.os.trans h.os,k.tape.trans h.tape,k.output.trans h.output,Nat.le_trans h.size k.size,fun i hi hx=>(k.block i (Nat.lt_of_lt_of_le hi h.size) (fun e=>(hy i e).elim hx (fun h2=>om))).trans (h.block i hi hx)⟩
theorem Ext.call (h:Ext X a b) (k:Below b.heap.size b c):Ext X a c:=h.trans (Ext.of_below k X)
theorem Ext.drew (h:Ext X a w):Ext X a w.drew:=⟨h.os,h.tape,h.output,h.size,h.block⟩
theorem Ext.alloc (h:Ext X a w) (o:Obj):Ext X a (w.alloc o):=h.call ((Below.refl _ _).alloc (Nat.le_refl _) o)
theorem Ext.cell (h:Ext X a b) {p:Addr} (hp:p.block<a.heap.size) (hx:¬X p.block):b.cell? p=a.cell? p:=World.cell?_of_block (w:=a) (h.block p.block hp hx)
theorem Ext.blk {g:Nat} {t:TypeId} {cs:Array Value} (h:Ext X a b) (hb:aA a g t cs) (hx:¬X g):aA b g t cs:=(h.block g hb.lt hx).trans hb
theorem Ext.no (h:Ext No a b):Ext X a b:=h.mono (fun _ e _=>e.elim)
theorem Ext.cons {l:List (Option Nat)} (h:Ext (ah l) a b) (g:Option Nat):Ext (ah (g::l)) a b:=h.mono (fun _ e _=>Or.inr e)
theorem Ext.one {g:Nat} (h:Ext (One g) a b):Ext (ah [some g]) a b:=h.mono (fun k e _=>Or.inl (congrArg some e))
theorem Ext.grown {row:Option Nat} (h:a.grownBy b row):Ext (ah [row]) a b:=⟨h.os,h.tape,h.output,h.size,fun k hk hx=>h.block k hk (fun e=>hx (Or.inl e))⟩
theorem Ext.step1 {r:Option Nat} (h:Ext X a b) (k:Ext (ah [r]) b c) (hg:∀i,r=some i→X i):Ext X a c:=h.step k (fun i e=>Or.inl (e.elim (fun e=>hg i e.symm) (fun e=>e.elim)))
theorem ah.head {r:Option Nat} {l:List (Option Nat)}:∀i,r=some i→ah (r::l) i:=fun _ e=>Or.inl e.symm
theorem ah.tail {r s:Option Nat} {l:List (Option Nat)} (h:∀i,r=some i→ah l i):∀i,r=some i→ah (s::l) i:=fun i e=>Or.inr (h i e)
theorem ah.keep {l l':List (Option Nat)} {g:Option Nat} (h:∀k,ah l' k→ah l k):∀k,ah (g::l') k→ah (g::l) k:=fun k e=>e.imp id (h k)
theorem ah.skip {l l':List (Option Nat)} {g:Option Nat} (h:∀k,ah l' k→ah l k):∀k,ah l' k→ah (g::l) k:=fun k e=>Or.inr (h k e)
theorem ah.aR {l:List (Option Nat)}:∀k,ah [] k→ah l k:=fun _ e=>e.elim
theorem ah.none_ {P:Nat→Prop}:∀k,ah [] k→P k:=fun _ e=>e.elim
theorem ah.grow {P:Nat→Prop} {l:List (Option Nat)} {g:Option Nat} (h:∀k,ah l k→P k) (hg:∀k,g=some k→P k):∀k,ah (g::l) k→P k:=fun k e=>e.elim (fun e=>hg k e.symm) (h k)
def Apart (r s:Option Nat):Prop:=∀k,r=some k→s≠some k
theorem Apart.symm {r s:Option Nat} (h:Apart r s):Apart s r:=fun k e f=>h k f e
def aj (r:Option Nat) (l:List (Option Nat)):Prop:=∀k,r=some k→ ¬ah l k
theorem aj.nil {r:Option Nat}:aj r []:=fun _ _ e=>e.elim
theorem aj.cons {r s:Option Nat} {l:List (Option Nat)} (h:Apart r s) (t:aj r l):aj r (s::l):=fun k e f=>f.elim (fun f=>h k e f.symm) (t k e)
theorem Apart.of_lt {r:Option Nat} {n g:Nat} (h:∀k,r=some k→k<n) (hg:n≤g):Apart (some g) r:=fun k e f=>by
 have e1:g=k:=Option.some.inj e;have:=h k f;omega
theorem zj {g n:Nat} (h:g<n):∀k,some g=some k→k<n:=fun k e=>by have:=Option.some.inj e;omega
theorem zf {g n:Nat} (h:n≤g):∀k,some g=some k→n≤k:=fun k e=>by have:=Option.some.inj e;omega
def Per (X:Nat→Prop) (w:World) (F:World→Prop):Prop:=∀b,Ext X w b→F b
theorem Per.here {F:World→Prop} (h:Per X w F):F w:=h w (Ext.refl _ _)
theorem Per.on {F:World→Prop} (h:Per X w F) (L:Ext X w w'):Per X w' F:=fun b hb=>h b (L.trans hb)
theorem Per.and {F G:World→Prop} (h:Per X w F) (k:Per X w G):Per X w (fun b=>F b∧G b):=fun b hb=>⟨h b hb,k b hb⟩
theorem Per.map {F G:World→Prop} (h:Per X w F) (k:∀b,F b→G b):Per X w G:=fun b hb=>k b (h b hb)
theorem Per.more {F:World→Prop} (h:Per X w F) (hy:∀k,Y k→X k∨w.heap.size≤k):Per Y w F:=fun b hb=>h b (hb.mono fun k hk hlt=>(hy k hk).resolve_right om)
theorem Per.no {F:World→Prop} (h:Per X w F):Per No w F:=h.more fun _ e=>e.elim
theorem Per.cons {F:World→Prop} {l:List (Option Nat)} {g:Option Nat} (h:Per (ah l) w F) (hg:∀k,g=some k→w.heap.size≤k):Per (ah (g::l)) w F:=h.more (fun k e=>e.elim (fun e=>Or.inr (hg k e.symm)) Or.inl)
theorem Per.less {F:World→Prop} (h:Per X w F) (hy:∀k,Y k→X k):Per Y w F:=h.more (fun k e=>Or.inl (hy k e))
theorem aA.aH {l:List (Option Nat)} {g:Nat} {t:TypeId} {cs:Array Value} (h:aA w g t cs) (k:Ext (ah l) w w') (hn:aj (some g) l):aA w' g t cs:=k.blk h (hn g rfl)
theorem Per.aQ {l:List (Option Nat)} {g:Nat} {t:TypeId} {cs:Array Value} (h:aA w g t cs) (hn:aj (some g) l):Per (ah l) w (fun b=>aA b g t cs):=fun _ hb=>hb.blk h (hn g rfl)
theorem zr {base n size:Nat} {e:TypeId} {v:Value} {xs:List Value} (h:w.ownsRow base e size v n xs):∀k,v.ownBlock=some k→k<w.heap.size:=fun k hk=>(h.lt k hk).2
theorem qav {base n size:Nat} {e:TypeId} {v:Value} {xs:List Value} (h:w.ownsRow base e size v n xs):∀k,v.ownBlock=some k→base≤k:=fun k hk=>(h.lt k hk).1
theorem zk {l:List (Option Nat)} {base n size:Nat} {e:TypeId} {v:Value} {xs:List Value} (h:w.ownsRow base e size v n xs) (k:Ext (ah l) w w') (hn:aj v.ownBlock l):w'.ownsRow base e size v n xs:=by
 refine ⟨h.1,?_⟩;rcases h.2 with h2 | ⟨g,cap,cur,hv,hg,hh,r⟩
 · exact Or.inl h2
 · subst hv;have hlt:g<w.heap.size:=(Array.getElem?_eq_some_iff.1 hh).1;exact Or.inr ⟨g,cap,cur,rfl,hg,(k.block g hlt (hn g rfl)).trans hh,r⟩
theorem Per.blk {g:Nat} {t:TypeId} {cs:Array Value} (h:aA w g t cs) (hx:¬X g):Per X w (fun b=>aA b g t cs):=fun _ hb=>hb.blk h hx
theorem Per.dS:Per X w (fun _=>True):=fun _ _=>trivial
end
theorem aA.ext {X:Nat→Prop} {w w':World} {g:Nat} {t:TypeId} {cs:Array Value} (h:aA w g t cs) (k:Ext X w w') (hx:¬X g):aA w' g t cs:=k.blk h hx
section
variable {P:Program} {N:Nat} {ops:Array Oper} {Q:Exit→Act→World→Prop} {σ:Env} {w:World} {dst:Option Tmp} {ty:TypeId} {pos:String} {af:Array Edge} {Post:Value→World→Prop}
def yv (P:Program) (T:TypeId) (n:Nat):Prop:=(P.info? T).map (·.size)=some n
def kj (P:Program) (T:TypeId) (z:Value):Prop:=(P.info? T).map (·.zero)=some (some z)
def TypeDesc.plain:TypeDesc→Bool
 | .struct _ | .array _ _=>false
 | _=>true
theorem ja {T:TypeId} {n:Nat} (h:yv P T n) (w:World):(sizeOf T).run P w= .ok n w:=by
 unfold yv at h;obtain ⟨i,hi,rfl⟩:=Option.map_eq_some_iff.1 h;simp[sizeOf,typeInfo,hi,go_sem]
theorem iF {T:TypeId} {z:Value} (h:kj P T z) (w:World):(zeroValue T).run P w= .ok z w:=by
 unfold kj at h;obtain ⟨i,hi,hz⟩:=Option.map_eq_some_iff.1 h;simp[zeroValue,typeInfo,hi,hz,go_sem]
theorem yrq {T:TypeId} {d:TypeDesc} (h:P.underlying T=some d) (w:World):(isAgg T).run P w= .ok (!TypeDesc.plain d) w:=by
 simp only[isAgg,Sem.run_bind,run_underlying h,Result.andThen_ok]
 cases d<;>rfl
theorem Xn {T:TypeId} {x:Operand} {v:Value} (hx:ev σ x=some v) (k:Post (.pointer (some ⟨w.heap.size,0,none⟩)) (w.alloc (.cells v.cells T))):OW P N ops Q ⟨dst,.box T x,ty,pos,af,none⟩ σ w Post:=
 zt (fun ρ ha=>by simp[execOp,ha hx,Instr.box,newVar,newRow,newObj,Sem.run,go_sem]) k
theorem tY {T:TypeId} {z:Value} (hz:kj P T z) (k:Post (.pointer (some ⟨w.heap.size,0,none⟩)) (w.alloc (.cells z.cells T))):OW P N ops Q ⟨dst,.alloc T,ty,pos,af,none⟩ σ w Post:=
 zt (fun ρ ha=>by simp[execOp,Instr.alloc,iF hz,newVar,newRow,newObj,Sem.run,go_sem]) k
theorem jm {T:TypeId} {d:TypeDesc} {x:Operand} {ad:Addr} {v:Value} (hd:P.underlying T=some d) (hp:TypeDesc.plain d=true) (hx:ev σ x=some (.pointer (some ad))) (hc:w.cell? ad=some v) (k:Post v w):OW P N ops Q ⟨dst,.load T x,ty,pos,af,none⟩ σ w Post:=
 zt (fun ρ ha=>by simp[execOp,ha hx,Instr.loadAt,Instr.sureAddr,loadVar,yrq hd,hp,load,Sem.run,hc,go_sem]) k
theorem ydz {cs:List Value} {ad:Addr} (w:World):∀(i:Nat) (acc:Array Value),(∀j v,cs[j]? =some v→w.cell? (ad.add (i+j))=some v)→(loadCellsFrom ad i cs.length acc).run P w= .ok (acc++cs.toArray) w:=by
 induction cs with
 | nil=>intro i acc _;simp[loadCellsFrom,go_sem]
 | cons u cs ih=>
  intro i acc h;have h0:=h 0 u rfl;simp only[Nat.add_zero] at h0
  have:=ih (i+1) (acc.push u) (fun j v hj=>by have:=h (j+1) v hj;rwa [show i+(j+1)=i+1+j from om] at this);simp only[List.length_cons,loadCellsFrom,Sem.run_bind,load,Sem.run,h0,Result.andThen_ok,this]
  simp
theorem iG {T:TypeId} {d:TypeDesc} {x:Operand} {ad:Addr} {cs:Array Value} {n:Nat} (hd:P.underlying T=some d) (hp:TypeDesc.plain d=false) (hs:yv P T n) (hx:ev σ x=some (.pointer (some ad))) (hn:cs.size=n)
 (hc:∀j v,cs[j]? =some v→w.cell? (ad.add j)=some v) (k:Post (.agg cs) w):OW P N ops Q ⟨dst,.load T x,ty,pos,af,none⟩ σ w Post:=
 zt (fun ρ ha=>by
  have h1:=ydz (P:=P) (cs:=cs.toList) (ad:=ad) w 0 #[] (fun j v hj=>by rw[Nat.zero_add];exact hc j v (by simpa using hj));simp only[Array.length_toList,hn] at h1
  simp[execOp,ha hx,Instr.loadAt,Instr.sureAddr,loadVar,yrq hd,hp,ja hs,loadCells,h1,go_sem]) k
theorem Addr.add_eq (g i j:Nat):(⟨g,i,none⟩:Addr).add j= ⟨g,i+j,none⟩:=by unfold Addr.add;split<;>simp_all
theorem ykv {T T':TypeId} {d:TypeDesc} {x:Operand} {g:Nat} {cs:Array Value} {n:Nat} (hd:P.underlying T=some d) (hp:TypeDesc.plain d=false) (hs:yv P T n) (hx:ev σ x=some (.pointer (some ⟨g,0,none⟩))) (hb:aA w g T' cs) (hn:cs.size=n)
 (k:Post (.agg cs) w):OW P N ops Q ⟨dst,.load T x,ty,pos,af,none⟩ σ w Post:=
 iG hd hp hs hx hn (fun j v hj=>by rw[Addr.add_eq,Nat.zero_add,hb.cell];exact hj) k
theorem Kj {T T':TypeId} {d:TypeDesc} {x:Operand} {g o:Nat} {cs ds:Array Value} {n:Nat} (hd:P.underlying T=some d) (hp:TypeDesc.plain d=false) (hs:yv P T n) (hx:ev σ x=some (.pointer (some ⟨g,o,none⟩))) (hb:aA w g T' cs) (hn:ds.size=n)
 (hc:cs.extract o (o+n)=ds) (k:Post (.agg ds) w):OW P N ops Q ⟨dst,.load T x,ty,pos,af,none⟩ σ w Post:=
 iG hd hp hs hx hn (fun j v hj=>by
  rw[Addr.add_eq,hb.cell];subst hc;rw[Array.getElem?_extract] at hj;split at hj
  · exact hj
  · cases hj) k
theorem UA {T T':TypeId} {d:TypeDesc} {x:Operand} {g o:Nat} {cs:Array Value} {v:Value} (hd:P.underlying T=some d) (hp:TypeDesc.plain d=true) (hx:ev σ x=some (.pointer (some ⟨g,o,none⟩))) (hb:aA w g T' cs) (hv:cs[o]? =some v) (k:Post v w):OW P N ops Q ⟨dst,.load T x,ty,pos,af,none⟩ σ w Post:=
 jm hd hp hx (by rw[hb.cell];exact hv) k
def putCells (cs:Array Value) (o:Nat):List Value→Array Value
 | []=>cs
 | v::l=>putCells (cs.setIfInBounds o v) (o+1) l
def World.setCells (w:World) (g o:Nat):List Value→World
 | []=>w
 | v::l=>World.setCells (w.setCell ⟨g,o,none⟩ v) g (o+1) l
theorem p8 (l:List Value):∀(w:World) (g o:Nat),Ext (One g) w (World.setCells w g o l):=by
 induction l with
 | nil=>intro w g o;exact Ext.refl _ _
 | cons v l ih=>
  intro w g o;have h1:Ext (One g) w (w.setCell ⟨g,o,none⟩ v):=⟨rfl,rfl,rfl,by simp[World.setCell],fun k hk hx=>Below.heap_setCell _ _ _ _ (fun e=>hx e)⟩;exact h1.trans (ih _ _ _)
theorem p9 (l:List Value):∀ {w:World} {g:Nat} {t:TypeId} {cs:Array Value} (o:Nat),aA w g t cs→aA (World.setCells w g o l) g t (putCells cs o l):=by
 induction l with
 | nil=>intro w g t cs o h;exact h
 | cons v l ih=>intro w g t cs o h;exact ih _ (h.pO o v)
theorem setCells_size (l:List Value):∀(w:World) (g o:Nat),(World.setCells w g o l).heap.size=w.heap.size:=by
 induction l with
 | nil=>intro w g o;rfl
 | cons v l ih=>intro w g o;rw[World.setCells,ih];simp[World.setCell]
def oa:List Value→Bool
 | []=>true
 | v::l=>v.oneCell'&&oa l
theorem iH {g:Nat} {t:TypeId} {o:Nat} (l:List Value):∀(w:World) (i:Nat) (cs:Array Value),aA w g t cs→oa l=true→o+i+l.length≤cs.size→
 (storeCells ⟨g,o,none⟩ l i).run P w= .ok () (World.setCells w g (o+i) l):=by
 induction l with
 | nil=>intro w i cs _ _ _;simp[storeCells,World.setCells,go_sem]
 | cons v l ih=>
  intro w i cs hb h1 hn;simp only[oa,Bool.and_eq_true] at h1
  have hlt:o+i<cs.size:=by simp at hn;omega
  have hc:w.cell? ⟨g,o+i,none⟩=some cs[o+i]:=by rw[hb.cell];exact Array.getElem?_eq_getElem hlt
  have hf:=hb.frozen (o+i);have h2:=ih (w.setCell ⟨g,o+i,none⟩ v) (i+1) _ (hb.pO (o+i) v) h1.2 (by simp at hn ⊢;omega);have hst:(store ⟨g,o+i,none⟩ v).run P w= .ok () (w.setCell ⟨g,o+i,none⟩ v):=by
   cases v<;>simp[store,Sem.run,hc,hf,Value.oneCell'] at h1 ⊢
  simp only[storeCells,Sem.run_bind,Addr.add_eq,hst,Result.andThen_ok]
  exact h2
theorem iI {T T':TypeId} {x y:Operand} {g o:Nat} {cs:Array Value} {v:Value} {n:Nat} (hs:yv P T n) (hx:ev σ x=some (.pointer (some ⟨g,o,none⟩))) (hy:ev σ y=some v) (hb:aA w g T' cs) (hn:v.cells.size=n) (h1:oa v.cells.toList=true) (hle:Nat.ble (o+n) cs.size=true)
 (k:∀w',aA w' g T' (putCells cs o v.cells.toList)→Ext (One g) w w'→w'.heap.size=w.heap.size→Post undef w'):OW P N ops Q ⟨dst,.store T x y,ty,pos,af,none⟩ σ w Post:=
 Qe (fun ρ ha=>by
  have h2:=iH (P:=P) (g:=g) (t:=T') (o:=o) v.cells.toList w 0 cs hb h1 (by have:=Nat.le_of_ble_eq_true hle;simp;omega);have h3:(storeVar T ⟨g,o,none⟩ v).run P w= .ok () (World.setCells w g o v.cells.toList):=by
   unfold storeVar;simp only[Sem.run_bind,ja hs,Result.andThen_ok]
   rw[if_neg (by simp[hn])];exact h2
  simp only[execOp,ha hx,ha hy,Instr.storeAt,Instr.sureAddr,Sem.run_bind,Sem.run_pure,Result.andThen_ok,h3]) (k _ (p9 _ _ hb) (p8 _ _ _ _) (setCells_size _ _ _ _))
theorem qA {S:TypeId} {x:Operand} {i g o n:Nat} {fs:Array Field} {f:Field} (hd:P.underlying S=some (.struct fs)) (hf:fs[i]? =some f) (hs:yv P f.type n) (hn:n≠0) (hx:ev σ x=some (.pointer (some ⟨g,o,none⟩)))
 (k:Post (.pointer (some ⟨g,o+f.offset,none⟩)) w):OW P N ops Q ⟨dst,.fieldAddr S x i,ty,pos,af,none⟩ σ w Post:=
 zt (fun ρ ha=>by simp[execOp,ha hx,Instr.fieldAt,run_underlying hd,hf,Instr.sureAddr,fieldPlace,ja hs,hn,Addr.add_eq,go_sem]) k
theorem tZ {x:Operand} {ad:Addr} (hx:ev σ x=some (.pointer (some ad))) (k:Post (.pointer (some ad)) w):OW P N ops Q ⟨dst,.nilCheck x,ty,pos,af,none⟩ σ w Post:=
 zt (fun ρ ha=>by simp[execOp,ha hx,go_sem]) k
theorem Xo {x:Operand} {T e:TypeId} {A:Option Addr} {n c:Nat} (hd:P.underlying T=some (.slice e)) (hx:ev σ x=some (.slice A n c)) (k:Post (.int .i64 n) w):OW P N ops Q ⟨dst,.call ⟨.builtin .len,#[x],#[T]⟩,ty,pos,af,none⟩ σ w Post:=
 zt (fun ρ ha=>by simp[execOp,resolve,invoke,builtin,Builtin.len_,run_underlying hd,ha hx,goInt,go_sem]) k
theorem ylx {x:Operand} {T:TypeId} {s:ByteArray} (hd:P.underlying T=some .string) (hx:ev σ x=some (.string s)) (k:Post (.int .i64 s.size) w):OW P N ops Q ⟨dst,.call ⟨.builtin .len,#[x],#[T]⟩,ty,pos,af,none⟩ σ w Post:=
 zt (fun ρ ha=>by simp[execOp,resolve,invoke,builtin,Builtin.len_,run_underlying hd,ha hx,goInt,go_sem]) k
theorem ylz {x i:Operand} {T e:TypeId} {g o n c s:Nat} {q:IntKind} {m:Int} {j:Nat} (hd:P.underlying T=some (.slice e)) (hs:yv P e s) (hx:ev σ x=some (.slice (some ⟨g,o,none⟩) n c)) (hi:ev σ i=some (.int q m)) (hm:m=(j:Int)) (hj:j<n)
 (k:Post (.pointer (some ⟨g,o+j*s,none⟩)) w):OW P N ops Q ⟨dst,.indexAddr T x i,ty,pos,af,none⟩ σ w Post:=
 zt (fun ρ ha=>by
  subst hm;have h1:¬n≤j:=om;simp[execOp,ha hx,ha hi,Instr.indexAt,asIntOf,run_underlying hd,ja hs,h1,Addr.add_eq,go_sem]) k
theorem ytx {x i:Operand} {T:TypeId} {s:ByteArray} {q:IntKind} {m:Int} {j:Nat} {b:UInt8} (hd:P.underlying T=some .string) (hx:ev σ x=some (.string s)) (hi:ev σ i=some (.int q m)) (hm:m=(j:Int)) (hb:s[j]? =some b)
 (k:Post (.int .u8 b.toNat) w):OW P N ops Q ⟨dst,.index T x i,ty,pos,af,none⟩ σ w Post:=
 zt (fun ρ ha=>by
  subst hm;simp[execOp,ha hx,ha hi,Instr.index,asIntOf,run_underlying hd,hb,go_sem]) k
def zz (P:Program) (f:FuncId):Prop:=∃fn,P.funcs[f]? =some fn∧fn.body.isNone=false∧(fn.name== "runtime.NumGoroutine")=false
def evs (σ:Env):List Operand→Option (List Value)
 | []=>some []
 | x::l=>match ev σ x with
  | some v=>match evs σ l with
   | some vs=>some (v::vs)
   | none=>none
  | none=>none
theorem qB {a:Act} (hat:At N σ a):∀ {l:List Operand} {vs:List Value},evs σ l=some vs→l.map a.eval=vs
 | [],vs,h=>by simp[evs] at h;simp[h]
 | x::l,vs,h=>by
  simp only[evs] at h
  split at h
  · rename_i v hv
    split at h
    · rename_i us hl
      injection h with h
      subst h;rw[List.map_cons,hat.ev hv,qB hat hl]
    · cases h
  · cases h
theorem zc {xs:List Operand} {ts:Array TypeId} {f:FuncId} {args:List Value} (hf:zz P f) (ha:evs σ xs=some args)
 (k:Calls P f args.toArray w (fun e w'=>∃v,e= .returned v∧Post v w')):OW P N ops Q ⟨dst,.call ⟨.value (.func f),xs.toArray,ts⟩,ty,pos,af,none⟩ σ w Post:=by
 intro a hat;rw[if_pos (by simp[Region.wanted])];unfold Oper.wp;have hargs:xs.toArray.map a.eval=args.toArray:=by
  apply Array.toList_inj.1
  rw[Array.toList_map];exact qB hat ha
 have hrun:(execOp a.eval ⟨dst,.call ⟨.value (.func f),xs.toArray,ts⟩,ty,pos,af,none⟩).run P w= .ok (.enter f args.toArray) w:=by
  simp only[execOp,resolve,hargs,Deferred.ofValue,Act.eval,invoke,callFunc,Sem.run_bind,Sem.run_pure,Result.andThen_ok]
  obtain ⟨fn,hf,hb,hr⟩:=hf;simp only[program,Sem.run,Result.andThen_ok,Array.append_empty,hf,hb]
  have hr':¬fn.name= "runtime.NumGoroutine" :=fun e=>by simp[e] at hr
  simp[hf,hr',hb,go_sem]
 rw[hrun,Oper.upon_enter];exact k.mono fun e w' ⟨v,he,hp⟩=>by subst he;exact ⟨v,rfl,hp⟩
section
variable {x y:Operand} {T U:TypeId}
theorem iJ {m n:Bool} (hd:P.underlying T=some .bool):(Op.equal T (.bool m) (.bool n)).run P w= .ok (m==n) w:=by
 have e:Op.maxDepth=9999+1:=rfl;have key:∀d:Nat,(Op.equalIn (d+1) T (.bool m) (.bool n)).run P w= .ok (m==n) w:=by
  exact J5
 unfold Op.equal;rw[e];exact key 9999
theorem Qi {m n:Bool} (hd:P.underlying T=some .bool) (hx:ev σ x=some (.bool m)) (hy:ev σ y=some (.bool n)) (k:Post (.bool (m==n)) w):OW P N ops Q ⟨dst,.binOp .eql T x y U,ty,pos,af,none⟩ σ w Post:=
 zt (fun ρ ha=>by
  have e:=iJ (P:=P) (w:=w) (m:=m) (n:=n) hd;simp only[execOp,ha hx,ha hy,eqGuard,binOp]
  simp[e,go_sem]) k
theorem El {m n:Bool} (hd:P.underlying T=some .bool) (hx:ev σ x=some (.bool m)) (hy:ev σ y=some (.bool n)) (k:Post (.bool (m !=n)) w):OW P N ops Q ⟨dst,.binOp .neq T x y U,ty,pos,af,none⟩ σ w Post:=
 zt (fun ρ ha=>by
  have e:=iJ (P:=P) (w:=w) (m:=m) (n:=n) hd;simp only[execOp,ha hx,ha hy,eqGuard,binOp]
  simp[e,bne,go_sem]) k
theorem qC {m n:ByteArray} (hx:ev σ x=some (.string m)) (hy:ev σ y=some (.string n)) (k:Post (.bool (m.toList==n.toList)) w):OW P N ops Q ⟨dst,.binOp .eql T x y U,ty,pos,af,none⟩ σ w Post:=
 zt (fun ρ ha=>by simp[execOp,ha hx,ha hy,binOp,eqGuard,Op.stringOp,go_sem]) k
theorem zzv {m n:ByteArray} (hx:ev σ x=some (.string m)) (hy:ev σ y=some (.string n)) (k:Post (.bool (!(m.toList==n.toList))) w):OW P N ops Q ⟨dst,.binOp .neq T x y U,ty,pos,af,none⟩ σ w Post:=
 zt (fun ρ ha=>by simp[execOp,ha hx,ha hy,binOp,eqGuard,Op.stringOp,go_sem]) k
theorem ve {m n:ByteArray} (hx:ev σ x=some (.string m)) (hy:ev σ y=some (.string n)) (hl:m.size+n.size≤9223372036854775807) (k:Post (.string (m++n)) w):OW P N ops Q ⟨dst,.binOp .add T x y U,ty,pos,af,none⟩ σ w Post:=
 zt (fun ρ ha=>by
  have h:¬((m.size+n.size:Nat):Int)>IntKind.i64.max:=by
   have:IntKind.i64.max=9223372036854775807:=de;rw[this];omega
  simp only[execOp,ha hx,ha hy,binOp,eqGuard,Op.stringOp,h,if_false]
  simp[go_sem]) k
end
theorem yax {T:TypeId} {x:Operand} {v:Value} (hx:ev σ x=some v) (k:∀g w',aA w' g T v.cells→Ext No w w'→w.heap.size≤g→Post (.pointer (some ⟨g,0,none⟩)) w'):OW P N ops Q ⟨dst,.box T x,ty,pos,af,none⟩ σ w Post:=
 Xn hx (k _ _ (aA.new _ _ _) ((Ext.refl _ _).alloc _) (Nat.le_refl _))
theorem xi {T:TypeId} {z:Value} (hz:kj P T z) (k:∀g w',aA w' g T z.cells→Ext No w w'→w.heap.size≤g→Post (.pointer (some ⟨g,0,none⟩)) w'):OW P N ops Q ⟨dst,.alloc T,ty,pos,af,none⟩ σ w Post:=
 tY hz (k _ _ (aA.new _ _ _) ((Ext.refl _ _).alloc _) (Nat.le_refl _))
theorem vd {x i:Operand} {T e:TypeId} {g o n c:Nat} {q:IntKind} {m:Int} {j:Nat} (hd:P.underlying T=some (.slice e)) (hs:yv P e 1) (hx:ev σ x=some (.slice (some ⟨g,o,none⟩) n c)) (hi:ev σ i=some (.int q m)) (hm:m=(j:Int)) (hj:j<n)
 (k:Post (.pointer (some ⟨g,o+j,none⟩)) w):OW P N ops Q ⟨dst,.indexAddr T x i,ty,pos,af,none⟩ σ w Post:=
 ylz hd hs hx hi hm hj (by rw[Nat.mul_one];exact k)
theorem yj {n:Int} (h:-9223372036854775808≤n∧n≤9223372036854775807):IntKind.i64.wrap n=n:=IntWalk.i64_in n h
theorem wrap_u64 {n:Int} (h:0≤n∧n≤18446744073709551615):IntKind.u64.wrap n=n:=by
 unfold IntKind.wrap;exact Ej
theorem UC {n:Int} (h:0≤n∧n≤255):IntKind.u8.wrap n=n:=by
 unfold IntKind.wrap;exact Ej
end
section
variable {P:Program} {N:Nat} {ops:Array Oper} {Q:Exit→Act→World→Prop} {σ:Env} {w:World} {dst:Option Tmp} {ty:TypeId} {pos:String} {af:Array Edge} {Post:Value→World→Prop}
theorem qd {T T':TypeId} {x y:Operand} {g o:Nat} {cs:Array Value} {v:Value} {n:Nat} (hs:yv P T n) (hx:ev σ x=some (.pointer (some ⟨g,o,none⟩))) (hy:ev σ y=some v) (hb:aA w g T' cs) (hn:v.cells.size=n) (h1:oa v.cells.toList=true) (hle:o+n≤cs.size)
 (k:∀w',aA w' g T' (putCells cs o v.cells.toList)→Ext (ah [some g]) w w'→Post undef w'):OW P N ops Q ⟨dst,.store T x y,ty,pos,af,none⟩ σ w Post:=
 iI hs hx hy hb hn h1 (Nat.ble_eq_true_of_le hle) (fun w' hb' he _=>k w' hb' he.one)
def JQ (P:Program) (T:TypeId) (pl:List (Nat×Nat)):Prop:=∃fs,P.underlying T=some (.struct fs)∧fs.toList.mapM (fun f=>(P.info? f.type).map (fun i=>(f.offset,i.size)))=some pl
def Xp (σ:Env):List (Nat×Operand)→Option (List (Nat×Value))
 | []=>some []
 | (i,x)::l=>match ev σ x with
  | some v=>match Xp σ l with
   | some vs=>some ((i,v)::vs)
   | none=>none
  | none=>none
theorem qD {ρ:Operand→Value} (ha:∀ {x v},ev σ x=some v→ρ x=v):∀ {l:List (Nat×Operand)} {vs:List (Nat×Value)},Xp σ l=some vs→l.map (fun (i,x)=>(i,ρ x))=vs
 | [],vs,h=>by simp[Xp] at h;simp[h]
 | (i,x)::l,vs,h=>by
  simp only[Xp] at h
  split at h
  · rename_i v hv
    split at h
    · rename_i us hl
      injection h with h
      subst h;show (i,ρ x)::l.map _=_
      rw[ha hv,qD ha hl]
    · cases h
  · cases h
theorem run_places {fs:List Field} {pl:List (Nat×Nat)} (w:World):fs.mapM (fun f=>(P.info? f.type).map (fun i=>(f.offset,i.size)))=some pl→
 (fs.mapM (m:=Sem) fun f=>do pure (f.offset,←sizeOf f.type)).run P w= .ok pl w:=by
 induction fs generalizing pl with
 | nil=>intro h;simp at h;subst h;simp[go_sem]
 | cons f fs ih=>
  intro h;rw[List.mapM_cons] at h;cases hf:P.info? f.type with
  | none=>rw[hf] at h;cases h
  | some i=>
   rw[hf] at h;cases hl:fs.mapM (fun f=>(P.info? f.type).map (fun i=>(f.offset,i.size))) with
   | none=>rw[hl] at h;cases h
   | some ql=>
    rw[hl] at h;have e:(f.offset,i.size)::ql=pl:=by injection h
    subst e;have h1:=ja (P:=P) (T:=f.type) (n:=i.size) (by unfold yv;rw[hf];rfl) w;simp only[List.mapM_cons,Sem.run_bind,h1,Result.andThen_ok,Sem.run_pure,ih hl]
theorem Xq {T:TypeId} {pl:List (Nat×Nat)} {z:Value} {ps:List (Nat×Operand)} {vs:List (Nat×Value)} {cs:Array Value} (hp:JQ P T pl) (hz:kj P T z) (hv:Xp σ ps=some vs) (hf:Instr.fill (pl.toArray[·]?) z.cells vs=some cs)
 (k:Post (.agg cs) w):OW P N ops Q ⟨dst,.build T ps.toArray,ty,pos,af,none⟩ σ w Post:=
 zt (fun ρ ha=>by
  obtain ⟨fs,hd,hl⟩:=hp;have h1:=run_places (P:=P) w hl;have h2:=qD ha hv;have h3:(ps.toArray.map fun (i,x)=>(i,ρ x))=vs.toArray:=by rw[List.map_toArray,h2]
  have h4:(fs.mapM (m:=Sem) fun f=>do pure (f.offset,←sizeOf f.type)).run P w= .ok pl.toArray w:=by
   have e:fs=fs.toList.toArray:=by simp
   rw[e,List.mapM_toArray,map_eq_pure_bind,Sem.run_bind,h1,Result.andThen_ok,Sem.run_pure]
  simp only[execOp,Instr.build,h3,Sem.run_bind,iF hz,Result.andThen_ok,run_underlying hd,h4,hf,Sem.run_pure]) k
theorem ym (f:Nat→Value) (n:Nat):(Array.range n).map f=((List.range n).map f).toArray:=by
 apply Array.ext<;>simp
theorem zv {T e:TypeId} {n s:Nat} {z:Value} {ps:List (Nat×Operand)} {vs:List (Nat×Value)} {cs:Array Value} (hd:P.underlying T=some (.slice e)) (hs:yv P e s) (hz:kj P e z) (hn:n*s≤1024) (hv:Xp σ ps=some vs)
 (hf:Instr.fill (fun i=>some (i*s,s)) ((Array.range (n*s)).map ((if n*s=0 then #[] else z.cells)[· %(if n*s=0 then #[] else z.cells).size]!)) vs=some cs)
 (k:∀g w',aA w' g e cs→Ext No w w'→w.heap.size≤g→Post (.slice (some ⟨g,0,none⟩) n n) w'):OW P N ops Q ⟨dst,.buildSlice T n ps.toArray,ty,pos,af,none⟩ σ w Post:=
 zt (v:=.slice (some ⟨w.heap.size,0,none⟩) n n) (w':=w.alloc (.cells cs e)) (fun ρ ha=>by
  have h2:=qD ha hv;have h3:(ps.toArray.map fun (i,x)=>(i,ρ x))=vs.toArray:=by rw[List.map_toArray,h2]
  have hn2:¬n*s>2^24:=om;by_cases h0:n*s=0
  · simp only[h0,↓reduceIte] at hf
    simp only[execOp,Instr.buildSlice,h3,Sem.run_bind,run_underlying hd,ja hs,Result.andThen_ok,hn2,↓reduceIte,h0,Sem.run_pure,Nat.reducePow,gt_iff_lt,Nat.not_lt_zero]
    rw[hf];simp[newRow,newObj,Sem.run,go_sem]
  · simp only[h0,↓reduceIte] at hf
    simp only[execOp,Instr.buildSlice,h3,Sem.run_bind,run_underlying hd,ja hs,Result.andThen_ok,hn2,↓reduceIte,h0,iF hz,Sem.run_pure]
    rw[hf];simp[newRow,newObj,Sem.run,go_sem]) (k _ _ (aA.new _ _ _) ((Ext.refl _ _).alloc _) (Nat.le_refl _))
def iK (P:Program) (e:TypeId) (z:Value) (size bytes:Nat):Prop:=(P.info? e).map (fun i=>(i.zero,i.size,i.bytes))=some (some z,size,bytes)
theorem qe {T e:TypeId} {x y:Operand} {z:Value} {size bytes base n B m c:Nat} {v:Value} {xs news:List Value} {A:Option Addr} (hd:P.underlying T=some (.slice e)) (hi:iK P e z size bytes) (hzs:z.cells.size=size) (hsz:0<size)
 (hx:ev σ x=some v) (hown:w.ownsRow base e size v n xs) (hy:ev σ y=some (.slice A m c)) (hr:Reads w B size A m news) (h1:∀u∈news,u.oneCell'=true) (h63:n+m≤maxLen) (hbytes:(n+m)*bytes≤140737488355328) (hbase:base≤w.heap.size)
 (k:∀v' w',w'.ownsRow base e size v' (n+m) (xs++news)→Ext (ah [v.ownBlock]) w w'→(∀k,v'.ownBlock=some k→v.ownBlock=some k∨w.heap.size≤k)→Post v' w'):OW P N ops Q ⟨dst,.call ⟨.builtin .append,#[x,y],#[T,T]⟩,ty,pos,af,none⟩ σ w Post:=by
 obtain ⟨i,hi1,hi2⟩:=Option.map_eq_some_iff.1 hi;simp only[Prod.mk.injEq] at hi2
 obtain ⟨hz,hs,hby⟩:=hi2;obtain ⟨v',w',hrun,h2,h3,h4⟩:=iw (P:=P) w base T ty e i z size bytes hd hi1 hz hs hby hzs hsz v n xs hown B A m c news hr h1 h63 hbytes hbase;refine zt (v:=v') (w':=w') (fun ρ ha=>?_) (k v' w' h2 (Ext.grown h3) (fun k hk=>?_))
 · simp only[execOp,resolve,invoke,builtin,Sem.run_bind,Sem.run_pure,Result.andThen_ok,List.map_toArray,List.map_cons,List.map_nil,ha hx,ha hy,hrun]
 · rcases h4 with h4 | h4
   · exact Or.inl (h4▸hk)
   · right
     rw[h4] at hk;have:=Option.some.inj hk;omega
theorem uf {T e:TypeId} {x:Operand} {lo hi:Option Operand} {A:Option Addr} {n c s l h:Nat} (hd:P.underlying T=some (.slice e)) (hs:yv P e s) (hx:ev σ x=some (.slice A n c))
 (hl:(match lo with | none=>l=0 | some y=>∃q,ev σ y=some (.int q (l:Int)))) (hh:(match hi with | none=>h=n | some y=>∃q,ev σ y=some (.int q (h:Int)))) (hlh:l≤h) (hhc:h≤c)
 (k:Post (.slice (if c=l then A else A.map (·.add (l*s))) (h-l) (c-l)) w):OW P N ops Q ⟨dst,.slice T x lo hi none,ty,pos,af,none⟩ σ w Post:=
 zt (fun ρ ha=>by
  have a1:∀(y:Operand) (q:IntKind) (j lim:Nat) (code:BoundsCode),ev σ y=some (.int q (j:Int))→j≤lim→(Instr.sliceBound (ρ y) lim code).run P w= .ok j w:=by
   intro y q j lim code hy hj;exact Uo
  cases lo with
  | none=>
   cases hi with
   | none=>
    simp only at hl hh
    subst hl;subst hh;simp only[execOp,Instr.sliceAt,Option.map_none,ha hx,Sem.run_bind,run_underlying hd,Result.andThen_ok,Instr.slice,Instr.sliceBounds,Sem.run_pure,ja hs]
   | some y=>
    simp only at hl
    subst hl;obtain ⟨q,hy⟩:=hh;simp only[execOp,Instr.sliceAt,Option.map_none,Option.map_some,ha hx,Sem.run_bind,run_underlying hd,Result.andThen_ok,Instr.slice,Instr.sliceBounds,Sem.run_pure,ja hs,if_true,a1 y q h c _ hy hhc]
  | some z=>
   obtain ⟨q',hz⟩:=hl;cases hi with
   | none=>
    simp only at hh
    subst hh;simp only[execOp,Instr.sliceAt,Option.map_none,Option.map_some,ha hx,Sem.run_bind,run_underlying hd,Result.andThen_ok,Instr.slice,Instr.sliceBounds,Sem.run_pure,ja hs,Option.isSome_none,Bool.false_eq_true,if_false,a1 z q' l h _ hz hlh]
   | some y=>
    obtain ⟨q,hy⟩:=hh;simp only[execOp,Instr.sliceAt,Option.map_none,Option.map_some,ha hx,Sem.run_bind,run_underlying hd,Result.andThen_ok,Instr.slice,Instr.sliceBounds,Sem.run_pure,ja hs,if_true,a1 y q h c _ hy hhc,Option.isSome_none,Bool.false_eq_true,if_false,a1 z q' l h _ hz hlh]) k
end
section
variable {P:Program} {N:Nat} {ops:Array Oper} {Q:Exit→Act→World→Prop} {σ:Env} {w:World}
def PK:List Edge→List Nat
 | []=>[]
 | e::l=>match Region.binds .any e with
  | true=>e.on::PK l
  | false=>PK l
theorem ybx {e:Edge} {l:List Edge} (he:e∈l) (hb:Region.binds .any e=true):e.on∈PK l:=by
 induction l with
 | nil=>cases he
 | cons x l ih=>
  simp only[PK]
  rcases List.mem_cons.1 he with rfl | h
  · rw[hb];exact List.mem_cons.2 (Or.inl rfl)
  · split
    · exact List.mem_cons.2 (Or.inr (ih h))
    · exact ih h
theorem ylk {j:Nat} {l:List Edge} (h:j∈PK l):∃e∈l,Region.binds .any e=true∧e.on=j:=by
 induction l with
 | nil=>cases h
 | cons x l ih=>
  simp only[PK] at h
  split at h
  · rename_i hb
    rcases List.mem_cons.1 h with rfl | h
    · exact ⟨x,List.mem_cons.2 (Or.inl rfl),hb,rfl⟩
    · obtain ⟨e,he,r⟩:=ih h;exact ⟨e,List.mem_cons.2 (Or.inr he),r⟩
  · obtain ⟨e,he,r⟩:=ih h;exact ⟨e,List.mem_cons.2 (Or.inr he),r⟩
def qg (ops:Array Oper) (i:Nat):List Nat:=match ops[i]? with
 | some o=>PK o.after.toList
 | none=>[]
def ug (ops:Array Oper) (i:Nat):Option Nat:=match ops[i]? with
 | some o=>o.dst
 | none=>none
def fB (t:Nat):List Nat→Bool
 | []=>false
 | s::l=>match Nat.beq s t with
  | true=>true
  | false=>fB t l
theorem jh {t:Nat}:∀ {l:List Nat},fB t l=true↔t∈l
 | []=>by simp[fB]
 | s::l=>by
  simp only[fB]
  split
  · rename_i h;have:=Nat.eq_of_beq_eq_true h;subst this;simp
  · rename_i h
    have hne:¬t=s:=fun e=>by subst e;simp at h
    rw[jh (l:=l)];simp[hne]
def uh:List Oper→List Nat
 | []=>[]
 | o::l=>match o.dst with
  | some d=>d::uh l
  | none=>uh l
theorem J8 {o:Oper} {d:Nat} {l:List Oper} (ho:o∈l) (hd:o.dst=some d):d∈uh l:=by
 induction l with
 | nil=>cases ho
 | cons x l ih=>
  simp only[uh]
  rcases List.mem_cons.1 ho with rfl | h
  · rw[hd];exact List.mem_cons.2 (Or.inl rfl)
  · split
    · exact List.mem_cons.2 (Or.inr (ih h))
    · exact ih h
def uj (ds:List Nat):Env→Env
 | []=>[]
 | (t,v)::l=>match fB t ds with
  | true=>uj ds l
  | false=>(t,v)::uj ds l
theorem ymz {ds:List Nat} {t:Nat} {v:Value}:∀ {τ:Env},lk t (uj ds τ)=some v→lk t τ=some v∧t∉ds
 | [],h=>by cases h
 | (s,u)::τ,h=>by
  simp only[uj] at h
  split at h
  · rename_i hm
    obtain ⟨h1,h2⟩:=ymz h;rw[kp];have:¬s=t:=fun e=>by subst e;exact h2 (jh.1 hm)
    rw[if_neg this];exact ⟨h1,h2⟩
  · rename_i hm
    rw[kp] at h ⊢;by_cases hs:s=t
    · subst hs;rw[if_pos rfl] at h ⊢;exact ⟨h,fun hc=>by rw[jh.2 hc] at hm;cases hm⟩
    · rw[if_neg hs] at h ⊢;exact ymz h
def iL (vs:Nat→Value) (ops:Array Oper):List Nat→Env
 | []=>[]
 | j::l=>match ug ops j with
  | some d=>(d,vs j)::iL vs ops l
  | none=>iL vs ops l
theorem qbk {vs:Nat→Value} {t:Nat} {v:Value}:∀ {l:List Nat},lk t (iL vs ops l)=some v→ ∃j∈l,ug ops j=some t∧v=vs j
 | [],h=>by cases h
 | j::l,h=>by
  simp only[iL] at h
  split at h
  · rename_i d hd
    rw[kp] at h;by_cases hs:d=t
    · subst hs;rw[if_pos rfl] at h;injection h with h;exact ⟨j,List.mem_cons.2 (Or.inl rfl),hd,h.symm⟩
    · rw[if_neg hs] at h;obtain ⟨j',hj,r⟩:=qbk h;exact tT
  · obtain ⟨j',hj,r⟩:=qbk h;exact tT
theorem ybq {t:Nat} {v:Value}:∀ {a b:Env},lk t (a++b)=some v→lk t a=some v∨lk t b=some v
 | [],_,h=>Or.inr h
 | (s,u)::a,b,h=>by
  rw[List.cons_append,kp] at h;rw[kp];by_cases hs:s=t
  · rw[if_pos hs] at h ⊢;exact Or.inl h
  · rw[if_neg hs] at h ⊢;exact ybq h
def Gp (σ:Env) (ops:Array Oper) (i:Nat):List Nat→Env
 | []=>[]
 | j::l=>match ug ops j,fB i (qg ops j) with
  | some d,true=>match lk d σ with
   | some v=>(d,v)::Gp σ ops i l
   | none=>Gp σ ops i l
  | _,_=>Gp σ ops i l
theorem qbv {i t:Nat} {v:Value}:∀ {l:List Nat},lk t (Gp σ ops i l)=some v→ ∃j∈l,ug ops j=some t∧i∈qg ops j∧lk t σ=some v
 | [],h=>by cases h
 | j::l,h=>by
  simp only[Gp] at h
  split at h
  · rename_i d hd hm
    split at h
    · rename_i u hu
      rw[kp] at h;by_cases hs:d=t
      · subst hs;rw[if_pos rfl] at h;injection h with h;subst h;exact ⟨j,List.mem_cons.2 (Or.inl rfl),hd,jh.1 hm,hu⟩
      · rw[if_neg hs] at h;obtain ⟨j',hj,r⟩:=qbv h;exact tT
    · obtain ⟨j',hj,r⟩:=qbv h;exact tT
  · obtain ⟨j',hj,r⟩:=qbv h;exact tT
def Em:Nat→List Oper→List Nat→Bool
 | _,[],_=>true
 | i,o::l,ds=>(PK o.after.toList).all (Nat.blt · i)&&(match o.dst with
  | some d=>!fB d ds&&Em (i+1) l (d::ds)
  | none=>Em (i+1) l ds)
theorem Xr:∀ {l:List Oper} {k:Nat} {ds:List Nat},Em k l ds=true→ ∀ {i:Nat} {o:Oper},l[i]? =some o→
 (∀j∈PK o.after.toList,j<k+i)∧(∀d,o.dst=some d→d∉ds∧ ∀j o',j<i→l[j]? =some o'→o'.dst≠some d)
 | [],_,_,_,i,o,h=>by simp at h
 | x::l,k,ds,hr,0,o,h=>by
  simp only[List.getElem?_cons_zero,Option.some.injEq] at h
  subst h;simp only[Em,Bool.and_eq_true,List.all_eq_true] at hr
  refine ⟨fun j hj=>Nat.le_of_ble_eq_true (hr.1 j hj),fun d hd=>⟨fun hc=>?_,fun j o' hj=>absurd hj (Nat.not_lt_zero _)⟩⟩;have h2:=hr.2;rw[hd] at h2;simp[jh.2 hc] at h2
 | x::l,k,ds,hr,i+1,o,h=>by
  simp only[List.getElem?_cons_succ] at h
  simp only[Em,Bool.and_eq_true] at hr
  have h2:=hr.2;cases hx:x.dst with
  | none=>
   rw[hx] at h2;obtain ⟨a1,a2⟩:=Xr h2 h;refine ⟨fun j hj=>by have:=a1 j hj;omega,fun d hd=>⟨(a2 d hd).1,fun j o' hj ho'=>?_⟩⟩;cases j with
   | zero=>simp only[List.getElem?_cons_zero,Option.some.injEq] at ho';subst ho';rw[hx];simp
   | succ j=>exact (a2 d hd).2 j o' om (by simpa using ho')
  | some e=>
   rw[hx] at h2;simp only[Bool.and_eq_true] at h2
   obtain ⟨a1,a2⟩:=Xr h2.2 h;refine ⟨fun j hj=>by have:=a1 j hj;omega,fun d hd=>⟨fun hc=>(a2 d hd).1 (List.mem_cons.2 (Or.inr hc)),fun j o' hj ho'=>?_⟩⟩;cases j with
   | zero=>
    simp only[List.getElem?_cons_zero,Option.some.injEq] at ho'
    subst ho';rw[hx];intro he;injection he with he
    exact (a2 d hd).1 (List.mem_cons.2 (Or.inl he.symm))
   | succ j=>exact (a2 d hd).2 j o' om (by simpa using ho')
theorem yuk:∀(l:List Bool) (i:Nat),l[i]? =some false→(l.set i true).count false+1=l.count false
 | [],i,h=>by simp at h
 | x::l,0,h=>by simp only[List.getElem?_cons_zero,Option.some.injEq] at h;subst h;simp
 | x::l,i+1,h=>by
  have:=yuk l i (by simpa using h);simp only[List.set_cons_succ,List.count_cons]
  omega
structure Bx where
 at_:Nat
 st:Nat
 T:TypeId
 zero:Array Value
def xm:List Bx→Nat→Option Bx
 | [],_=>none
 | b::l,i=>match Nat.beq b.at_ i with
  | true=>some b
  | false=>xm l i
def ka:List Bx→Nat→Option Bx
 | [],_=>none
 | b::l,i=>match Nat.beq b.st i with
  | true=>some b
  | false=>ka l i
structure Ox where
 st:Nat
 g:Nat
 T:TypeId
 cs:Array Value
def nH:List Ox→Nat→Option Ox
 | [],_=>none
 | b::l,i=>match Nat.beq b.st i with
  | true=>some b
  | false=>nH l i
theorem Gq {os:List Ox} {i:Nat} {b:Ox} (h:nH os i=some b):b∈os∧b.st=i:=by
 induction os with
 | nil=>cases h
 | cons x l ih=>
  simp only[nH] at h
  exact J9
theorem Bo {os:List Ox} {i:Nat} (h:nH os i=none):∀o∈os,o.st≠i:=by
 induction os with
 | nil=>intro o ho;cases ho
 | cons x l ih=>
  simp only[nH] at h
  split at h
  · cases h
  · rename_i he
    intro o ho;rcases List.mem_cons.1 ho with rfl | ho
    · intro e;rw[e] at he;simp at he
    · exact ih h o ho
def oj:List Ox→List (Option Nat)
 | []=>[]
 | o::l=>some o.g::oj l
theorem Kk {os:List Ox} {k:Nat}:ah (oj os) k↔ ∃o∈os,o.g=k:=by
 induction os with
 | nil=>exact ⟨fun h=>h.elim,fun ⟨_,h,_⟩=>by cases h⟩
 | cons x l ih=>
  constructor
  · rintro (h | h)
    · exact ⟨x,List.mem_cons.2 (Or.inl rfl),(Option.some.inj h).symm⟩
    · obtain ⟨o,ho,e⟩:=ih.1 h;exact ⟨o,List.mem_cons.2 (Or.inr ho),e⟩
  · rintro ⟨o,ho,e⟩;rcases List.mem_cons.1 ho with rfl | ho
    · exact Or.inl (congrArg some e.symm)
    · exact Or.inr (ih.2 ⟨o,ho,e⟩)
theorem nI {bs:List Bx} {i:Nat} {b:Bx} (h:xm bs i=some b):b∈bs∧b.at_=i:=by
 induction bs with
 | nil=>cases h
 | cons x l ih=>
  simp only[xm] at h
  exact J9
theorem iM {bs:List Bx} {i:Nat} {b:Bx} (h:ka bs i=some b):b∈bs∧b.st=i:=by
 induction bs with
 | nil=>cases h
 | cons x l ih=>
  simp only[ka] at h
  exact J9
structure Fx where
 T:Type
 V:T→Value
 G:T→World→Prop
def Left (X:Nat→Prop) (w:World) (f:Fx) (v:Value):Prop:=∃p:f.T,v=f.V p∧Per X w (f.G p)
theorem Left.on {X:Nat→Prop} {w w':World} {f:Fx} {v:Value} (h:Left X w f v) (L:Ext X w w'):Left X w' f v:=let ⟨p,e,k⟩:=h;⟨p,e,k.on L⟩
theorem Left.no {X:Nat→Prop} {w:World} {f:Fx} {v:Value} (h:Left X w f v):Left No w f v:=let ⟨p,e,k⟩:=h;⟨p,e,k.no⟩
theorem Left.less {X Y:Nat→Prop} {w:World} {f:Fx} {v:Value} (h:Left X w f v) (hy:∀k,Y k→X k):Left Y w f v:=let ⟨p,e,k⟩:=h;⟨p,e,k.less hy⟩
def Fx.of (v:Value):Fx:=⟨Unit,fun _=>v,fun _ _=>True⟩
theorem Left.of {X:Nat→Prop} {w:World} {v u:Value} (e:v=u):Left X w (Fx.of u) v:=⟨(),e,fun _ _=>trivial⟩
def gH:List Fx→Nat→Fx
 | [],_=>Fx.of undef
 | f::_,0=>f
 | _::l,i+1=>gH l i
def kt (σ:Env) (ops:Array Oper) (vs:Nat→Value) (i:Nat):Env:=iL vs ops (qg ops i)++(Gp σ ops i (List.range ops.size)++uj (uh ops.toList) σ)
theorem iN {vs us:Nat→Value}:∀ {l:List Nat},(∀j∈l,vs j=us j)→iL vs ops l=iL us ops l
 | [],_=>rfl
 | j::l,h=>by
  simp only[iL]
  rw[h j (List.mem_cons.2 (Or.inl rfl)),iN fun k hk=>h k (List.mem_cons.2 (Or.inr hk))]
theorem um {vs us:Nat→Value} {i:Nat} (h:∀j∈qg ops i,vs j=us j):kt σ ops vs i=kt σ ops us i:=by
 unfold kt;rw[iN h]
def Known (ops:Array Oper) (bs:List Bx) (os:List Ox) (F:Nat→Fx) (w0:World) (vs:Nat→Value) (X:Nat→Prop) (w:World) (i:Nat):Prop:=
 Ext (ah (oj os)) w0 w∧(∀k,X k→k<w.heap.size)∧ ∀j∈qg ops i,xm bs j=none→ka bs j=none→Left X w (F j) (vs j)
def Bq (P:Program) (N:Nat) (ops:Array Oper) (Q:Exit→Act→World→Prop) (σ:Env) (bs:List Bx) (os:List Ox) (F:Nat→Fx) (w0:World) (i:Nat) (o:Oper):Prop:=
 match xm bs i with
 | some b=>∃d z ty pos af,o= ⟨some d,.alloc b.T,ty,pos,af,none⟩∧kj P b.T z∧z.cells=b.zero
 | none=>match ka bs i with
  | some b=>∃d y ty pos af,o= ⟨none,.store b.T (.tmp d) y,ty,pos,af,none⟩∧ug ops b.at_=some d∧fB b.at_ (qg ops i)=true∧yv P b.T b.zero.size∧
   ∀vs X w,Known ops bs os F w0 vs X w i→ ∃v,ev (kt σ ops vs i) y=some v∧v.cells.size=b.zero.size∧oa v.cells.toList=true
  | none=>match nH os i with
   | some b=>∃x y ty pos af,o= ⟨none,.store b.T x y,ty,pos,af,none⟩∧F i=Fx.of undef∧yv P b.T b.cs.size∧
    ∀vs X w,Known ops bs os F w0 vs X w i→ev (kt σ ops vs i) x=some (.pointer (some ⟨b.g,0,none⟩))∧ ∃v,ev (kt σ ops vs i) y=some v∧v.cells.size=b.cs.size∧oa v.cells.toList=true
   | none=>∀vs X w,Known ops bs os F w0 vs X w i→OW P N ops Q o (kt σ ops vs i) w (fun v w'=>Below w.heap.size w w'∧Left X w' (F i) v)
def ypq (P:Program) (N:Nat) (ops:Array Oper) (Q:Exit→Act→World→Prop) (σ:Env) (bs:List Bx) (os:List Ox) (F:Nat→Fx) (w0:World):Nat→List Oper→Prop
 | _,[]=>True
 | i,o::l=>Bq P N ops Q σ bs os F w0 i o∧ypq P N ops Q σ bs os F w0 (i+1) l
theorem iO {bs:List Bx} {os:List Ox} {F:Nat→Fx} {w0:World}:∀ {l:List Oper} {k:Nat},ypq P N ops Q σ bs os F w0 k l→ ∀ {i:Nat} {o:Oper},l[i]? =some o→Bq P N ops Q σ bs os F w0 (k+i) o
 | [],_,_,i,o,h=>by simp at h
 | x::l,k,hs,0,o,h=>by simp only[List.getElem?_cons_zero,Option.some.injEq] at h;subst h;exact hs.1
 | x::l,k,hs,i+1,o,h=>by
  have:=iO hs.2 (i:=i) (o:=o) (by simpa using h);rwa [show k+1+i=k+(i+1) from om] at this
def uo (ops:Array Oper) (i:Nat):Option Operand:=match ops[i]? with
 | some o=>match o.op with
  | .store _ _ y=>some y
  | _=>none
 | none=>none
def Xt (P:Program) (σ:Env) (ops:Array Oper) (vs:Nat→Value) (w0 w:World) (b:Bx):Prop:=
 ∃g v y,vs b.at_= .pointer (some ⟨g,0,none⟩)∧w0.heap.size≤g∧aA w g b.T v.cells∧uo ops b.st=some y∧ev (kt σ ops vs b.st) y=some v
end
section
variable {P:Program} {N:Nat} {Y:Nat→Prop} {l:List Oper} {Q:Exit→Act→World→Prop} {σ:Env} {w0:World} {bs:List Bx} {os:List Ox} {F:Nat→Fx}
def Ran (listed:Array Bool) (i:Nat):Prop:=listed.getD i false=true
structure Mid (P:Program) (N:Nat) (Y:Nat→Prop) (l:List Oper) (σ:Env) (w0:World) (bs:List Bx) (os:List Ox) (F:Nat→Fx) (listed:Array Bool) (a:Act) (w:World) (vs:Nat→Value) (X:Nat→Prop):Prop where
 size:listed.size=l.length
 defers:a.defers= []
 tmps:a.tmps.size=N
 kept:∀t v,lk t (uj (uh l) σ)=some v→a.tmps[t]? =some v
 ran:∀i d,Ran listed i→ug l.toArray i=some d→a.tmps[d]? =some (vs i)
 old:∀i d v,¬Ran listed i→ug l.toArray i=some d→lk d σ=some v→a.tmps[d]? =some v
 down:∀i,Ran listed i→ ∀j∈qg l.toArray i,Ran listed j
 ext:Ext (ah (oj os)) w0 w
 new:∀k,X k→k<w.heap.size
 outer:∀k,Y k→X k
 older:∀k,Y k→k<w0.heap.size
 facts:∀i,Ran listed i→xm bs i=none→ka bs i=none→Left X w (F i) (vs i)
 boxes:∀b∈bs,Ran listed b.at_→ ∃g cs,vs b.at_= .pointer (some ⟨g,0,none⟩)∧X g∧w0.heap.size≤g∧aA w g b.T cs∧cs.size=b.zero.size∧
  (Ran listed b.st→ ∃v y,cs=v.cells∧uo l.toArray b.st=some y∧ev (kt σ l.toArray vs b.st) y=some v)
 outs:∀o∈os,(¬Ran listed o.st→aA w o.g o.T o.cs)∧(Ran listed o.st→ ∃v y,aA w o.g o.T v.cells∧uo l.toArray o.st=some y∧ev (kt σ l.toArray vs o.st) y=some v)
 Xu:∀o∈os,Y o.g
 apart:∀b∈bs,∀c∈bs,Ran listed b.at_→Ran listed c.at_→b.at_≠c.at_→vs b.at_≠vs c.at_
def iy:List Bx→Bool
 | []=>true
 | b::l=>l.all (fun c=>!Nat.beq b.at_ c.at_&& !Nat.beq b.st c.st)&&iy l
theorem yck:∀ {bs:List Bx},iy bs=true→ ∀b∈bs,∀c∈bs,b≠c→b.at_≠c.at_∧b.st≠c.st
 | [],_,_,hb,_,_,_=>by cases hb
 | x::l,h,b,hb,c,hc,hne=>by
  simp only[iy,Bool.and_eq_true,List.all_eq_true,Bool.not_eq_true'] at h
  rcases List.mem_cons.1 hb with rfl | hb'
  · rcases List.mem_cons.1 hc with rfl | hc'
    · exact absurd rfl hne
    · have:=h.1 c hc';exact J6
  · rcases List.mem_cons.1 hc with rfl | hc'
    · have:=h.1 b hb';exact J6
    · exact yck h.2 b hb' c hc' hne
theorem zrq {bs:List Bx} (h:iy bs=true) {b:Bx} (hb:b∈bs):xm bs b.at_=some b:=by
 cases ho:xm bs b.at_ with
 | none=>
  exfalso
  induction bs with
  | nil=>cases hb
  | cons x l ih=>
   simp only[xm] at ho
   exact Ul
 | some c=>
  obtain ⟨hc,e⟩:=nI ho;by_cases hbc:c=b
  · rw[hbc]
  · exact absurd e (yck h c hc b hb hbc).1
theorem yzx {bs:List Bx} (h:iy bs=true) {b:Bx} (hb:b∈bs):ka bs b.st=some b:=by
 cases ho:ka bs b.st with
 | none=>
  exfalso
  induction bs with
  | nil=>cases hb
  | cons x l ih=>
   simp only[ka] at ho
   exact Ul
 | some c=>
  obtain ⟨hc,e⟩:=iM ho;by_cases hbc:c=b
  · rw[hbc]
  · exact absurd e (yck h c hc b hb hbc).2
theorem kc {listed:Array Bool} {i j:Nat} (hi:i<listed.size):Ran (listed.setIfInBounds i true) j↔j=i∨Ran listed j:=by
 unfold Ran;by_cases h:j=i
 · subst h;simp[hi]
 · simp only[h,false_or,Array.getD_eq_getD_getElem?,Array.getElem?_setIfInBounds_ne (fun e=>h e.symm)]
theorem ykx:∀(l:List Value) (pre cs:List Value),cs.length=l.length→putCells (pre++cs).toArray pre.length l=(pre++l).toArray
 | [],pre,cs,h=>by simp at h;simp[putCells,h]
 | v::l,pre,[],h=>by simp at h
 | v::l,pre,c::cs,h=>by
  have:=ykx l (pre++ [v]) cs (by simpa using h);simp only[List.length_append,List.length_cons,List.length_nil,Nat.zero_add,List.append_assoc,List.cons_append,List.nil_append] at this
  rw[putCells,←this];congr 1
  simp
theorem zvz {cs:Array Value} {v:Array Value} (h:v.size=cs.size):putCells cs 0 v.toList=v:=by
 have:=ykx v.toList [] cs.toList (by simp[h]);simpa using this
theorem Mid.at_ {listed:Array Bool} {a:Act} {w:World} {vs:Nat→Value} {X:Nat→Prop} (m:Mid P N Y l σ w0 bs os F listed a w vs X) {i:Nat} (hi:¬Ran listed i) (hd:∀j∈qg l.toArray i,Ran listed j):At N (kt σ l.toArray vs i) a:=by
 exact Ur
theorem iB {i:Nat} {o:Oper} (ho:l[i]? =some o):ug l.toArray i=o.dst:=by unfold ug;simp[ho]
theorem Gr {i:Nat} {o:Oper} (ho:l[i]? =some o):qg l.toArray i=PK o.after.toList:=by unfold qg;simp[ho]
theorem iA {i d:Nat} (h:ug l.toArray i=some d):∃o,l[i]? =some o∧o.dst=some d:=by
 unfold ug at h;split at h
 · rename_i o ho;exact ⟨o,by simpa using ho,h⟩
 · cases h
theorem pR (hrow:Em 0 l []=true) {i j d:Nat} (hi:ug l.toArray i=some d) (hj:ug l.toArray j=some d):i=j:=by
 obtain ⟨o,ho,hod⟩:=iA hi;obtain ⟨p,hp,hpd⟩:=iA hj;rcases Nat.lt_trichotomy i j with h | h | h
 · exact absurd hod (((Xr hrow hp).2 d hpd).2 i o h ho)
 · exact h
 · exact absurd hpd (((Xr hrow ho).2 d hod).2 j p h hp)
theorem Mid.step (hrow :    Em 0 l [] = true) {listed : Array Bool} {a : Act} {w w' : World} {vs : Nat → Value} {X X' : Nat → Prop} (m : Mid P N Y l σ w0 bs os F listed a w vs X) {i : Nat} {o : Oper} (ho : l[i]? = some o) (hi : ¬ Ran listed i) (hd : ∀ j ∈     qg l.toArray i, Ran listed j)
 (hN : ∀ d, o.dst = some d → d < N) (v : Value) (hext : Ext ( ah (  oj os)) w0 w') (hnew : ∀ k, X' k → k < w'.heap.size) (hout : ∀ k, Y k → X' k)
 (    Br : ∀ j, Ran listed j →    xm bs j = none →     ka bs j = none → Left X' w' (F j) (vs j)) (hfact :    xm bs i = none →     ka bs i = none → Left X' w' (F i) v)
 (    Xv : ∀ b ∈ bs, (b.at_ = i ∨ Ran listed b.at_) → ∃ g cs, (if b.at_ = i then v else vs b.at_) = .pointer (some ⟨g, 0, none⟩) ∧ X' g ∧ w0.heap.size ≤ g ∧  aA w' g b.T cs ∧ cs.size = b.zero.size ∧
  (b.st = i ∨ Ran listed b.st → ∃ u y, cs = u.cells ∧   uo l.toArray b.st = some y ∧ ev (   kt σ l.toArray vs b.st) y = some u))
 (  ab4 : ∀ o ∈ os, (¬ (o.st = i ∨ Ran listed o.st) →  aA w' o.g o.T o.cs) ∧ (o.st = i ∨ Ran listed o.st → ∃ u y,  aA w' o.g o.T u.cells ∧   uo l.toArray o.st = some y ∧ ev (   kt σ l.toArray vs o.st) y = some u))
 (hapart : ∀ b ∈ bs, b.at_ = i → ∀ c ∈ bs, Ran listed c.at_ → v ≠ vs c.at_) :
 Mid P N Y l σ w0 bs os F (listed.setIfInBounds i true) (a.put o.dst v) w' (fun j => if j = i then v else vs j) X' := by
 have hil : i < listed.size := by rw [m.size]; exact (List.getElem?_eq_some_iff.1 ho).1
 have hne : ∀ {j}, Ran listed j → j ≠ i := fun h e => hi (e ▸ h);have hput : ∀ t, o.dst ≠ some t → ∀ v', a.tmps[t]? = some v' → (a.put o.dst v).tmps[t]? = some v' := by
  intro t ht v' h;cases hd : o.dst with
  | none => exact h
  | some d =>
   have : d ≠ t := fun e => ht (by rw [hd, e]);simpa [Act.put, Array.getElem?_setIfInBounds_ne this] using h
 have    UD : ∀ {k}, (k = i ∨ Ran listed k) →    kt σ l.toArray (fun j => if j = i then v else vs j) k =    kt σ l.toArray vs k := by
  intro k hk;refine          um fun j hj => ?_;have : j ≠ i := by
   rcases hk with rfl | hk
   · exact hne (hd j hj)
   · exact hne (m.down k hk j hj)
  rw [if_neg this]
 refine ⟨by simpa using m.size, ?_, ?_, ?_, ?_, ?_, ?_, hext, hnew, hout, m.older, ?_, ?_, ?_,   m.Xu, ?_⟩
 · cases hd : o.dst <;> exact m.defers
 · cases hd : o.dst
   · exact m.tmps
   · simpa [Act.put] using m.tmps
 · exact    Uj
 · exact    Us
 · exact    Uq
 · exact    Uk
 · intro j hj hb hf;rcases (     kc hil).1 hj with rfl | hj
   · rw [if_pos rfl]; exact hfact hb hf
   · rw [if_neg (hne hj)]; exact     Br j hj hb hf
 · intro b hb hr;obtain ⟨g, cs, h1, h2, h20, h3, h4, h5⟩ :=     Xv b hb ((     kc hil).1 hr);refine ⟨g, cs, h1, h2, h20, h3, h4, fun hs => ?_⟩;have hs' := (     kc hil).1 hs;rw [   UD hs'];exact h5 hs'
 · intro o' ho';obtain ⟨k1, k2⟩ :=   ab4 o' ho';refine ⟨fun hn => k1 (fun e => hn ((     kc hil).2 e)), fun hr => ?_⟩;have hr' := (     kc hil).1 hr;rw [   UD hr'];exact k2 hr'
 · intro b hb c hc hrb hrc hbc;rcases (     kc hil).1 hrb with h1 | h1
   · rcases (     kc hil).1 hrc with h2 | h2
     · exact absurd (h1.trans h2.symm) hbc
     · simp only [h1, if_true, hne h2, if_false]
       exact hapart b hb h1 c hc h2
   · rcases (     kc hil).1 hrc with h2 | h2
     · simp only [h2, if_true, hne h1, if_false]
       exact fun e => hapart c hc h2 b hb h1 e.symm
     · simp only [hne h1, hne h2, if_false]
       exact m.apart b hb c hc h1 h2 hbc
theorem Eo {listed:Array Bool} {i:Nat} (h:listed.getD i true=false):¬Ran listed i∧i<listed.size:=by
 have hlt:i<listed.size:=by
  rcases Nat.lt_or_ge i listed.size with h' | h'
  · exact h'
  · simp[Array.getElem?_eq_none h'] at h
 refine ⟨fun hr=>?_,hlt⟩;unfold Ran at hr;simp[hlt] at h hr
 rw[h] at hr;cases hr
theorem Per.Bt {X:Nat→Prop} {w:World} {G:World→Prop} (h:Per X w G) (o:Obj):Per (fun k=>X k∨k=w.heap.size) (w.alloc o) G:=
 fun b hb=>h b ⟨hb.os,hb.tape,hb.output,Nat.le_trans (by simp) hb.size,fun k hk hx=>(hb.block k (by simp;omega) (fun e=>e.elim hx (fun e=>om))).trans (Below.heap_alloc w _ k hk)⟩
theorem Left.Bt {X:Nat→Prop} {w:World} {f:Fx} {v:Value} (h:Left X w f v) (o:Obj):Left (fun k=>X k∨k=w.heap.size) (w.alloc o) f v:=let ⟨p,e,k⟩:=h;⟨p,e,k.Bt o⟩
theorem Known.dep {ops:Array Oper} {vs:Nat→Value} {X:Nat→Prop} {w:World} {i:Nat} (h:Known ops bs os F w0 vs X w i) (j:Nat) (hm:fB j (qg ops i)=true) (hb:xm bs j=none) (hf:ka bs j=none):Left X w (F j) (vs j):=h.2.2 j (jh.1 hm) hb hf
theorem jc {ops:Array Oper} {o:Oper} {w:World} {Post:Value→World→Prop} (t:Nat) {v:Value} (u:Value) (h:lk t σ=some v) (e:v=u) (k:OW P N ops Q o ((t,u)::σ) w Post):OW P N ops Q o σ w Post:=fun a ha=>k a (at_set h e ha)
theorem qE (hrow:Em 0 l []=true) {vs:Nat→Value} {j d:Nat} (hd:ug l.toArray j=some d):∀ {r:List Nat},j∈r→lk d (iL vs l.toArray r)=some (vs j)
 | [],h=>by cases h
 | i::r,h=>by
  simp only[iL]
  split
  · rename_i e he
    rw[kp];by_cases hed:e=d
    · subst hed;rw[if_pos rfl,pR hrow he hd]
    · rw[if_neg hed];rcases List.mem_cons.1 h with rfl | h
      · rw[hd] at he;injection he with he;exact absurd he.symm hed
      · exact qE hrow hd h
  · rename_i he
    rcases List.mem_cons.1 h with rfl | h
    · rw[hd] at he;cases he
    · exact qE hrow hd h
theorem Ep {t:Nat} {v:Value}:∀ {a b:Env},lk t a=some v→lk t (a++b)=some v
 | [],_,h=>by cases h
 | (s,u)::a,b,h=>by
  rw[List.cons_append,kp];rw[kp] at h;by_cases hs:s=t
  · rw[if_pos hs] at h ⊢;exact h
  · rw[if_neg hs] at h ⊢;exact Ep h
def Gs (l:List Oper) (bs:List Bx):List Bx→Bool
 | []=>true
 | b::r=>fB b.at_ (qg l.toArray b.st)&&(xm bs b.st).isNone&&Gs l bs r
theorem qck {bs r:List Bx} (h:Gs l bs r=true) {b:Bx} (hb:b∈r):b.at_∈qg l.toArray b.st∧xm bs b.st=none:=by
 induction r with
 | nil=>cases hb
 | cons x r ih=>
  simp only[Gs,Bool.and_eq_true] at h
  rcases List.mem_cons.1 hb with rfl | hb
  · exact ⟨jh.1 h.1.1,by simpa using h.1.2⟩
  · exact ih h.2 hb
theorem        nJ (hrow :    Em 0 l [] = true) (hbx :   iy bs = true) (hwf :   Gs l bs bs = true) (hdl : ∀ (i : Nat) (o : Oper) (d : Nat), l[i]? = some o → o.dst = some d → d < N)
 (hso : ∀ o ∈ os, (   xm bs o.st).isSome = true → False) (hsf : ∀ o ∈ os, (    ka bs o.st).isSome = true → False) (hpw : ∀ a ∈ os, ∀ b ∈ os, a ≠ b → a.g ≠ b.g ∧ a.st ≠ b.st)
 (hsteps :     ypq P N l.toArray Q σ bs os F w0 0 l) (hend : ∀ listed a w vs X, (∀ i, i < l.length → Ran listed i) → Mid P N Y l σ w0 bs os F listed a w vs X → Q .normal a w) :
 ∀ (fuel : Nat) (listed : Array Bool) (a : Act) (w : World) (vs : Nat → Value) (X : Nat → Prop), listed.toList.count false ≤ fuel → Mid P N Y l σ w0 bs os F listed a w vs X → wpAny P .any l.toArray Q fuel listed a w := by
 have hall : ∀ (listed : Array Bool) (a : Act) (w : World) (vs : Nat → Value) (X : Nat → Prop), Mid P N Y l σ w0 bs os F listed a w vs X → Region.ready .any l.toArray listed = [] → Q .normal a w := by
  intro listed a w vs X m hr;refine hend listed a w vs X (fun i hi => ?_) m;induction i using Nat.strongRecOn with
  | _ i ih =>
   rcases Classical.em (Ran listed i) with h | h
   · exact h
   · exfalso
     have hil : i < listed.size := by rw [m.size]; exact hi
     have : i ∈ Region.ready .any l.toArray listed := by
      refine mem_ready.2 ⟨?_, l[i], by simp [hi], fun e he hb => ?_⟩
      · unfold Ran at h;simp [hil] at h ⊢
        exact h
      · have hlt := (      Xr hrow (i := i) (o := l[i]) (by simp [hi])).1 e.on (      ybx (by simpa using he) hb);exact ih e.on om om
     rw [hr] at this;cases this
 intro fuel;induction fuel with
 | zero =>
  intro listed a w vs X hc m;have hr : Region.ready .any l.toArray listed = [] := by
   apply List.eq_nil_iff_forall_not_mem.2
   intro j hj;have h0 := (mem_ready.1 hj).1;have hlt := (     Eo h0).2;have : false ∈ listed.toList := by
    have e : listed[j] = false := by simpa [hlt] using h0
    rw [← e]; exact Array.getElem_mem_toList hlt
   have := List.count_pos_iff.2 this;omega
  exact ⟨hr, hall listed a w vs X m hr⟩
 | succ fuel ih =>
  intro listed a w vs X hc m;refine ⟨hall listed a w vs X m, fun i hi => ?_⟩;obtain ⟨h0, o, ho,   Xg⟩ := mem_ready.1 hi;have ho' : l[i]? = some o := by simpa using ho
  obtain ⟨hni, hil⟩ :=      Eo h0;have hd : ∀ j ∈     qg l.toArray i, Ran listed j := by
   intro j hj;rw [       Gr ho'] at hj;exact     J4
  have hcount : (listed.setIfInBounds i true).toList.count false ≤ fuel := by
   have hf : listed.toList[i]? = some false := by
    have e : listed[i] = false := by simpa [hil] using h0
    simp [hil, e]
   have :=       yuk listed.toList i hf;rw [Array.toList_setIfInBounds];omega
  have hat := m.at_ hni hd;have hs :=         iO hsteps ho';rw [Nat.zero_add] at hs;have hN := hdl i o;have     Bu : Known l.toArray bs os F w0 vs X w i := ⟨m.ext, m.new, fun j hj hb hf => m.facts j (hd j hj) hb hf⟩;unfold     Bq at hs;split at hs
  · rename_i b hb
    obtain ⟨d, z, ty, pos, af, rfl, hz, hzc⟩ := hs;obtain ⟨ Kl, rfl⟩ :=        nI hb;unfold wpOp;rw [ho];simp only []
    rw [if_pos (by simp [Region.wanted])];left
    have hrun :=       tY (P := P) (N := N) (ops := l.toArray) (Q := Q) (σ :=    kt σ l.toArray vs b.at_) (w := w) (dst := some d) (ty := ty) (pos := pos) (af := af) (T := b.T)
     (Post := fun v w' => v = .pointer (some ⟨w.heap.size, 0, none⟩) ∧ w' = w.alloc (.cells z.cells b.T)) hz ⟨rfl, rfl⟩ a hat
    rw [if_pos (by simp [Region.wanted])] at hrun;refine Oper.wp_mono ?_ hrun;rintro a' w' ⟨v, rfl, rfl, rfl⟩;have hnb : ∀ c ∈ bs, Ran listed c.at_ → c ≠ b := fun c _ hr e => hni (e ▸ hr);have hstep := m.step hrow ho' hni hd (fun d hd => hN d ho' hd) (.pointer (some ⟨w.heap.size, 0, none⟩)) (w' := w.alloc (.cells z.cells b.T)) (X' := fun k => X k ∨ k = w.heap.size)
     (m.ext.alloc _) (fun k hk => by
      rcases hk with hk | rfl
      · have := m.new k hk; simp; omega
      · simp)
     (fun k hk => Or.inl (m.outer k hk))
     (fun j hj hbj hfj => (m.facts j hj hbj hfj).Bt     _)
     (fun hb0 => by rw [hb] at hb0; cases hb0)
     (fun c hc hr => by
      rcases hr with hr | hr
      · have hcb : c = b := by
         rcases Classical.em (c = b) with h | h
         · exact h
         · exact absurd hr (    yck hbx c hc b  Kl h).1
        subst hcb;refine ⟨w.heap.size, z.cells, by rw [if_pos rfl], Or.inr rfl, m.ext.size,  aA.new _ _ _, by rw [hzc], fun hs => ?_⟩;exfalso
        obtain ⟨w1, w2⟩ :=     qck hwf hc;rcases hs with hs | hs
        · rw [hs, hb] at w2; cases w2
        · exact hni (m.down _ hs _ w1)
      · obtain ⟨g, cs, h1, h2, h20, h3, h4, h5⟩ := m.boxes c hc hr;have hcb : c.at_ ≠ b.at_ := fun e => hni (e ▸ hr);exact ⟨g, cs, by rw [if_neg hcb]; exact h1, Or.inl h2, h20, h3.alloc _, h4, fun hs => h5 (hs.elim (fun e => by have := (    qck hwf hc).2; rw [e, hb] at this; cases this) id)⟩)
     (fun o' ho' => by
      obtain ⟨k1, k2⟩ := m.outs o' ho';have hne : o'.st ≠ b.at_ := fun e => hso o' ho' (by rw [e, hb]; rfl);refine ⟨fun hn => (k1 (fun hr => hn (Or.inr hr))).alloc _, fun hr => ?_⟩;obtain ⟨u, y, q1, q2, q3⟩ := k2 (hr.resolve_left hne);exact ⟨u, y, q1.alloc _, q2, q3⟩)
     (fun c hc hcb e he hr => by
      obtain ⟨g, cs, h1, _, _, h3, _⟩ := m.boxes e he hr;rw [h1];intro hh;injection hh with hh
      injection hh with hh
      have := h3.lt;injection hh
      omega)
    exact ih _ _ _ _ _ hcount hstep
  · rename_i hb
    split at hs
    · rename_i b hf
      obtain ⟨d, y, ty, pos, af, rfl, hdst,    UE, hsz, hval⟩ := hs;obtain ⟨ Kl, rfl⟩ :=         iM hf;obtain ⟨v, hv,  Km, hv1⟩ := hval vs X w     Bu;have hra : Ran listed b.at_ := hd _ (       jh.1    UE);obtain ⟨g, cs, h1, h2, h20, h3, h4, _⟩ := m.boxes b  Kl hra;have hx : ev (   kt σ l.toArray vs b.st) (.tmp d) = some (.pointer (some ⟨g, 0, none⟩)) := by
       have :=      qE hrow (vs := vs) hdst (       jh.1    UE);rw [h1] at this;exact      Ep this
      unfold wpOp;rw [ho];simp only []
      rw [if_pos (by simp [Region.wanted])];left
      have hrun :=       iI (P := P) (N := N) (ops := l.toArray) (Q := Q) (σ :=    kt σ l.toArray vs b.st) (w := w) (dst := none) (ty := ty) (pos := pos) (af := af) (T := b.T) (y := y)
       (Post := fun u w' => u = undef ∧  aA w' g b.T v.cells ∧ Ext (One g) w w' ∧ w'.heap.size = w.heap.size) hsz hx hv h3  Km hv1 (by rw [Nat.zero_add, h4]; simp)
       (fun w' hb' he' hs' => ⟨rfl, by rwa [           zvz (by rw [ Km, h4])] at hb', he', hs'⟩) a hat
      rw [if_pos (by simp [Region.wanted])] at hrun;refine Oper.wp_mono ?_ hrun;rintro a' w' ⟨u, rfl, rfl, hb', he', hs'⟩;have hstep := m.step hrow ho' hni hd (fun d hd => by cases hd) undef (w' := w') (X' := X) (m.ext.step he' (fun k hk => Or.inr (by rw [show k = g from hk]; exact h20)))
       (fun k hk => by rw [hs']; exact m.new k hk) m.outer
       (fun j hj hbj hfj => (m.facts j hj hbj hfj).on (he'.mono fun k hk _ => by rw [show k = g from hk]; exact h2))
       (fun _ hf0 => by rw [hf] at hf0; cases hf0)
       (fun c hc hr => by
        have hnc : c.at_ ≠ b.st := fun e => by
         exact    J7
        rw [if_neg hnc];rcases Classical.em (c = b) with rfl | hcb
        · exact ⟨g, v.cells, h1, h2, h20, hb',  Km, fun _ => ⟨v, y, rfl, by unfold   uo; rw [ho], hv⟩⟩
        · have hrc := hr.resolve_left hnc;obtain ⟨g', cs', k1, k2, k20, k3, k4, k5⟩ := m.boxes c hc hrc;have hgg : g' ≠ g := fun e => m.apart c hc b  Kl hrc hra (    yck hbx c hc b  Kl hcb).1 (by rw [k1, h1, e]);exact ⟨g', cs', k1, k2, k20, k3.ext he' hgg, k4, fun hs => k5 (hs.resolve_left (    yck hbx c hc b  Kl hcb).2)⟩)
       (fun o' ho' => by
        obtain ⟨k1, k2⟩ := m.outs o' ho';have hne : o'.st ≠ b.st := fun e => hsf o' ho' (by rw [e, hf]; rfl);have hgg : o'.g ≠ g := fun e => by have := m.older _ (  m.Xu o' ho'); omega
        refine ⟨fun hn => (k1 (fun hr => hn (Or.inr hr))).ext he' hgg, fun hr => ?_⟩;obtain ⟨u, y', q1, q2, q3⟩ := k2 (hr.resolve_left hne);exact ⟨u, y', q1.ext he' hgg, q2, q3⟩)
       (fun c hc hcb => by
        exfalso
        have :=        zrq hbx hc;rw [hcb, hb] at this; cases this)
      exact ih _ _ _ _ _ hcount hstep
    · rename_i hf
      split at hs
      · rename_i b ho2
        obtain ⟨x, y, ty, pos, af, rfl, hFi, hsz, hval⟩ := hs;obtain ⟨ Kl, rfl⟩ :=        Gq ho2;obtain ⟨hx, v, hv,  Km, hv1⟩ := hval vs X w     Bu;have hB := (m.outs b  Kl).1 hni;unfold wpOp;rw [ho];simp only []
        rw [if_pos (by simp [Region.wanted])];left
        have hrun :=       iI (P := P) (N := N) (ops := l.toArray) (Q := Q) (σ :=    kt σ l.toArray vs b.st) (w := w) (dst := none) (ty := ty) (pos := pos) (af := af) (T := b.T) (x := x) (y := y)
         (Post := fun u w' => u = undef ∧  aA w' b.g b.T v.cells ∧ Ext (One b.g) w w' ∧ w'.heap.size = w.heap.size) hsz hx hv hB  Km hv1 (by rw [Nat.zero_add]; simp)
         (fun w' hb' he' hs' => ⟨rfl, by rwa [           zvz  Km] at hb', he', hs'⟩) a hat
        rw [if_pos (by simp [Region.wanted])] at hrun;refine Oper.wp_mono ?_ hrun;rintro a' w' ⟨u, rfl, rfl, hb', he', hs'⟩;have hYg :=   m.Xu b  Kl;have hstep := m.step hrow ho' hni hd (fun d hd => by cases hd) undef (w' := w') (X' := X) (m.ext.step1 he'.one (fun i e => by obtain rfl := Option.some.inj e; exact       Kk.2 ⟨b,  Kl, rfl⟩))
         (fun k hk => by rw [hs']; exact m.new k hk) m.outer
         (fun j hj hbj hfj => (m.facts j hj hbj hfj).on (he'.mono fun k hk _ => by rw [show k = b.g from hk]; exact m.outer _ hYg))
         (fun _ _ => by rw [hFi]; exact Left.of rfl)
         (fun c hc hr => by
          have hnc : c.at_ ≠ b.st := fun e => by
           exact    J7
          have hns : c.st ≠ b.st := fun e => by
           have :=         yzx hbx hc;rw [e, hf] at this; cases this
          obtain ⟨g', cs', k1, k2, k20, k3, k4, k5⟩ := m.boxes c hc (hr.resolve_left hnc);have hgg : g' ≠ b.g := fun e => by have := m.older _ hYg; omega
          exact ⟨g', cs', by rw [if_neg hnc]; exact k1, k2, k20, k3.ext he' hgg, k4, fun hs => k5 (hs.resolve_left hns)⟩)
         (fun o' ho' => by
          obtain ⟨k1, k2⟩ := m.outs o' ho';rcases Classical.em (o' = b) with rfl | hob
          · exact ⟨fun hn => absurd (Or.inl rfl) hn, fun _ => ⟨v, y, hb', by unfold   uo; rw [ho], hv⟩⟩
          · have hgg := hpw o' ho' b  Kl hob;refine ⟨fun hn => (k1 (fun hr => hn (Or.inr hr))).ext he' hgg.1, fun hr => ?_⟩;obtain ⟨u, y', q1, q2, q3⟩ := k2 (hr.resolve_left hgg.2);exact ⟨u, y', q1.ext he' hgg.1, q2, q3⟩)
         (fun c hc hcb => by
          exfalso
          have :=        zrq hbx hc;rw [hcb, hb] at this; cases this)
        exact ih _ _ _ _ _ hcount hstep
      rename_i ho2
      have hw := hs vs X w     Bu a hat;have main : ∀ v w', Below w.heap.size w w' → Left X w' (F i) v → wpAny P .any l.toArray Q fuel (listed.setIfInBounds i true) (a.put o.dst v) w' := by
       intro v w' hbel   Xw;have hstep := m.step hrow ho' hni hd (fun d hd => hN d ho' hd) v (w' := w') (X' := X) (m.ext.call hbel) (fun k hk => by have := m.new k hk; have := hbel.size; omega) m.outer
        (fun j hj hbj hfj => (m.facts j hj hbj hfj).on (Ext.of_below hbel X)) (fun _ _ =>   Xw)
        (fun c hc hr => by
         have hnc : c.at_ ≠ i := fun e => by
          exact    J7
         have hns : c.st ≠ i := fun e => by
          have :=         yzx hbx hc;rw [e, hf] at this; cases this
         obtain ⟨g, cs, k1, k2, k20, k3, k4, k5⟩ := m.boxes c hc (hr.resolve_left hnc);exact ⟨g, cs, by rw [if_neg hnc]; exact k1, k2, k20, k3.below hbel k3.lt, k4, fun hs => k5 (hs.resolve_left hns)⟩)
        (fun o' ho' => by
         obtain ⟨k1, k2⟩ := m.outs o' ho';have hne :=         Bo ho2 o' ho';refine ⟨fun hn => have q := k1 (fun hr => hn (Or.inr hr)); q.below hbel q.lt, fun hr => ?_⟩;obtain ⟨u, y', q1, q2, q3⟩ := k2 (hr.resolve_left hne);exact ⟨u, y', q1.below hbel q1.lt, q2, q3⟩)
        (fun c hc hcb => by
         exfalso
         have :=        zrq hbx hc;rw [hcb, hb] at this; cases this)
       exact ih _ _ _ _ _ hcount hstep
      unfold wpOp;rw [ho];simp only []
      split
      · rename_i hwn
        rw [if_pos hwn] at hw;left
        refine Oper.wp_mono ?_ hw;rintro a' w' ⟨v, rfl, hbel,   Xw⟩;exact main v w' hbel   Xw
      · rename_i hwn
        rw [if_neg hwn] at hw;exact main _ _ hw.1 hw.2
def qdx (Y:Nat→Prop) (bs:List Bx) (F:Nat→Fx) (vs:Nat→Value) (w:World):Nat→List Oper→Prop
 | _,[]=>True
 | i,_::r=>(match xm bs i,ka bs i with
  | none,none=>Left Y w (F i) (vs i)
  | _,_=>True)∧qdx Y bs F vs w (i+1) r
def zox (P:Program) (σ:Env) (ops:Array Oper) (vs:Nat→Value) (w0 w:World):List Bx→Prop
 | []=>True
 | b::r=>Xt P σ ops vs w0 w b∧zox P σ ops vs w0 w r
def yqx (vs:Nat→Value):List Bx→Prop
 | []=>True
 | b::r=>(∀c∈r,vs b.at_≠vs c.at_)∧yqx vs r
def nK (N:Nat):List Oper→Bool
 | []=>true
 | o::r=>(match o.dst with
  | some d=>Nat.blt d N
  | none=>true)&&nK N r
theorem iP:∀ {l:List Oper},nK N l=true→ ∀(i:Nat) (o:Oper) (d:Nat),l[i]? =some o→o.dst=some d→d<N
 | [],_,i,o,d,h,_=>by simp at h
 | x::l,hs,0,o,d,h,hd=>by
  simp only[List.getElem?_cons_zero,Option.some.injEq] at h
  subst h;simp only[nK,hd,Bool.and_eq_true] at hs
  exact Nat.le_of_ble_eq_true hs.1
 | x::l,hs,i+1,o,d,h,hd=>by
  simp only[nK,Bool.and_eq_true] at hs
  exact iP hs.2 i o d (by simpa using h) hd
def Ko (σ:Env) (l:List Oper) (vs:Nat→Value):Env:=iL vs l.toArray (List.range l.length)++uj (uh l) σ
def pQ (bs:List Bx):List Ox→Bool
 | []=>true
 | o::r=>(xm bs o.st).isNone&&(ka bs o.st).isNone&&r.all (fun p=>!Nat.beq o.st p.st)&&pQ bs r
def Xx (Y:Nat→Prop) (w:World):List Ox→Prop
 | []=>True
 | o::r=>(Y o.g∧aA w o.g o.T o.cs∧ ∀p∈r,o.g≠p.g)∧Xx Y w r
def pU (σ:Env) (ops:Array Oper) (vs:Nat→Value) (w:World):List Ox→Prop
 | []=>True
 | o::r=>(∃v y,aA w o.g o.T v.cells∧uo ops o.st=some y∧ev (kt σ ops vs o.st) y=some v)∧pU σ ops vs w r
theorem qr {id:Nat} {w:World} (Y:Nat→Prop) (hY:∀k,Y k→k<w.heap.size) (bs:List Bx) (os:List Ox) (F:Nat→Fx) (hm:P.follows .mixedOrders=true) (hok:(Em 0 l []&&iy bs&&Gs l bs bs&&nK N l&&pQ bs os)=true) (hos:Xx Y w os) (hin:∀o∈os,l[o.st]? ≠none)
 (hsteps:ypq P N l.toArray Q σ bs os F w.drew 0 l)
 (hend:∀vs w',Ext (ah (oj os)) w.drew w'→pU σ l.toArray vs w' os→qdx Y bs F vs w' 0 l→zox P σ l.toArray vs w.drew w' bs→yqx vs bs→EW N Q .normal (Ko σ l vs) w'):CW P N (.region id l.toArray true) Q σ w:=by
 simp only[Bool.and_eq_true] at hok
 obtain ⟨⟨⟨⟨hrow,hbx⟩,hwf⟩,hdl⟩,hox⟩:=hok;have Kq:∀ {r:List Ox},Xx Y w r→ ∀o∈r,Y o.g∧aA w o.g o.T o.cs:=by
  intro r;induction r with
  | nil=>intro _ o ho;cases ho
  | cons x r ih=>
   exact Ui
 have Xy:∀ {r:List Ox},Xx Y w r→pQ bs r=true→ ∀a∈r,∀b∈r,a≠b→a.g≠b.g∧a.st≠b.st:=by
  intro r;induction r with
  | nil=>intro _ _ a ha;cases ha
  | cons x r ih=>
   exact Uu
 have Kr:∀ {r:List Ox},pQ bs r=true→ ∀o∈r,xm bs o.st=none∧ka bs o.st=none:=by
  intro r;induction r with
  | nil=>intro _ o ho;cases ho
  | cons x r ih=>
   exact Un
 intro a ha;refine wp_region_any hm ?_;have m0:Mid P N Y l σ w.drew bs os F (Array.replicate l.toArray.size false) a w.drew (fun _=>undef) Y:=by
  have hno:∀i,¬Ran (Array.replicate l.toArray.size false) i:=fun i h=>by
   unfold Ran at h;by_cases hi:i<l.length<;>simp[hi] at h
  exact ⟨by simp,ha.defers,ha.size,fun t v h=>ha.get t v (ymz h).1,fun i d h=>absurd h (hno i),fun i d v _ _ h=>ha.get d v h,fun i h=>absurd h (hno i),Ext.refl _ _,hY,fun _ h=>h,hY,
   fun i h=>absurd h (hno i),fun b _ h=>absurd h (hno _),fun o ho=>⟨fun _=>(Kq hos o ho).2.drew,fun h=>absurd h (hno _)⟩,fun o ho=>(Kq hos o ho).1,fun b _ c _ h=>absurd h (hno _)⟩
 refine nJ (l:=l) hrow hbx hwf (iP hdl) (fun o ho h=>by rw[(Kr hox o ho).1] at h;cases h) (fun o ho h=>by rw[(Kr hox o ho).2] at h;cases h) (Xy hos hox) hsteps ?_ _ _ _ _ _ _ ?_ m0
 · intro listed a w' vs X hall m;have hlen:∀i (o:Oper),l[i]? =some o→Ran listed i:=fun i o h=>hall i (List.getElem?_eq_some_iff.1 h).1;refine hend vs w' m.ext ?_ ?_ ?_ ?_ a ?_
   · exact Uw
   · exact Uv
   · have key:∀r:List Bx,(∀b∈r,b∈bs)→zox P σ l.toArray vs w.drew w' r:=by
      intro r;induction r with
      | nil=>intro _;trivial
      | cons b r ih=>
       exact Ut
     exact key bs (fun _ h=>h)
   · exact Ux
   · refine ⟨m.defers,m.tmps,fun t v h=>?_⟩;exact Um
 · simp
end
section
variable {P:Program} {N:Nat} {Q:Exit→Act→World→Prop} {σ:Env} {w:World}
def ynx:Nat→List Value→Env
 | _,[]=>[]
 | i,v::l=>(i,v)::ynx (i+1) l
theorem iQ {t:Nat} {v:Value}:∀ {l:List Value} {i:Nat},lk t (ynx i l)=some v→i≤t∧l[t-i]? =some v
 | [],_,h=>by cases h
 | u::l,i,h=>by
  rw[ynx,kp] at h;by_cases hi:i=t
  · subst hi;rw[if_pos rfl] at h;exact ⟨Nat.le_refl _,by simpa using h⟩
  · rw[if_neg hi] at h;obtain ⟨h1,h2⟩:=iQ h;refine ⟨om,?_⟩;rw[show t-i=(t-(i+1))+1 from om,List.getElem?_cons_succ];exact h2
theorem zd {f:FuncId} {fn:Func} {c:Code} {args:List Value} {R:Ending→World→Prop} (hf:P.funcs[f]? =some fn) (hb:fn.body=some c) (hN:fn.ntmps=N) (hl:Nat.ble args.length N=true)
 (h:CW P N c (bodyPost P fn R) (ynx 0 args) w):Calls P f args.toArray w R:=by
 refine calls_of_wp hf hb (h _ ⟨rfl,?_,fun t v ht=>?_⟩)
 · have:=Nat.le_of_ble_eq_true hl;simp[hN];omega
 · obtain ⟨_,h2⟩:=iQ ht;rw[Nat.sub_zero] at h2;have hlt:=(List.getElem?_eq_some_iff.1 h2).1;rw[Array.getElem?_append_left (by simpa using hlt)];simpa using h2
def Res (P:Program) (σ:Env) (w:World):List ResultVar→List Value→Prop
 | [],[]=>True
 | .tmp t::rs,v::vs=>lk t σ=some v∧Res P σ w rs vs
 | .cell t T::rs,v::vs=>(∃ad,lk t σ=some (.pointer (some ad))∧(loadVar T ad).run P w= .ok v w)∧Res P σ w rs vs
 | _,_=>False
def Bv:List Value→Value
 | [v]=>v
 | vs=>.tuple vs.toArray
def Gt (tmps:Array Value):ResultVar→Sem Value
 | .tmp t=>pure (tmps.getD t undef)
 | .cell b t=>do loadVar t (←asAddr (tmps.getD b undef))
theorem Bw (fn:Func) (tmps:Array Value):results fn tmps=(fn.results.mapM (Gt tmps) >>= fun vs=>pure (if h:vs.size=1 then vs[0] else .tuple vs)):=by
 unfold results;congr 2
theorem qF {a:Act} (ha:At N σ a):∀ {rs:List ResultVar} {vs:List Value},Res P σ w rs vs→(rs.mapM (Gt a.tmps)).run P w= .ok vs w
 | [],[],_=>by simp[go_sem]
 | [],_::_,h=>h.elim
 | .tmp t::rs,[],h=>h.elim
 | .cell _ _::rs,[],h=>h.elim
 | .tmp t::rs,v::vs,⟨h1,h2⟩=>by
  have h3:=qF ha h2;have h4:=ha.get t v h1;have h5:(Gt a.tmps (.tmp t)).run P w= .ok v w:=by simp[Gt,h4]
  exact J3
 | .cell t T::rs,v::vs,⟨⟨ad,h1,hr⟩,h2⟩=>by
  have h3:=qF ha h2;have h4:=ha.get t _ h1;have h5:(Gt a.tmps (.cell t T)).run P w= .ok v w:=by
   have h6:a.tmps.getD t undef= .pointer (some ad):=by simp[h4]
   simp only[Gt,h6,asAddr,Sem.run_bind,Sem.run_pure,Result.andThen_ok,hr]
  exact J3
theorem oq {fn:Func} {rs:List ResultVar} {vs:List Value} {R:Ending→World→Prop} (hr:fn.results=rs.toArray) (h:Res P σ w rs vs) (k:R (.returned (Bv vs)) w):EW N (bodyPost P fn R) .ret σ w:=by
 intro a ha;refine ⟨ha.defers,Bv vs,?_,k⟩;have h1:=qF ha h;rw[Bw,hr];simp only[List.mapM_toArray,map_eq_pure_bind,Sem.run_bind,h1,Result.andThen_ok,Sem.run_pure]
 cases vs with
 | nil=>simp[Bv]
 | cons v vs=>cases vs<;>simp[Bv]
theorem Bz {fn:Func} {R:Ending→World→Prop} (hr:fn.results= #[]) (k:R (.returned (.tuple #[])) w):EW N (bodyPost P fn R) .normal σ w:=
 fun a ha=>⟨ha.defers,.tuple #[],by simp[results,hr],k⟩
theorem zzq {T T':TypeId} {d:TypeDesc} {g n:Nat} {cs:Array Value} (hd:P.underlying T=some d) (hp:TypeDesc.plain d=false) (hs:yv P T n) (hb:aA w g T' cs) (hn:cs.size=n):(loadVar T ⟨g,0,none⟩).run P w= .ok (.agg cs) w:=by
 have h1:=ydz (P:=P) (cs:=cs.toList) (ad:=⟨g,0,none⟩) w 0 #[] (fun j v hj=>by rw[Addr.add_eq,Nat.zero_add,Nat.zero_add,hb.cell];simpa using hj);simp only[Array.length_toList,hn] at h1
 simp[loadVar,yrq hd,hp,ja hs,loadCells,h1,go_sem]
end
end Go.Proofs.YtdofcnodhgaedaaGreatDoor
