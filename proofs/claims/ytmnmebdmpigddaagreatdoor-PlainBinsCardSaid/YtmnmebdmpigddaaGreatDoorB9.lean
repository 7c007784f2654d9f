/- Texts of this claim. -/
import Derived.Test.YtmnmebdmpigddaaGreatDoorB8
import Derived.Test.YtmnmebdmpigddaaGreatDoorProg
import Derived.Lib.ConvBytes
import Derived.Lib.SmallJoins
set_option maxRecDepth 100000
set_option maxHeartbeats 20000000
namespace Go.Proofs.YtmnmebdmpigddaaGreatDoor
open Go.RowKit Proofs.Tryz
def am6 (P:Program) (c:Code) (Q:Exit→Act→World→Prop) (a:Act) (w:World):Prop:=∀b k cs,∃e a' w',Q e a' w'∧Arrives P (lone (b.at a (.inLoop c::k)) cs w) b k cs e a' w'
theorem Q5 {P:Program} {c:Code} {Q:Exit→Act→World→Prop} {a:Act} {w:World} (h:c.wp P (Exit.then (am6 P c Q) Q) a w) (b:Frame) (k:List Item) (cs:List Frame) :
 ∃e a' w',Q e a' w'∧Arrives P (lone (b.at a (.code c:: .inLoop c::k)) cs w) b k cs e a' w':=by
 obtain ⟨e,a₁,w₁,hq,harr⟩:=h b (.inLoop c::k) cs;cases e with
 | normal=>
  obtain ⟨e₂,a₂,w₂,hq₂,harr₂⟩:=hq b k cs;exact ⟨e₂,a₂,w₂,hq₂,.of_steps harr harr₂⟩
 | exit id=>exact ⟨_,a₁,w₁,hq,.pass (x:=.inLoop c) rfl (fun _ _=>.inl (by simp)) harr⟩
 | goto l=>exact ⟨_,a₁,w₁,hq,.pass (x:=.inLoop c) rfl (fun _ _=>.inl (by simp)) harr⟩
 | ret=>exact ⟨_,a₁,w₁,hq,.pass (x:=.inLoop c) rfl (fun _ _=>.inl (by simp)) harr⟩
 | panic ch=>exact ⟨_,a₁,w₁,hq,.pass (x:=.inLoop c) rfl (fun _ _=>.inl (by simp)) harr⟩
 | outgrown=>exact ⟨_,a₁,w₁,hq,.pass (x:=.inLoop c) rfl (fun _ _=>.inl (by simp)) harr⟩
section
variable {P:Program} {N:Nat} {ops:Array Oper} {Q:Exit→Act→World→Prop} {σ:Env} {w:World} {ty:TypeId} {pos:String} {af:Array Edge} {dst:Option Nat} {Post:Value→World→Prop}
theorem ZN {c:Code} (h:CW P N c (Exit.then (am6 P c Q) Q) σ w):CW P N (.loop c) Q σ w:=fun a ha b k cs=>by
 obtain ⟨e,a',w',hq,harr⟩:=Q5 (h a ha) b k cs;exact ⟨e,a',w',hq,.of_steps (.one step_loop) harr⟩
theorem ZO {T U:TypeId} {x y:Operand} {m n:Nat} (hx:ev σ x=some (.float .f64 m)) (hy:ev σ y=some (.float .f64 n)) (k:Post (.bool (gk m n==some .gt || gk m n==some .eq)) w):OW P N ops Q ⟨dst,.binOp .geq T x y U,ty,pos,af,none⟩ σ w Post:=
 yh (fun ρ ha=>by simp[execOp,ha hx,ha hy,binOp,eqGuard,Op.floatCmp,FloatKind.format,gk,go_sem]) k
theorem P7 {op:BinOp} {T U:TypeId} {x y:Operand} {m n z:Nat} (ho:op= .add∨op= .sub∨op= .mul∨op= .quo) (hx:ev σ x=some (.float .f64 m)) (hy:ev σ y=some (.float .f64 n)) (hz:aR op m n=some z)
 (k:Post (.float .f64 z) w):OW P N ops Q ⟨dst,.binOp op T x y U,ty,pos,af,none⟩ σ w Post:=
 jd ho hx hy (fun r w' h=>by
  rcases h with ⟨h1,rfl⟩ | ⟨h1,_⟩
  · rw[hz] at h1;cases h1;exact k
  · rw[hz] at h1;cases h1)
theorem zF (b:Nat) (w:World):(Extern.MathFloatBits.float64bits #[.float .f64 b]).run P w= .ok (.int .u64 ((b:Nat):Int)) w:=rfl
theorem uR (b:Nat) (w:World):(Extern.MathFloatBits.float64frombits #[.int .u64 ((b:Nat):Int)]).run P w= .ok (.float .f64 b) w:=rfl
theorem JH {f:FuncId} {ts:Array TypeId} {x:Operand} {b:Nat} (hf:gW P f Extern.MathFloatBits.float64bits) (hx:ev σ x=some (.float .f64 b)) (k:Post (.int .u64 ((b:Nat):Int)) w):OW P N ops Q ⟨dst,.call ⟨.value (.func f),#[x],ts⟩,ty,pos,af,none⟩ σ w Post:=
 vjk (xs:=[x]) (args:=[.float .f64 b]) hf (by simp[evs,hx]) (zF b w) k
theorem vq {f:FuncId} {ts:Array TypeId} {x:Operand} {b:Nat} (hf:gW P f Extern.MathFloatBits.float64frombits) (hx:ev σ x=some (.int .u64 ((b:Nat):Int))) (k:Post (.float .f64 b) w):OW P N ops Q ⟨dst,.call ⟨.value (.func f),#[x],ts⟩,ty,pos,af,none⟩ σ w Post:=
 vjk (xs:=[x]) (args:=[.int .u64 ((b:Nat):Int)]) hf (by simp[evs,hx]) (uR b w) k
def gz (way:Ieee.Toward) (b:Nat):Nat:=FloatKind.f64.encode ((FloatKind.f64.decode b).integral way)
theorem zG {f:FuncId} {ts:Array TypeId} {x:Operand} {b:Nat} {name:String} {way:Ieee.Toward} (hf:gW P f (Extern.MathFloor.toIntegral name way)) (hx:ev σ x=some (.float .f64 b)) (hn:(FloatKind.f64.decode b).isNaN=false) (k:Post (.float .f64 (gz way b)) w):OW P N ops Q ⟨dst,.call ⟨.value (.func f),#[x],ts⟩,ty,pos,af,none⟩ σ w Post:=
 vjk (xs:=[x]) (args:=[.float .f64 b]) (v:=.float .f64 (gz way b)) (w':=w) hf (by simp[evs,hx]) (by
  have e:Extern.MathFloor.toIntegral name way #[.float .f64 b]=(match FloatKind.f64.decode b with
   | .nan s t=>if FloatKind.f64.format.quiet t=t then pure (.float .f64 b) else do
    let kept←choose (.extern "math.Floor,Ceil,Trunc,RoundToEven.signallingNaN kept" 2)
    pure (.float .f64 (if kept==1 then b else FloatKind.f64.encode (.nan s (FloatKind.f64.format.quiet t))))
   | d=>pure (.float .f64 (FloatKind.f64.encode (d.integral way)))):=rfl
  rw[e];unfold gz;cases h:FloatKind.f64.decode b with
  | nan s t=>rw[h] at hn;cases hn
  | infinity s=>rfl
  | number s m e=>rfl) k
theorem jB (a:Array UInt8):(⟨a⟩:ByteArray).toList=a.toList:=by rw[ByteArray.toList_eq]
theorem Q6 {x y:Operand} {t1 t2:TypeId} {q q2:IntKind} {m n:Int} (hx:ev σ x=some (.int q m)) (hy:ev σ y=some (.int q2 n))
 (k:Post (.int q (if n<m then n else m)) w):OW P N ops Q ⟨dst,.call ⟨.builtin .min,#[x,y],#[t1,t2]⟩,ty,pos,af,none⟩ σ w Post:=
 yh (fun ρ ha=>by simp[execOp,resolve,invoke,builtin,Builtin.min_,Builtin.min2,ha hx,ha hy,go_sem]) k
theorem qd {x i:Operand} {T:TypeId} {s:ByteArray} {q:IntKind} {m:Int} {j:Nat} {b:Nat} (hd:P.underlying T=some .string) (hx:ev σ x=some (.string s)) (hi:ev σ i=some (.int q m)) (hm:m=(j:Int)) (hb:(s.data[j]?).map (·.toNat)=some b)
 (k:Post (.int .u8 (b:Int)) w):OW P N ops Q ⟨dst,.index T x i,ty,pos,af,none⟩ σ w Post:=by
 obtain ⟨c,h1,rfl⟩:=Option.map_eq_some_iff.1 hb;exact vjq hd hx hi hm (show s[j]? =some c by
  have h2:s[j]? =s.data[j]? :=rfl;rw[h2,h1]) k
theorem zqk {x i:Operand} {T e:TypeId} {g o n s:Nat} {q:IntKind} {m:Int} {j:Nat} (hd:P.underlying T=some (.array n e)) (hs:vc P e s) (hx:ev σ x=some (.pointer (some ⟨g,o,none⟩))) (hi:ev σ i=some (.int q m)) (hm:m=(j:Int)) (hj:j<n)
 (k:Post (.pointer (some ⟨g,o+j*s,none⟩)) w):OW P N ops Q ⟨dst,.indexAddr T x i,ty,pos,af,none⟩ σ w Post:=
 yh (fun ρ ha=>by
  subst hm;have h1:¬n≤j:=om;simp[execOp,ha hx,ha hi,Instr.indexAt,Instr.sureAddr,asIntOf,run_underlying hd,QS hs,h1,hj,Addr.add_eq,go_sem]) k
theorem FJ {T:TypeId} {ms:Array (String×TypeId)} (hd:P.underlying T=some (.interface ms)):(Op.equal T .nilIface .nilIface).run P w= .ok true w:=by
 have e:Op.maxDepth=9999+1:=rfl;have key:∀d:Nat,(Op.equalIn (d+1) T .nilIface .nilIface).run P w= .ok true w:=by
  exact Fu
 unfold Op.equal;rw[e];exact key 9999
theorem ZP {T U:TypeId} {x:Operand} {ms:Array (String×TypeId)} (hd:P.underlying T=some (.interface ms)) (hx:ev σ x=some .nilIface) (k:Post (.bool false) w):OW P N ops Q ⟨dst,.binOp .neq T x (.const .nilIface) U,ty,pos,af,none⟩ σ w Post:=
 yh (fun ρ ha=>by
  have e:=FJ (P:=P) (w:=w) hd;have hc:ρ (.const .nilIface)= .nilIface:=ha rfl;simp only[execOp,ha hx,hc,eqGuard,binOp]
  simp[e,go_sem]) k
def aw0 (w:World) (g:Nat) (xs:List Value):Prop:=∀j v,xs[j]? =some v→w.cell? ⟨g,j,none⟩=some v
theorem Per.aU8 {w:World} {g:Nat} {xs:List Value} (h:aw0 w g xs):Per No w (fun b=>aw0 b g xs):=fun b hb j v hj=>by
 have h1:=h j v hj;rw[hb.cell (p:=⟨g,j,none⟩) (World.block_lt_of_cell? w _ h1) (fun e=>e.elim)];exact h1
theorem vpq {S D e:TypeId} {x:Operand} {s:ByteArray} {n:Nat} {xs:List Value} (hS:P.underlying S=some .string) (hD:P.underlying D=some (.slice e)) (he:P.underlying e=some (.int .u8)) (hx:ev σ x=some (.string s)) (hn:s.size=n) (hl:s.data.toList.map (fun b=>Value.int .u8 (b.toNat:Int))=xs)
 (k:∀g c w',aw0 w' g xs→Ext No w w'→w.heap.size≤g→Post (.slice (some ⟨g,0,none⟩) n c) w'):OW P N ops Q ⟨dst,.convert S D x,ty,pos,af,none⟩ σ w Post:=
 yh (v:=.slice (some ⟨w.heap.size,0,none⟩) s.size (grownCap w s.size 0 e)) (w':=Lib.bytesWorld w e s) (fun ρ ha=>by
  simp only[execOp,ha hx,Sem.run_bind,Lib.run_convert_string_bytes w S D e s hS hD he,Result.andThen_ok,Sem.run_pure]) (by
  subst hn;refine k _ _ _ (fun j v hj=>?_) (Ext.of_below (Joins.below_bytesWorld _ _ _ _ (Nat.le_refl _)) No) (Nat.le_refl _);rw[←hl,List.getElem?_map] at hj;obtain ⟨b,hb,rfl⟩:=Option.map_eq_some_iff.1 hj;have hlt:j<s.size:=by
   have h1:=(List.getElem?_eq_some_iff.1 hb).1;have h2:s.data.toList.length=s.size:=Array.length_toList;omega
  rw[Lib.bytesWorld_cell w e s j hlt,List.getD_eq_getElem?_getD,hb];rfl)
end
abbrev Gives (f:FuncId) (args:Array Value) (v:Value):Prop:=∀w,Calls prog f args w fun e w'=>e= .returned v∧Below w.heap.size w w'
theorem am7 {P:Prop} (h:P:=by
 refine ⟨a.eval x,.inl ⟨by simp[Region.wanted],fun w=>by simp[execOp,go_sem]⟩,?_⟩;rcases h with h | ⟨h,_⟩
 · simpa [Oper.wp,execOp,go_sem,Oper.upon] using h
 · exact absurd h (by simp[Oper.asks,execOp,Sem.runT,Sem.events,pure,bind])):P:=h
section
variable {P:Program} {N:Nat} {Q:Exit→Act→World→Prop} {σ:Env} {w:World} {l:List Oper}
def qG (k n:Nat):Array Bool:=(List.replicate k true++List.replicate (n-k) false).toArray
def AK (P:Program) (N k:Nat) (l:List Oper) (Q:Exit→Act→World→Prop) (σ:Env) (w:World):Prop:=∀a,At N σ a→wpAny P .any l.toArray Q (l.length-k) (qG k l.length) a w
theorem Q7 {id:Nat} (hm:P.follows .mixedOrders=true) (h:AK P N 0 l Q σ w.drew):CW P N (.region id l.toArray true) Q σ w:=fun a ha=>by
 refine wp_region_any hm ?_;have:=h a ha;unfold qG at this;simpa using this
theorem ZQ {k n j:Nat} {d:Bool} (hj:j<n) (hk:k≤n):(qG k n).getD j d=decide (j<k):=by
 unfold qG;by_cases h:j<k
 · simp[Array.getD_eq_getD_getElem?,List.getElem?_append,h]
 · have h2:j-k<n-k:=om;simp[Array.getD_eq_getD_getElem?,List.getElem?_append,h,List.getElem?_replicate,h2]
theorem ZR {k n:Nat} (h:k<n):(qG k n).setIfInBounds k true=qG (k+1) n:=by
 unfold qG;apply Array.toList_inj.1
 rw[Array.toList_setIfInBounds];have e:n-k=(n-(k+1))+1:=om;rw[e,List.replicate_succ,List.replicate_succ',List.append_assoc];simp
def quiet (o:Oper):Bool:=match o.guard with
 | some _=>false
 | none=>match o.op with
  | .move _=>true
  | .assign _=>true
  | .extract _ _=>true
  | _=>false
theorem uS {ops:Array Oper} {o:Oper} {a:Act} {w:World} {K:Act→World→Prop} (hq:quiet o=true) (h:o.wp P a w K Q∨(o.asks P a w∧LetsOut Q)):∃v,Yields P ops o v a∧K (a.put o.dst v) w:=by
 obtain ⟨dst,op,type,pos,after,guard⟩:=o;cases guard with
 | some g=>simp[quiet] at hq
 | none=>
  cases op<;>first | (simp[quiet] at hq;done) | skip
  case move x=>
   exact am7
  case assign x=>
   exact am7
  case extract x i=>
   rcases h with h | ⟨h,_⟩
   · unfold Oper.wp at h;simp only[execOp,Instr.extract] at h
     split at h
     · rename_i vs hx
       split at h
       · rename_i v hv
         refine ⟨v,.inl ⟨by simp[Region.wanted],fun w=>by simp only[execOp,hx,Instr.extract,hv];rfl⟩,?_⟩;simpa [go_sem,Oper.upon] using h
       · simp[go_sem,Oper.upon,stuck] at h
     · simp[go_sem,Oper.upon,stuck] at h
   · exfalso
     unfold Oper.asks at h;simp only[execOp,Instr.extract] at h
     split at h
     · split at h
       · simp[Sem.runT,Sem.events,Sem.bind,pure,bind] at h
       · simp[Sem.runT,Sem.events,Sem.bind,pure,bind,stuck] at h
     · simp[Sem.runT,Sem.events,Sem.bind,pure,bind,stuck] at h
def vsq (l:List Oper):Nat→Nat→Bool
 | _,0=>true
 | k,m+1=>(match Region.ready .any l.toArray (qG k l.length) with
  | []=>false
  | [j]=>Nat.beq j k
  | r=>gV k r&&(match l.toArray[k]? with
   | some o=>quiet o
   | none=>false)&&Region.free .any l.toArray (qG k l.length) k)&&vsq l (k+1) m
theorem zH (hn:Region.noSelect l.toArray=true) (hQ:∀c (a:Act) d v w,Q (.panic c) (a.put d v) w→Q (.panic c) a w) :
 ∀(m k:Nat),k+m=l.length→vsq l k m=true→ ∀a w,wpList P l.toArray Q (l.drop k) a w→wpAny P .any l.toArray Q m (qG k l.length) a w:=by
 intro m;induction m with
 | zero=>
  intro k hk _ a w h;have hk:k=l.length:=om;subst hk;rw[List.drop_length] at h;refine ⟨List.eq_nil_iff_forall_not_mem.2 fun j hj=>?_,h⟩;obtain ⟨h0,o,ho,_⟩:=mem_ready.1 hj;have hlt:j<l.length:=by simpa using (Array.getElem?_eq_some_iff.1 ho).1
  rw[ZQ hlt (Nat.le_refl _)] at h0;simp[hlt] at h0
 | succ m ih=>
  intro k hk hs a w h;have hkl:k<l.length:=om;simp only[vsq,Bool.and_eq_true] at hs
  rw[List.drop_eq_getElem_cons hkl] at h;have hok:l.toArray[k]? =some l[k]:=by simp[hkl]
  have hnext:=fun a w h=>ih (k+1) om hs.2 a w h;rw[←ZR hkl] at hnext;have hone:wpOp P l.toArray Q k (wpAny P .any l.toArray Q m ((qG k l.length).setIfInBounds k true)) a w:=by
   unfold wpOp;rw[hok];simp only[]
   unfold wpList at h;split
   · rename_i hw
     rw[if_pos hw] at h;exact h.imp (Oper.wp_mono hnext) id
   · rename_i hw
     rw[if_neg hw] at h;exact hnext _ _ h
  have h1:=hs.1;split at h1
  · cases h1
  · rename_i j hr
    have hj:j=k:=Nat.eq_of_beq_eq_true h1;subst hj;exact wpAny_all hr (by simp) fun i hi=>by rw[List.mem_singleton.1 hi];exact hone
  · rename_i hr hr1
    rw[hok] at h1;simp only[Bool.and_eq_true] at h1
    have hq:=h1.1.2;unfold wpList at h;have hg:Region.wanted l[k] (yielded l.toArray a.tmps)=true:=by
     unfold quiet at hq;split at hq
     · cases hq
     · rename_i hg;simp[Region.wanted,hg]
    rw[if_pos hg] at h;obtain ⟨v,hy,hv⟩:=uS (ops:=l.toArray) hq h;exact wpAny_take hok hn h1.2 (by simpa using xo.1 h1.1.1) (fun c a w h=>hQ c a _ _ w h) hy (hnext _ _ hv)
theorem zI {k:Nat} (hs:(vsq l k (l.length-k)&&Region.noSelect l.toArray&&Nat.ble k l.length)=true) (hQ:∀c (a:Act) d v w,Q (.panic c) (a.put d v) w→Q (.panic c) a w)
 (h:RS P N l.toArray Q (l.drop k) σ w):AK P N k l Q σ w:=fun a ha=>by
 simp only[Bool.and_eq_true] at hs
 have:=Nat.le_of_ble_eq_true hs.2;exact zH hs.1.2 hQ _ k om hs.1.1 a w (h a ha)
def covers (ops:Array Oper):Nat→List Nat→Bool
 | 0,_=>true
 | j+1,S=>gV j S&&covers ops j (S++jj ops j)
def uT (l:List Oper) (m:Nat):Bool:=Nat.ble m l.length&&LH 0 (l.take m) []&&((l.take m).all fun o=>match o.guard with
 | some (g,_)=>Nat.blt g m
 | none=>true)&&(List.range (l.length-m)).all fun t=>(jj l.toArray (m+t)).any (fun d=>Nat.ble m d) || covers l.toArray m (jj l.toArray (m+t))
theorem FK {ops:Array Oper} {L:Nat→Prop} (hd:∀i,L i→ ∀j∈jj ops i,L j):∀(m:Nat) (S:List Nat),covers ops m S=true→(∀j∈S,L j)→ ∀j,j<m→L j:=by
 intro m;induction m with
 | zero=>intro S _ _ j hj;omega
 | succ m ih=>
  intro S hc hS j hj;simp only[covers,Bool.and_eq_true] at hc
  have hm:=hS m (xo.1 hc.1);rcases Nat.lt_or_ge j m with h | h
  · refine ih _ hc.2 (fun j hj=>?_) j h;rcases List.mem_append.1 hj with h | h
    · exact hS j h
    · exact hd m hm j h
  · have:j=m:=om;subst this;exact hm
theorem LU {o:Oper} {a:Act} {K K' Z:Act→World→Prop} (h:∀a w,K a w→K' a w):∀ {r:Result Next},o.upon P a K (Exit.then Z Q) r→o.upon P a K' Q r:=by
 intro r hh;cases r with
 | ok n w'=>
  cases n<;>simp only[Oper.upon] at hh ⊢ <;>
   first
    | exact h _ _ hh
    | exact Calls.mono hh (fun e w'' he=>by cases e<;>first | exact h _ _ he | exact he)
    | exact Rows.mono hh (fun _ _ he=>h _ _ he)
    | exact hh
 | halt x w'=>cases x<;>simp only[Oper.upon] at hh ⊢ <;>exact hh
end
section
variable {P:Program} {N:Nat} {Q:Exit→Act→World→Prop} {σ:Env} {l:List Oper}
theorem zJ {w:World} (Y:Nat→Prop) (hY:∀k,Y k→k<w.heap.size) (bs:List Bx) (os:List Ox) (F:Nat→Fx) (hok:(LH 0 l []&&iK bs&&LP l bs bs&&qC N l&&um bs os)=true) (hos:yux Y w os) (hin:∀o∈os,l[o.st]? ≠none)
 (hsteps:vdk P N l.toArray Q σ bs os F w 0 l)
 (hend:∀vs w',Ext (aj (kf os)) w w'→uo σ l.toArray vs w' os→vxk Y bs F vs w' 0 l→ynq P σ l.toArray vs w w' bs→vez vs bs→EW N Q .normal (QY σ l vs) w'):AK P N 0 l Q σ w:=by
 simp only[Bool.and_eq_true] at hok
 obtain ⟨⟨⟨⟨hrow,hbx⟩,hwf⟩,hdl⟩,hox⟩:=hok;have QZ:∀ {r:List Ox},yux Y w r→ ∀o∈r,Y o.g∧aB w o.g o.T o.cs:=by
  intro r;induction r with
  | nil=>intro _ o ho;cases ho
  | cons x r ih=>
   exact QA
 have avj:∀ {r:List Ox},yux Y w r→um bs r=true→ ∀a∈r,∀b∈r,a≠b→a.g≠b.g∧a.st≠b.st:=by
  intro r;induction r with
  | nil=>intro _ _ a ha;cases ha
  | cons x r ih=>
   exact alj
 have Q0:∀ {r:List Ox},um bs r=true→ ∀o∈r,p8 bs o.st=none∧oq bs o.st=none:=by
  intro r;induction r with
  | nil=>intro _ o ho;cases ho
  | cons x r ih=>
   exact QD
 intro a ha;rw[show qG 0 l.length=Array.replicate l.toArray.size false by simp[qG]];have m0:Mid P N Y l σ w bs os F (Array.replicate l.toArray.size false) a w (fun _=>undef) Y:=by
  have hno:∀i,¬Ran (Array.replicate l.toArray.size false) i:=fun i h=>by
   unfold Ran at h;by_cases hi:i<l.length<;>simp[hi] at h
  exact ⟨by simp,ha.defers,ha.size,fun t v h=>ha.get t v (qzv h).1,fun i d h=>absurd h (hno i),fun i d v _ _ h=>ha.get d v h,fun i h=>absurd h (hno i),Ext.refl _ _,hY,fun _ h=>h,hY,
   fun i h=>absurd h (hno i),fun b _ h=>absurd h (hno _),fun o ho=>⟨fun _=>(QZ hos o ho).2,fun h=>absurd h (hno _)⟩,fun o ho=>(QZ hos o ho).1,fun b _ c _ h=>absurd h (hno _)⟩
 refine qB (l:=l) hrow hbx hwf (iY hdl) (fun o ho h=>by rw[(Q0 hox o ho).1] at h;cases h) (fun o ho h=>by rw[(Q0 hox o ho).2] at h;cases h) (avj hos hox) hsteps ?_ _ _ _ _ _ _ ?_ m0
 · intro listed a w' vs X hall m;have hlen:∀i (o:Oper),l[i]? =some o→Ran listed i:=fun i o h=>hall i (List.getElem?_eq_some_iff.1 h).1;refine hend vs w' m.ext ?_ ?_ ?_ ?_ a ?_
   · exact am1
   · exact am0
   · have key:∀r:List Bx,(∀b∈r,b∈bs)→ynq P σ l.toArray vs w w' r:=by
      intro r;induction r with
      | nil=>intro _;trivial
      | cons b r ih=>
       exact alz
     exact key bs (fun _ h=>h)
   · exact am2
   · refine ⟨m.defers,m.tmps,fun t v h=>?_⟩;exact QC
 · simp
end
section
variable {P:Program} {N:Nat} {Q:Exit→Act→World→Prop} {σ:Env} {w:World} {l:List Oper}
theorem FL {m:Nat} (hg:uT l m=true):∀(f:Nat) (ls:List Bool) (a:Act) (w:World),ls.length=m→ls.count false=f→
 (∀i,Ran ls.toArray i→ ∀j∈jj l.toArray i,Ran ls.toArray j)→
 wpAny P .any (l.take m).toArray (Exit.then (fun a w=>wpAny P .any l.toArray Q (l.length-m) (qG m l.length) a w) Q) f ls.toArray a w→
 wpAny P .any l.toArray Q (f+(l.length-m)) (ls++List.replicate (l.length-m) false).toArray a w:=by
 unfold uT at hg;simp only[Bool.and_eq_true] at hg
 obtain ⟨⟨⟨hml,hrow⟩,hgd⟩,aU9⟩:=hg;have hml:=Nat.le_of_ble_eq_true hml;have htk:∀i,i<m→(l.take m).toArray[i]? =l.toArray[i]? :=fun i hi=>by simp[List.getElem?_take,hi]
 have hget:∀(ls:List Bool) (i:Nat) (d:Bool),ls.length=m→i<m→(ls++List.replicate (l.length-m) false).toArray.getD i d=ls.toArray.getD i d:=by
  intro ls i d hl hi;simp[Array.getD_eq_getD_getElem?,List.getElem?_append,hl,hi]
 have am8:∀(ls:List Bool) (i:Nat),ls.length=m→m≤i→(ls++List.replicate (l.length-m) false).toArray.getD i false=false:=by
  intro ls i hl hi;have hni:¬i<m:=om;simp only[Array.getD_eq_getD_getElem?,List.getElem?_toArray,List.getElem?_append,hl,hni,if_false,List.getElem?_replicate]
  split<;>rfl
 have hfull:∀ls:List Bool,ls.length=m→(∀i,i<m→Ran ls.toArray i)→ls.count false=0:=by
  intro ls hl h;refine List.count_eq_zero.2 fun hf=>?_;obtain ⟨i,hi,he⟩:=List.getElem_of_mem hf;have:=h i om;unfold Ran at this;simp[hi,he] at this
 intro f;induction f with
 | zero=>
  intro ls a w hl hc hd h;have hall:ls=List.replicate m true:=by
   refine List.eq_replicate_iff.2 ⟨hl,fun b hb=>?_⟩;cases b with
   | true=>rfl
   | false=>exact absurd hb (List.count_eq_zero.1 hc)
  have h2:=h.2;rw[Nat.zero_add,hall];exact h2
 | succ f ih=>
  intro ls a w hl hc hd h;rw[Nat.succ_add];refine ⟨fun hr=>?_,fun i hi=>?_⟩
  · exfalso
    have hall:∀i,i<m→Ran ls.toArray i:=by
     intro i;induction i using Nat.strongRecOn with
     | _ i ihi=>
      intro him;rcases Classical.em (Ran ls.toArray i) with h' | h'
      · exact h'
      · exfalso
        have:i∈Region.ready .any l.toArray (ls++List.replicate (l.length-m) false).toArray:=by
         have hil:i<l.length:=om;refine mem_ready.2 ⟨?_,l[i],by simp[hil],fun e he hb=>?_⟩
         · rw[hget ls i true hl him];unfold Ran at h';have:i<ls.length:=om;simp[this] at h' ⊢
           exact h'
         · have hlt:=(yak hrow (i:=i) (o:=l[i]) (by simp[List.getElem?_take,him,hil])).1 e.on (qix (by simpa using he) hb);have hei:e.on<i:=om;rw[hget ls e.on false hl om];exact ihi e.on hei om
        rw[hr] at this;cases this
    have:=hfull ls hl hall;omega
  · obtain ⟨h0,o,ho,av0⟩:=mem_ready.1 hi;rcases Nat.lt_or_ge i m with him | him
    · have hdl:∀j∈jj l.toArray i,Ran ls.toArray j:=by
       intro j hj;have ho':l[i]? =some o:=by simpa using ho
       unfold jj at hj;rw[ho] at hj;obtain ⟨e,he,hb,rfl⟩:=qzz hj;have hlt:=(yak hrow (i:=i) (o:=o) (by simp[List.getElem?_take,him,ho'])).1 e.on (qix he hb);have:=av0 e (by simpa using he) hb;rwa [hget ls e.on false hl om] at this
      rw[hget ls i true hl him] at h0;have hi1:i∈Region.ready .any (l.take m).toArray ls.toArray:=by
       refine mem_ready.2 ⟨h0,o,by rw[htk i him];exact ho,fun e he hb=>?_⟩;refine hdl e.on ?_;unfold jj;rw[ho];exact qix (by simpa using he) hb
      have h1:=h.2 i hi1;have hset:((ls++List.replicate (l.length-m) false).toArray.setIfInBounds i true)=(ls.set i true++List.replicate (l.length-m) false).toArray:=by
       apply Array.toList_inj.1
       rw[Array.toList_setIfInBounds];simp[List.set_append,hl,him]
      have Q8:ls.toArray.setIfInBounds i true=(ls.set i true).toArray:=by
       apply Array.toList_inj.1
       rw[Array.toList_setIfInBounds]
      rw[Q8] at h1;rw[hset];have aUq:ls[i]? =some false:=by
       have hil:i<ls.length:=om;have e:ls[i]=false:=by simpa [hil] using h0
       simp[hil,e]
      have hK:∀a w,wpAny P .any (l.take m).toArray (Exit.then (fun a w=>wpAny P .any l.toArray Q (l.length-m) (qG m l.length) a w) Q) f (ls.set i true).toArray a w→
       wpAny P .any l.toArray Q (f+(l.length-m)) (ls.set i true++List.replicate (l.length-m) false).toArray a w:=by
       intro a w h;refine ih (ls.set i true) a w (by simpa using hl) (by have:=vmk ls i aUq;omega) ?_ h;have hup:∀j,Ran ls.toArray j→Ran (ls.set i true).toArray j:=by
        intro j hj;unfold Ran at hj ⊢;rw[←Q8];exact getD_set_true hj
       intro j hj k hk;rcases Classical.em (j=i) with rfl | hji
       · exact hup k (hdl k hk)
       · refine hup k (hd j ?_ k hk);unfold Ran at hj ⊢;rw[←Q8,getD_set_ne false (Ne.symm hji)] at hj;exact hj
      unfold wpOp at h1 ⊢;rw[htk i him,ho] at h1;rw[ho];simp only[] at h1 ⊢
      have hy:Region.wanted o (yielded (l.take m).toArray a.tmps)=Region.wanted o (yielded l.toArray a.tmps):=by
       unfold Region.wanted;cases hgo:o.guard with
       | none=>rfl
       | some gw=>
        obtain ⟨g,want⟩:=gw;have hmem:o∈l.take m:=by
         have ho':l[i]? =some o:=by simpa using ho
         exact List.mem_of_getElem? (i:=i) (by simp[List.getElem?_take,him,ho'])
        have:=(List.all_eq_true.1 hgd) o hmem;rw[hgo] at this;have hgm:g<m:=Nat.le_of_ble_eq_true this;simp only[yielded,htk g hgm]
      rw[←hy];split
      · rename_i hw
        rw[if_pos hw] at h1;rcases h1 with h1 | ⟨h1,h2⟩
        · exact .inl (LU hK h1)
        · exact .inr ⟨h1,h2⟩
      · rename_i hw
        rw[if_neg hw] at h1;exact hK _ _ h1
    · exfalso
      have hil:i<l.length:=by simpa using (Array.getElem?_eq_some_iff.1 ho).1
      have hdl:∀j∈jj l.toArray i,(ls++List.replicate (l.length-m) false).toArray.getD j false=true:=by
       intro j hj;unfold jj at hj;rw[ho] at hj;exact Qy
      have hc2:=(List.all_eq_true.1 aU9) (i-m) (List.mem_range.2 om);rw[show m+(i-m)=i from om,Bool.or_eq_true] at hc2;rcases hc2 with hc2 | hc2
      · obtain ⟨j,hj,hmj⟩:=List.any_eq_true.1 hc2;have:=hdl j hj;rw[am8 ls j hl (Nat.le_of_ble_eq_true hmj)] at this;cases this
      · have hall:=FK (L:=fun j=>(Ran ls.toArray j)) hd m _ hc2 (fun j hj=>by
         have:=hdl j hj;rcases Nat.lt_or_ge j m with h' | h'
         · rwa [hget ls j false hl h'] at this
         · rw[am8 ls j hl h'] at this;cases this)
        have:=hfull ls hl hall;omega
theorem Q9 (m:Nat) (hg:uT l m=true) (h:AK P N 0 (l.take m) (Exit.then (fun a w=>wpAny P .any l.toArray Q (l.length-m) (qG m l.length) a w) Q) σ w):AK P N 0 l Q σ w:=fun a ha=>by
 have hml:m≤l.length:=by
  unfold uT at hg;simp only[Bool.and_eq_true] at hg
  exact Nat.le_of_ble_eq_true hg.1.1.1
 have hlen:(l.take m).length=m:=by simp[hml]
 have h1:=h a ha;have:=FL hg m (List.replicate m false) a w (by simp) (by simp) (fun i hi=>by
  unfold Ran at hi;by_cases h':i<m<;>simp[h'] at hi) (by
   unfold qG at h1;rw[hlen] at h1;simpa [qG] using h1)
 rw[List.replicate_append_replicate] at this;have e:m+(l.length-m)=l.length:=om;rw[e] at this;unfold qG;simpa using this
theorem am9 {m:Nat} (h:AK P N m l Q σ w):EW N (Exit.then (fun a w=>wpAny P .any l.toArray Q (l.length-m) (qG m l.length) a w) Q) .normal σ w:=fun a ha=>h a ha
end
section
variable {P:Program} {N:Nat} {ops:Array Oper} {Q:Exit→Act→World→Prop} {σ:Env} {w:World} {ty:TypeId} {pos:String} {af:Array Edge} {dst:Option Nat} {Post:Value→World→Prop}
end
section
variable {P:Program} {N:Nat} {ops:Array Oper} {Q:Exit→Act→World→Prop} {σ:Env} {w:World} {ty:TypeId} {pos:String} {af:Array Edge} {dst:Option Nat} {Post:Value→World→Prop}
theorem jC {T U:TypeId} {x:Operand} {b:Nat} {q:IntKind} {z:Int} (hd:P.underlying U=some (.int q)) (hs:(P.underlying T).isSome=true) (hx:ev σ x=some (.float .f64 b)) (hz:floatToIntVal .f64 b q=some z) (k:Post (.int q z) w):OW P N ops Q ⟨dst,.convert T U x,ty,pos,af,none⟩ σ w Post:=
 yh (fun ρ ha=>by
  have h:=run_convert_float_int (P:=P) w T U .f64 q b z hs hd hz;simp only[execOp,ha hx,Sem.run_bind,h,Result.andThen_ok,Sem.run_pure]) k
theorem Rf {T U:TypeId} {x:Operand} {n:Int} {q:IntKind} (hd:P.underlying U=some (.float .f64)) (hs:(P.underlying T).isSome=true) (hx:ev σ x=some (.int q n)) (k:Post (.float .f64 (FloatKind.f64.nearest n)) w):OW P N ops Q ⟨dst,.convert T U x,ty,pos,af,none⟩ σ w Post:=
 yh (fun ρ ha=>by
  have h:(convert T U (.int q n)).run P w= .ok (.float .f64 (FloatKind.f64.nearest n)) w:=by
   obtain ⟨s,hs'⟩:=Option.isSome_iff_exists.1 hs;cases s<;>simp[convert,run_underlying hs',run_underlying hd,Conv.intToFloat]
  simp only[execOp,ha hx,Sem.run_bind,h,Result.andThen_ok,Sem.run_pure]) k
theorem LZ (t:Nat) (ht:t<4503599627370496):(t ||| 2251799813685248)%4503599627370496≠0:=by
 have h1:t ||| 2251799813685248<2^52:=Nat.or_lt_two_pow (n:=52) ht de;rw[Nat.mod_eq_of_lt h1];have h2:=@Nat.right_le_or t 2251799813685248;omega
theorem jD (b:Nat):(FloatKind.f64.decode b).isNaN=aW b:=by
 show (Ieee.double.read b).isNaN=aW b
 rcases Nat.lt_trichotomy (rg b) 9218868437227405312 with h | h | h
 · rw[vd h,aW,decide_eq_false om];rfl
 · rw[xn h,aW,decide_eq_false om];rfl
 · rw[yzz h,aW,decide_eq_true h];rfl
structure aUz (r:Nat) (w w':World):Prop where
 isn:aW r=true
 ext:Ext No w w'
 lt:r<18446744073709551616
theorem Ma {f:FuncId} {ts:Array TypeId} {x:Operand} {b:Nat} {name:String} {way:Ieee.Toward} (hf:gW P f (Extern.MathFloor.toIntegral name way)) (hx:ev σ x=some (.float .f64 b)) (hn:aW b=true) (hb:b<18446744073709551616) (k:∀r w',aUz r w w'→Post (.float .f64 r) w'):OW P N ops Q ⟨dst,.call ⟨.value (.func f),#[x],ts⟩,ty,pos,af,none⟩ σ w Post:=by
 have key:∃r w',aW r=true∧Ext No w w'∧r<18446744073709551616∧(Extern.MathFloor.toIntegral name way #[.float .f64 b]).run P w= .ok (.float .f64 r) w':=by
  have e:Extern.MathFloor.toIntegral name way #[.float .f64 b]=(match FloatKind.f64.decode b with
   | .nan s t=>if FloatKind.f64.format.quiet t=t then pure (.float .f64 b) else do
    let kept←choose (.extern "math.Floor,Ceil,Trunc,RoundToEven.signallingNaN kept" 2)
    pure (.float .f64 (if kept==1 then b else FloatKind.f64.encode (.nan s (FloatKind.f64.format.quiet t))))
   | d=>pure (.float .f64 (FloatKind.f64.encode (d.integral way)))):=rfl
  have hlt:9218868437227405312<rg b:=of_decide_eq_true hn;have hd:FloatKind.f64.decode b= .nan (ng b) (rg b-9218868437227405312):=yzz hlt;rw[e,hd];simp only[]
  by_cases hq:FloatKind.f64.format.quiet (rg b-9218868437227405312)=rg b-9218868437227405312
  · rw[if_pos hq];exact ⟨b,w,hn,Ext.refl _ _,hb,rfl⟩
  · rw[if_neg hq];have hr:=LX b;have hN:aW (FloatKind.f64.encode (.nan (ng b) (FloatKind.f64.format.quiet (rg b-9218868437227405312))))=true∧FloatKind.f64.encode (.nan (ng b) (FloatKind.f64.format.quiet (rg b-9218868437227405312)))<18446744073709551616:=by
     have h1:=LZ (rg b-9218868437227405312) om;have h2:FloatKind.f64.encode (.nan (ng b) (FloatKind.f64.format.quiet (rg b-9218868437227405312)))=Ieee.double.word (ng b) (9218868437227405312+((rg b-9218868437227405312) ||| 2251799813685248)%4503599627370496):=by
      show Ieee.double.word _ (Ieee.double.infRung+_%Ieee.double.binade)=_
      rw[c3,c2];rfl
     have h3:=Nat.mod_lt ((rg b-9218868437227405312) ||| 2251799813685248) (show 4503599627370496>0 from de);rw[h2];obtain ⟨w1,_,w3⟩:=vj (ng b) (9218868437227405312+((rg b-9218868437227405312) ||| 2251799813685248)%4503599627370496) om;exact ⟨decide_eq_true (by rw[w1];omega),w3⟩
    obtain ⟨c,hc⟩:∃c,(choose (.extern "math.Floor,Ceil,Trunc,RoundToEven.signallingNaN kept" 2)).run P w= .ok c w.drew:=⟨_,rfl⟩;refine ⟨if c==1 then b else FloatKind.f64.encode (.nan (ng b) (FloatKind.f64.format.quiet (rg b-9218868437227405312))),w.drew,?_,⟨rfl,rfl,rfl,Nat.le_refl _,fun _ _ _=>rfl⟩,?_,?_⟩
    · split
      · exact hn
      · exact hN.1
    · split
      · exact hb
      · exact hN.2
    · simp only[Sem.run_bind,hc,Result.andThen_ok,Sem.run_pure]
 obtain ⟨r,w',h1,h2,h4,h3⟩:=key;exact vjk (xs:=[x]) (args:=[.float .f64 b]) hf (by simp[evs,hx]) h3 (k r w' ⟨h1,h2,h4⟩)
end
section
variable {P:Program} {N:Nat} {ops:Array Oper} {Q:Exit→Act→World→Prop} {σ:Env} {w:World} {ty:TypeId} {pos:String} {af:Array Edge} {dst:Option Nat} {Post:Value→World→Prop}
theorem FN {T:TypeId} {x:Operand} {v:Value} (hc:P.concrete T=true) (hx:ev σ x=some v) (k:Post (.iface T v) w):OW P N ops Q ⟨dst,.makeInterface T x,ty,pos,af,none⟩ σ w Post:=
 yh (fun ρ ha=>by
  have h:=run_makeInterface (P:=P) w T v hc;simp only[execOp,ha hx,Sem.run_bind,h,Result.andThen_ok,Sem.run_pure]) k
end
inductive Ends {α:Type} (done:α→Bool) (step:α→α):α→α→Prop
 | stop {s:α}:done s=true→Ends done step s s
 | next {s t:α}:done s=false→Ends done step (step s) t→Ends done step s t
noncomputable def va {α:Type} (done:α→Bool) (step:α→α) (s:α):α:=@Classical.epsilon α ⟨s⟩ (Ends done step s)
theorem vo {α:Type} {done:α→Bool} {step:α→α} {s:α} (h:done s=false):va done step s=va done step (step s):=by
 have e:Ends done step s=Ends done step (step s):=funext fun t=>propext ⟨fun h'=>by
  cases h' with
  | stop h1=>rw[h] at h1;cases h1
  | next _ h1=>exact h1,fun h'=>.next h h'⟩
 unfold va;rw[e]
theorem qe {α:Type} {done:α→Bool} {step:α→α} {s:α} (h:done s=true):va done step s=s:=by
 have h1:Ends done step s (va done step s):=@Classical.epsilon_spec _ (Ends done step s) ⟨s,.stop h⟩;generalize va done step s=t at h1
 cases h1 with
 | stop _=>rfl
 | next h2 _=>rw[h] at h2;cases h2
section
variable {P:Program} {Q:Exit→Act→World→Prop} {a:Act} {w:World} {body:Code}
theorem step_scope {b:Frame} {k:List Item} {cs:List Frame}:step P (lone (b.at a (.code (.scope body)::k)) cs w)= .next (lone (b.at a (.code body:: .inScope body::k)) cs w):=
 step_lone_go (by simp[stepG,stepG.exec,Frame.at])
theorem qvx {b:Frame} {k:List Item} {cs:List Frame}:step P (lone (b.at a (.inScope body::k)) cs w)= .next (lone (b.at a k) cs w):=
 step_lone_go (by simp[stepG,stepG.exec,Frame.at])
def ob (P:Program) (body:Code) (Q:Exit→Act→World→Prop):Nat→Exit→Act→World→Prop
 | 0,.goto l,a,w=>findLabel body l=none∧Q (.goto l) a w
 | n+1,.goto l,a,w=>(findLabel body l=none∧Q (.goto l) a w)∨ ∃rest,findLabel body l=some rest∧rest.wp P (ob P body Q n) a w
 | _,e,a,w=>Q e a w
theorem Mc:∀(n:Nat) (c:Code) (a:Act) (w:World),c.wp P (ob P body Q n) a w→ ∀b k cs,∃e a' w',Q e a' w'∧Arrives P (lone (b.at a (.code c:: .inScope body::k)) cs w) b k cs e a' w':=by
 intro n;induction n with
 | zero=>
  intro c a w h b k cs;obtain ⟨e,a₁,w₁,hq,harr⟩:=h b (.inScope body::k) cs;cases e with
  | normal=>exact ⟨.normal,a₁,w₁,hq,Steps.trans harr (.one qvx)⟩
  | exit id=>exact ⟨.exit id,a₁,w₁,hq,fun k' hk=>harr k' (by simp[exitTo,hk])⟩
  | goto l=>exact ⟨_,a₁,w₁,hq.2,fun k' hk=>harr k' (by simp[gotoIn,hq.1,hk])⟩
  | ret=>exact ⟨_,a₁,w₁,hq,harr⟩
  | panic ch=>exact ⟨_,a₁,w₁,hq,harr⟩
  | outgrown=>exact ⟨_,a₁,w₁,hq,harr⟩
 | succ n ih=>
  intro c a w h b k cs;obtain ⟨e,a₁,w₁,hq,harr⟩:=h b (.inScope body::k) cs;cases e with
  | normal=>exact ⟨.normal,a₁,w₁,hq,Steps.trans harr (.one qvx)⟩
  | exit id=>exact ⟨.exit id,a₁,w₁,hq,fun k' hk=>harr k' (by simp[exitTo,hk])⟩
  | goto l=>
   rcases hq with ⟨h1,hq⟩ | ⟨rest,h1,h2⟩
   · exact ⟨_,a₁,w₁,hq,fun k' hk=>harr k' (by simp[gotoIn,h1,hk])⟩
   · obtain ⟨e2,a2,w2,hq2,aG5⟩:=ih rest a₁ w₁ h2 b k cs;exact ⟨e2,a2,w2,hq2,.of_steps (harr _ (by simp[gotoIn,h1])) aG5⟩
  | ret=>exact ⟨_,a₁,w₁,hq,harr⟩
  | panic ch=>exact ⟨_,a₁,w₁,hq,harr⟩
  | outgrown=>exact ⟨_,a₁,w₁,hq,harr⟩
theorem Rh (n:Nat) (h:body.wp P (ob P body Q n) a w):(Code.scope body).wp P Q a w:=fun b k cs=>
 let ⟨e,a',w',q,r⟩:=Mc n body a w h b k cs
 ⟨e,a',w',q,.of_steps (.one step_scope) r⟩
end
section
variable {P:Program} {N:Nat} {Q:Exit→Act→World→Prop} {σ:Env} {w:World} {body:Code} {n:Nat}
theorem zM (n:Nat) (h:CW P N body (ob P body Q n) σ w):CW P N (.scope body) Q σ w:=fun a ha=>Rh n (h a ha)
theorem zez (h:EW N Q .ret σ w):EW N (ob P body Q n) .ret σ w:=by cases n<;>exact h
theorem oM {l:Nat} {rest:Code} (hl:findLabel body l=some rest) (h:CW P N rest (ob P body Q n) σ w):EW N (ob P body Q (n+1)) (.goto l) σ w:=fun a ha=>.inr ⟨rest,hl,h a ha⟩
theorem ZX {l:Nat} (h:EW N Q (.goto l) σ w):CW P N (.goto l) Q σ w:=fun a ha=>wp_goto (h a ha)
theorem zN {l:Nat} (h:EW N Q .normal σ w):CW P N (.label l) Q σ w:=fun a ha=>wp_label (h a ha)
theorem uX {K:Act→World→Prop} {l:Nat} (h:EW N Q (.goto l) σ w):EW N (Exit.then K Q) (.goto l) σ w:=h
end
section
variable {P:Program} {N:Nat} {ops:Array Oper} {Q:Exit→Act→World→Prop} {σ:Env} {w:World} {ty:TypeId} {pos:String} {af:Array Edge} {dst:Option Nat} {Post:Value→World→Prop}
theorem ve {T T':TypeId} {x y:Operand} {g o:Nat} {cs cs':Array Value} {v:Value} (hs:vc P T 1) (hx:ev σ x=some (.pointer (some ⟨g,o,none⟩))) (hy:ev σ y=some v) (hb:aB w g T' cs) (hv:v.cells= #[v]) (h1:QT [v]=true) (hle:o<cs.size) (he:cs.setIfInBounds o v=cs')
 (k:∀w',aB w' g T' cs'→Ext (aj [some g]) w w'→Post undef w'):OW P N ops Q ⟨dst,.store T x y,ty,pos,af,none⟩ σ w Post:=by
 refine qy hs hx hy hb (by rw[hv];rfl) (by rw[hv];exact h1) om (fun w' hb' he'=>k w' ?_ he');rw[hv] at hb';rw[←he];exact hb'
end
section
variable {P:Program} {N:Nat} {ops:Array Oper} {Q:Exit→Act→World→Prop} {σ:Env} {w:World} {ty:TypeId} {pos:String} {af:Array Edge} {dst:Option Nat} {Post:Value→World→Prop}
theorem vt {x i:Operand} {T e:TypeId} {g n:Nat} {q:IntKind} {m:Int} {j:Nat} (hd:P.underlying T=some (.array n e)) (hs:vc P e 1) (hx:ev σ x=some (.pointer (some ⟨g,0,none⟩))) (hi:ev σ i=some (.int q m)) (hm:m=(j:Int)) (hj:j<n)
 (k:Post (.pointer (some ⟨g,j,none⟩)) w):OW P N ops Q ⟨dst,.indexAddr T x i,ty,pos,af,none⟩ σ w Post:=
 zqk hd hs hx hi hm hj (by rw[Nat.mul_one,Nat.zero_add];exact k)
theorem oN {x i:Operand} {T e:TypeId} {g n c:Nat} {q:IntKind} {m:Int} {j:Nat} (hd:P.underlying T=some (.slice e)) (hs:vc P e 1) (hx:ev σ x=some (.slice (some ⟨g,0,none⟩) n c)) (hi:ev σ i=some (.int q m)) (hm:m=(j:Int)) (hj:j<n)
 (k:Post (.pointer (some ⟨g,j,none⟩)) w):OW P N ops Q ⟨dst,.indexAddr T x i,ty,pos,af,none⟩ σ w Post:=
 gy hd hs hx hi hm hj (by rw[Nat.mul_one,Nat.zero_add];exact k)
theorem FP {T e:TypeId} {x y z:Operand} {g n s h:Nat} {q q':IntKind} {m:Int} (hd:P.underlying T=some (.array n e)) (hs:vc P e s) (hx:ev σ x=some (.pointer (some ⟨g,0,none⟩))) (hz:ev σ z=some (.int q' ((0:Nat):Int))) (hy:ev σ y=some (.int q m)) (hm:m=(h:Int)) (hn:h≤n)
 (k:Post (.slice (some ⟨g,0,none⟩) h n) w):OW P N ops Q ⟨dst,.slice T x (some z) (some y) none,ty,pos,af,none⟩ σ w Post:=by
 subst hm;exact yh (fun ρ ha=>by
  simp only[execOp,Instr.sliceAt,Option.map_none,Option.map_some,ha hx,Sem.run_bind,run_underlying hd,Result.andThen_ok,Instr.sureAddr,Instr.sliceBounds,Sem.run_pure,QS hs,Option.isSome_none,Bool.false_eq_true,if_false,zov ha y q h n _ hy hn,zov ha z q' 0 h _ hz (Nat.zero_le _)]
  simp[Addr.add]) k
end
section
variable {P:Program} {N:Nat} {ops:Array Oper} {Q:Exit→Act→World→Prop} {σ:Env} {w:World} {ty:TypeId} {pos:String} {af:Array Edge} {dst:Option Nat} {Post:Value→World→Prop}
end
section
variable {P:Program} {N:Nat} {ops:Array Oper} {Q:Exit→Act→World→Prop} {σ:Env} {w:World} {ty:TypeId} {pos:String} {af:Array Edge} {dst:Option Nat} {Post:Value→World→Prop}
theorem qxq:∀(l:List Value) (cs:Array Value) (o j:Nat),(putCells cs o l)[j]? =if o≤j∧j<o+l.length∧j<cs.size then l[j-o]? else cs[j]?
 | [],cs,o,j=>by
  simp only[putCells,List.length_nil,Nat.add_zero]
  rw[if_neg om]
 | v::l,cs,o,j=>by
  rw[putCells,qxq l];simp only[Array.size_setIfInBounds,List.length_cons]
  by_cases h1:j=o
  · subst h1;rw[if_neg om];by_cases h2:j<cs.size
    · rw[if_pos ⟨Nat.le_refl _,om,h2⟩,Nat.sub_self];simp[h2]
    · rw[if_neg om];simp[h2]
  · by_cases h2:o+1≤j∧j<o+1+l.length∧j<cs.size
    · rw[if_pos h2,if_pos om,show j-o=(j-(o+1))+1 from om];simp
    · rw[if_neg h2,if_neg om,Array.getElem?_setIfInBounds_ne om]
theorem qlv (cs:Array Value) (l:List Value) (h:l.length=cs.size):putCells cs 0 l=l.toArray:=by
 apply Array.ext_getElem?
 intro j;rw[qxq];by_cases hj:j<cs.size
 · rw[if_pos ⟨Nat.zero_le _,om,hj⟩];simp
 · rw[if_neg om,Array.getElem?_eq_none om,List.getElem?_toArray,List.getElem?_eq_none om]
theorem qx {T T':TypeId} {x y:Operand} {g:Nat} {cs:Array Value} {v:Value} {n:Nat} (hs:vc P T n) (hx:ev σ x=some (.pointer (some ⟨g,0,none⟩))) (hy:ev σ y=some v) (hb:aB w g T' cs) (hn:v.cells.size=n) (h1:QT v.cells.toList=true) (hle:n=cs.size)
 (k:∀w',aB w' g T' v.cells→Ext (aj [some g]) w w'→Post undef w'):OW P N ops Q ⟨dst,.store T x y,ty,pos,af,none⟩ σ w Post:=
 qy hs hx hy hb hn h1 om (fun w' hb' he=>k w' (by
  rw[qlv _ _ (by rw[Array.length_toList];omega)] at hb';simpa using hb') he)
theorem qaq {T:TypeId} {d:TypeDesc} {x:Operand} {g o:Nat} {cs:Array Value} {n:Nat} (hd:P.underlying T=some d) (hp:TypeDesc.plain d=false) (hs:vc P T n) (hx:ev σ x=some (.pointer (some ⟨g,o,none⟩))) (hn:cs.size=n)
 (hc:∀j v,cs[j]? =some v→w.cell? ⟨g,o+j,none⟩=some v) (k:Post (.agg cs) w):OW P N ops Q ⟨dst,.load T x,ty,pos,af,none⟩ σ w Post:=
 iO hd hp hs hx hn (fun j v hj=>by rw[Addr.add_eq];exact hc j v hj) k
end
def aUx (l:List Oper) (m:Nat):Bool:=Nat.beq (m+1) l.length&&LH 0 (l.take m) []&&(l.take m).all fun o=>match o.guard with
 | some (g,_)=>Nat.blt g m
 | none=>true
section
variable {P:Program} {N:Nat} {Q:Exit→Act→World→Prop} {σ:Env} {w:World} {l:List Oper}
end
section
variable {P:Program} {N:Nat} {Q:Exit→Act→World→Prop} {σ:Env} {w0:World} {l:List Oper} {F:Nat→Fx} {q:Nat} {Z:Nat→Prop}
def aw1 (ops:Array Oper) (Z:Nat→Prop) (F:Nat→Fx) (w0:World) (vs:Nat→Value) (X:Nat→Prop) (w:World) (i:Nat):Prop:=
 Ext Z w0 w∧(∀k,X k→k<w.heap.size)∧ ∀j∈jj ops i,Left X w (F j) (vs j)
def aG6 (P:Program) (N:Nat) (ops:Array Oper) (Q:Exit→Act→World→Prop) (σ:Env) (q:Nat) (Z:Nat→Prop) (F:Nat→Fx) (w0:World) (i:Nat) (o:Oper):Prop:=
 ∀vs X w,aw1 ops Z F w0 vs X w i→(Nat.beq i q=true→Ext No w0 w)→OW P N ops Q o (oL σ ops vs i) w (fun v w'=>match Nat.beq i q with
  | true=>Ext Z w w'∧Left No w' (F i) v
  | false=>Below w.heap.size w w'∧Left X w' (F i) v)
def aw2 (P:Program) (N:Nat) (ops:Array Oper) (Q:Exit→Act→World→Prop) (σ:Env) (q:Nat) (Z:Nat→Prop) (F:Nat→Fx) (w0:World):Nat→List Oper→Prop
 | _,[]=>True
 | i,o::l=>aG6 P N ops Q σ q Z F w0 i o∧aw2 P N ops Q σ q Z F w0 (i+1) l
def Yet (listed:Array Bool) (q:Nat) (Z:Nat→Prop) (k:Nat):Prop:=¬Ran listed q∧Z k
structure bdj (N:Nat) (l:List Oper) (σ:Env) (w0:World) (q:Nat) (Z:Nat→Prop) (F:Nat→Fx) (listed:Array Bool) (a:Act) (w:World) (vs:Nat→Value):Prop where
 size:listed.size=l.length
 defers:a.defers= []
 tmps:a.tmps.size=N
 kept:∀t v,lk t (zB (zA l) σ)=some v→a.tmps[t]? =some v
 ran:∀i d,Ran listed i→y9 l.toArray i=some d→a.tmps[d]? =some (vs i)
 old:∀i d v,¬Ran listed i→y9 l.toArray i=some d→lk d σ=some v→a.tmps[d]? =some v
 down:∀i,Ran listed i→ ∀j∈jj l.toArray i,Ran listed j
 ext:Ext (fun k=>Ran listed q∧Z k) w0 w
 facts:∀i,Ran listed i→Left (Yet listed q Z) w (F i) (vs i)
end
theorem oO {g k:Nat} (h:aj [some g] k):k=g:=by
 rcases h with h | h
 · exact Option.some.inj h
 · exact h.elim
theorem Ext.noL (a:Nat) {w1 w2:World} (h:Ext No w1 w2):Ext (fun q=>a≤q) w1 w2:=h.mono fun _ h _=>h.elim
section
variable {w w':World} {X:Nat→Prop} {base base' n n' s s':Nat} {e e':TypeId} {v v':Value} {xs xs':List Value}
theorem uY {a:Option Nat} {k:Nat} (h:aj [a] k):a=some k:=by
 rcases h with h | h
 · exact h.symm
 · exact h.elim
theorem jE {g:Nat} (h:w.ownsRow base e s v n xs) (hg:v.ownBlock=some g):∃cur,aB w g e cur:=by
 rcases h.2 with ⟨rfl,_⟩ | ⟨g',cap,cur,rfl,_,hh,_⟩
 · cases hg
 · obtain rfl:g'=g:=by injection hg
   exact ⟨cur,hh⟩
theorem ZY (h:w.ownsRow base e s v n xs) (k:Ext X w w') (hn:∀g,v.ownBlock=some g→ ¬X g):w'.ownsRow base e s v n xs:=by
 rcases h.2 with h0 | ⟨g,cap,cur,rfl,hb,hh,r⟩
 · exact ⟨h.1,Or.inl h0⟩
 · exact ⟨h.1,Or.inr ⟨g,cap,cur,rfl,hb,aB.ext (show aB w g e cur from hh) k (hn g rfl),r⟩⟩
theorem zO {g:Nat} {t t':TypeId} {cs cs':Array Value} (h:aB w g t cs) (h':aB w g t' cs'):t=t':=by
 unfold aB at h h';rw[h] at h';injection h' with h'
 injection h' with h1 h2 h3
theorem qJ {g:Nat} {t:TypeId} {cs:Array Value} (h:aB w g t cs) (h':w.ownsRow base' e' s' v' n' xs') (hne:t≠e') (k:Ext (aj [v'.ownBlock]) w w'):aB w' g t cs:=
 h.ext k fun hx=>by
  obtain ⟨c2,h2⟩:=jE h' (uY hx);exact hne (zO h h2)
theorem zlk {g:Nat} {t:TypeId} {cs:Array Value} (h:w.ownsRow base e s v n xs) (h':aB w g t cs) (hne:e≠t) (k:Ext (aj [some g]) w w'):w'.ownsRow base e s v n xs:=
 ZY h k fun g' hg hx=>by
  obtain ⟨c1,h1⟩:=jE h hg;obtain rfl:g'=g:=oO hx;exact hne (zO h1 h')
end
section
variable {P:Program} {N:Nat} {ops:Array Oper} {Q:Exit→Act→World→Prop} {σ:Env} {w:World} {ty:TypeId} {pos:String} {af:Array Edge} {dst:Option Nat} {Post:Value→World→Prop}
theorem FQ {T e:TypeId} {x y:Operand} {z:Value} {size bytes base n n' B m c:Nat} {v:Value} {xs news xs':List Value} {A:Option Addr} (hd:P.underlying T=some (.slice e)) (hi:uM P e z size bytes) (hzs:z.cells.size=size) (hsz:0<size)
 (hx:ev σ x=some v) (hown:w.ownsRow base e size v n xs) (hy:ev σ y=some (.slice A m c)) (hr:vsz w B size A m news) (h1:∀u∈news,u.oneCell'=true) (hn:n+m=n') (hxs:xs++news=xs') (h63:n'≤maxLen) (hbytes:n'*bytes≤140737488355328) (hbase:base≤w.heap.size)
 (k:∀A' c' w',w'.ownsRow base e size (.slice A' n' c') n' xs'→Ext (aj [v.ownBlock]) w w'→(∀k,(Value.slice A' n' c').ownBlock=some k→v.ownBlock=some k∨w.heap.size≤k)→Post (.slice A' n' c') w'):OW P N ops Q ⟨dst,.call ⟨.builtin .append,#[x,y],#[T,T]⟩,ty,pos,af,none⟩ σ w Post:=by
 subst hn hxs;refine vkx hd hi hzs hsz hx hown hy hr h1 h63 hbytes hbase fun v' w' g1 g2 g3=>?_;obtain ⟨A',c',rfl⟩:=zzv g1;exact k A' c' w' g1 g2 g3
end
section
variable {P:Program} {N:Nat} {ops:Array Oper} {Q:Exit→Act→World→Prop} {σ:Env} {w:World} {ty:TypeId} {pos:String} {af:Array Edge} {dst:Option Nat} {Post:Value→World→Prop}
end
class nV (P:Program) (T:TypeId) (d:outParam TypeDesc):Prop where h:P.underlying T=some d
class Szc (P:Program) (T:TypeId) (n:outParam Nat):Prop where h:vc P T n
class Zc (P:Program) (T:TypeId) (l:outParam (List (Nat×Nat))):Prop where h:P6 P T l
theorem zS {α β:Type} {g:α→Option β}:∀ {l:List α} {pl:List β} {i:Nat} {y:β},l.mapM g=some pl→pl[i]? =some y→ ∃x,l[i]? =some x∧g x=some y
 | [],pl,i,y,h,hi=>by
  rw[List.mapM_nil] at h;cases h
  cases hi
 | a::l,pl,i,y,h,hi=>by
  rw[List.mapM_cons] at h;cases ha:g a with
  | none=>rw[ha] at h;cases h
  | some b=>
   cases hl:l.mapM g with
   | none=>rw[ha,hl] at h;cases h
   | some bs=>
    rw[ha,hl] at h;cases h
    cases i with
    | zero=>exact ⟨a,rfl,ha.trans hi⟩
    | succ i=>exact zS (i:=i) hl hi
theorem Mf {P:Program} {N:Nat} {ops:Array Oper} {Q:Exit→Act→World→Prop} {dst:Option Nat} {ty:TypeId} {pos:String} {af:Array Edge} {σ:Env} {w:World} {Post:Value→World→Prop} {S:TypeId} {x:Operand} {i g o n q:Nat} {pl:List (Nat×Nat)} (hp:P6 P S pl) (hf:pl[i]? =some (q,n)) (hn:n≠0) (hx:ev σ x=some (.pointer (some ⟨g,o,none⟩)))
 (k:Post (.pointer (some ⟨g,o+q,none⟩)) w):OW P N ops Q ⟨dst,.fieldAddr S x i,ty,pos,af,none⟩ σ w Post:=by
 obtain ⟨fs,hd,hm⟩:=hp;obtain ⟨f,h1,h2⟩:=zS hm hf;cases hi:P.info? f.type with
 | none=>rw[hi] at h2;cases h2
 | some j=>
  rw[hi] at h2;cases h2
  exact uJ hd ((Array.getElem?_toList ..).symm.trans h1) (show (P.info? f.type).map (·.size)=some j.size by rw[hi];rfl) hn hx k
theorem bfd {P:Prop} (h:P:=by
 first | assumption | (have H:=(HF.on E).here;repeat first | exact H.2 | replace H:=H.1)):P:=h
def ao7 (p q:IntKind):Bool:=if p=q then true else false
def ao8 (o:BinOp) (m n:Int):Option Value:=match o with
 | .eql=>some (.bool (m==n))
 | .neq=>some (.bool (m !=n))
 | .lss=>some (.bool (decide (m<n)))
 | .leq=>some (.bool (decide (m≤n)))
 | .gtr=>some (.bool (decide (n<m)))
 | .geq=>some (.bool (decide (n≤m)))
 | _=>none
def ao9 (o:BinOp) (m n:ByteArray):Option Value:=match o with
 | .eql=>some (.bool (m.toList==n.toList))
 | .neq=>some (.bool (!(m.toList==n.toList)))
 | _=>none
def zT (σ:Env):Op→Option Value
 | .move x=>ev σ x
 | .assign x=>ev σ x
 | .pick c x y=>match ev σ c with
  | some (.bool true)=>ev σ x
  | some (.bool false)=>ev σ y
  | _=>none
 | .extract x i=>match ev σ x with
  | some (.tuple vs)=>vs[i]?
  | _=>none
 | .nilCheck x=>match ev σ x with
  | some (.pointer (some a))=>some (.pointer (some a))
  | _=>none
 | .unOp .not _ x=>match ev σ x with
  | some (.bool b)=>some (.bool (!b))
  | _=>none
 | .binOp o _ x y _=>match ev σ x,ev σ y with
  | some (.int q m),some (.int q' n)=>match ao7 q q' with
   | true=>ao8 o m n
   | false=>none
  | some (.string m),some (.string n)=>ao9 o m n
  | _,_=>none
 | _=>none
def Rx (ops:Array Oper) (σ:Env) (op:Op):Option (Nat×Bool)→Option Value
 | none=>zT σ op
 | some (j,b)=>match gv ops σ j with
  | some v=>match isB v with
   | some true=>match b with
    | true=>zT σ op
    | false=>some undef
   | some false=>match b with
    | true=>some undef
    | false=>zT σ op
   | none=>some undef
  | none=>none
section
variable {P:Program} {N:Nat} {ops:Array Oper} {Q:Exit→Act→World→Prop} {dst:Option Nat} {ty:TypeId} {pos:String} {af:Array Edge} {σ:Env} {w:World} {Post:Value→World→Prop}
theorem vC {op:Op} {v:Value} (h:zT σ op=some v) (k:Post v w):OW P N ops Q ⟨dst,op,ty,pos,af,none⟩ σ w Post:=by
 unfold zT at h;split at h
 · exact qhx h k
 · exact vjv h k
 · split at h
   · exact QJ (by assumption) h k
   · exact QK (by assumption) h k
   · cases h
 · split at h
   · exact kj (by assumption) h k
   · cases h
 · split at h
   · cases h;exact y8 (by assumption) k
   · cases h
 · split at h
   · cases h;exact av2 (by assumption) k
   · cases h
 · rename_i o T x y U
   split at h
   · rename_i q m q' n hx hy
     unfold ao7 at h;by_cases hq:q=q'
     · subst hq;rw[if_pos rfl] at h;cases o<;>simp only[ao8] at h<;>first | (cases h;done) | (cases h;first | exact Fw hx hy k | exact av3 hx hy k | exact QL hx hy k | exact av4 hx hy k | exact uE hx hy k | exact QM hx hy k)
     · rw[if_neg hq] at h;cases h
   · rename_i m n hx hy
     cases o<;>simp only[ao9] at h<;>first | (cases h;done) | (cases h;first | exact JE hx hy k | exact qgv hx hy k)
   · cases h
 · cases h
theorem vD {j:Nat} {v:Value} {b:Bool} (h:gv ops σ j=some v) (hb:isB v=some b):gd ops σ j=some b:=by
 unfold gv at h;unfold gd;cases ho:(ops[j]?).bind (·.dst) with
 | none=>rw[ho] at h;cases h
 | some t=>
  simp only[ho] at h ⊢
  rw[h];cases v<;>first | (cases hb;done) | (cases hb;rfl)
theorem zU {op:Op} {g:Option (Nat×Bool)} {v:Value} (h:Rx ops σ op g=some v) (k:Post v w):OW P N ops Q ⟨dst,op,ty,pos,af,g⟩ σ w Post:=by
 cases g with
 | none=>exact vC h k
 | some jb=>
  obtain ⟨j,b⟩:=jb;unfold Rx at h;dsimp only at h
  cases hu:gv ops σ j with
  | none=>rw[hu] at h;cases h
  | some u=>
   rw[hu] at h;cases hb:isB u with
   | none=>simp only[hb] at h;cases h;exact ZI hu hb k
   | some c=>
    simp only[hb] at h
    cases c<;>cases b
    · exact xt (vD hu hb) (vC h k)
    · cases h;exact QI (vD hu hb) k
    · cases h;exact QI (vD hu hb) k
    · exact xt (vD hu hb) (vC h k)
theorem aa0 {d:Nat} {op:Op} {g:Option (Nat×Bool)} {rest:List Oper} {v:Value} (h:Rx ops σ op g=some v) (hd:Nat.blt d N=true) (k:RS P N ops Q rest ((d,v)::σ) w):RS P N ops Q (⟨some d,op,ty,pos,af,g⟩::rest) σ w:=za hd (zU h k)
theorem aa1 {fn:Func} {a:Tmp} {v:Value} {R:Ending→World→Prop} (hr:fn.results= #[.tmp a]) (ha:lk a σ=some v) (k:R (.returned (FD [v])) w):EW N (bodyPost P fn R) .ret σ w:=ks (rs:=[.tmp a]) (vs:=[v]) hr ⟨ha,trivial⟩ k
theorem aa2 {fn:Func} {a b:Tmp} {v u:Value} {R:Ending→World→Prop} (hr:fn.results= #[.tmp a,.tmp b]) (ha:lk a σ=some v) (hb:lk b σ=some u) (k:R (.returned (FD [v,u])) w):EW N (bodyPost P fn R) .ret σ w:=ks (rs:=[.tmp a,.tmp b]) (vs:=[v,u]) hr ⟨ha,hb,trivial⟩ k
theorem aa3 {fn:Func} {a b:Tmp} {T T':TypeId} {d:TypeDesc} {g n:Nat} {cs:Array Value} {u:Value} {R:Ending→World→Prop} (hr:fn.results= #[.cell a T,.tmp b]) (ha:lk a σ=some (.pointer (some ⟨g,0,none⟩))) (hd:P.underlying T=some d) (hp:TypeDesc.plain d=false) (hs:vc P T n) (hk:aB w g T' cs) (hn:cs.size=n) (hb:lk b σ=some u) (k:R (.returned (FD [.agg cs,u])) w):EW N (bodyPost P fn R) .ret σ w:=ks (rs:=[.cell a T,.tmp b]) (vs:=[.agg cs,u]) hr ⟨⟨_,ha,ypq hd hp hs hk hn⟩,hb,trivial⟩ k
theorem jq {t:Tmp} {x y:Code} {b:Bool} (hc:lk t σ=some (.bool b)) (ht:b=true→CW P N x Q ((t,.bool true)::σ) w) (hf:b=false→CW P N y Q ((t,.bool false)::σ) w):CW P N (.cond (.tmp t) x y) Q σ w:=zf hc (fun h=>yr t _ hc (congrArg Value.bool h) (ht h)) (fun h=>yr t _ hc (congrArg Value.bool h) (hf h))
def OWD (P:Program) (N:Nat) (ops:Array Oper) (Q:Exit→Act→World→Prop) (o:Oper) (τ:Env) (w:World) (Post:Value→World→Prop) (F:Nat→Fx) (vs:Nat→Value) (X:Nat→Prop) (l:List Nat):Prop:=(∀j∈l,Left X w (F j) (vs j))→OW P N ops Q o τ w Post
theorem RA {o:Oper} {F:Nat→Fx} {vs:Nat→Value} {X:Nat→Prop} {l:List Nat} {τ:Env} (h:∀j∈l,Left X w (F j) (vs j)) (k:OWD P N ops Q o τ w Post F vs X l):OW P N ops Q o τ w Post:=k h
theorem JM {o:Oper} {F:Nat→Fx} {vs:Nat→Value} {X:Nat→Prop} {τ:Env} (k:OW P N ops Q o τ w Post):OWD P N ops Q o τ w Post F vs X []:=fun _=>k
theorem zV {o:Oper} {F:Nat→Fx} {vs:Nat→Value} {X:Nat→Prop} {l:List Nat} {j:Nat} {τ:Env} (k:OWD P N ops Q o τ w Post F vs X l):OWD P N ops Q o τ w Post F vs X (j::l):=fun h=>k fun i hi=>h i (List.mem_cons_of_mem _ hi)
theorem zW {o:Oper} {F:Nat→Fx} {vs:Nat→Value} {X:Nat→Prop} {l:List Nat} {j:Nat} {τ:Env} {u:Value} {t:Tmp} (he:F j=Fx.of u) (_:y9 ops j=some t) (hl:lk t τ=some (vs j)) (k:OWD P N ops Q o ((t,u)::τ) w Post F vs X l):OWD P N ops Q o τ w Post F vs X (j::l):=fun h=>by
 have hj:=h j (List.mem_cons_self ..);rw[he] at hj;obtain ⟨_,e,_⟩:=hj;exact qq t u hl e (k fun i hi=>h i (List.mem_cons_of_mem _ hi))
theorem Known.all {bs:List Bx} {os:List Ox} {F:Nat→Fx} {w0:World} {vs:Nat→Value} {X:Nat→Prop} {i:Nat} (K:Known ops bs os F w0 vs X w i):∀j∈(jj ops i).filter fun j=>(p8 bs j).isNone&&(oq bs j).isNone,Left X w (F j) (vs j):=fun j hj=>by
 obtain ⟨h1,h2⟩:=List.mem_filter.1 hj;rw[Bool.and_eq_true,Option.isNone_iff_eq_none,Option.isNone_iff_eq_none] at h2;exact K.2.2 j h1 h2.1 h2.2
@[reducible] def aF (w:World) (v:Value) (e:Ending) (w':World):Prop:=e= .returned v∧Below w.heap.size w w'
theorem wk0 (w:World):Per (No) w (fun _=>True)∧Ext No w w∧(∀q9,(No) q9→(No) q9∨w.heap.size≤q9)∧Ext No w w:=⟨Per.yZ,Ext.refl _ _,fun _ h=>Or.inl h,Ext.refl _ _⟩
theorem frz {Y:Nat→Prop} {F:World→Prop} {w0 a w':World} {g:Nat} {T:TypeId} {cs:Array Value} (HF:Per No a F) (LW:Ext Y w0 a) (E:Ext No a w) (X:∀i,No i→Y i∨w0.heap.size≤i) (B:aB w' g T cs) (e:Ext No w w'):Per No w' (fun b=>F b∧aB b g T cs)∧Ext Y w0 w'∧Ext No w' w':=⟨(HF.on (E.trans e)).and (Per.bH B au.nil),LW.step (E.trans e) X,Ext.refl _ _⟩
theorem gI {l:List (Option Nat)} {Y:Nat→Prop} {F:World→Prop} {w0 a w':World} {g:Nat} (HF:Per (aj l) a F) (LW:Ext Y w0 a) (E:Ext (aj l) a w) (X:∀i,aj l i→Y i∨w0.heap.size≤i) (e:Ext No w w') (G:w.heap.size≤g):a.heap.size≤g∧Per (aj (some g::l)) a F∧Ext (aj (some g::l)) a w'∧ ∀k,aj (some g::l) k→Y k∨w0.heap.size≤k:=by
 have h:=Nat.le_trans E.size G;exact ⟨h,HF.cons (gu h),(E.trans e.no).cons (some g),aj.grow X (fun k q=>Or.inr (Nat.le_trans LW.size ((gu h) k q)))⟩
theorem d9 {X Y Z:Nat→Prop} {F G:World→Prop} {w0 a:World} (HF:Per X a F) (LW:Ext Z w0 a) (E:Ext X a w) (XL:∀i,X i→Z i∨w0.heap.size≤i) (SB:∀i,Y i→X i) (f:Per Y w G):Per Y w (fun b=>F b∧G b)∧Ext Z w0 w∧(∀i,Y i→Z i∨w0.heap.size≤i)∧Ext Y w w:=⟨((HF.on E).less SB).and f,LW.step E XL,fun k h=>XL k (SB k h),Ext.refl _ _⟩
theorem dG {X Z:Nat→Prop} {F G:World→Prop} {w0 a:World} (HF:Per X a F) (LW:Ext Z w0 a) (E:Ext X a w) (XL:∀i,X i→Z i∨w0.heap.size≤i) (f:Per X w G):Per X w (fun b=>F b∧G b)∧Ext Z w0 w∧Ext X w w:=⟨(HF.on E).and f,LW.step E XL,Ext.refl _ _⟩
def onG (ops:Array Oper) (σ:Env):Option (Nat×Bool)→Bool
 | none=>true
 | some (j,b)=>match gd ops σ j with
  | some true=>b
  | some false=>!b
  | none=>false
theorem vjz {op:Op} {g:Option (Nat×Bool)} (hg:onG ops σ g=true) (h:OW P N ops Q ⟨dst,op,ty,pos,af,none⟩ σ w Post):OW P N ops Q ⟨dst,op,ty,pos,af,g⟩ σ w Post:=by
 cases g with
 | none=>exact h
 | some jb=>
  obtain ⟨j,b⟩:=jb;unfold onG at hg;dsimp only at hg
  cases hd:gd ops σ j with
  | none=>rw[hd] at hg;cases hg
  | some c=>
   rw[hd] at hg;refine xt ?_ h;rw[hd];cases c<;>cases b<;>first | rfl | cases hg
section
variable {d:Nat} {f:FuncId} {xs:List Operand} {ts:Array TypeId} {args:List Value} {Qa:Option (Nat×Bool)} {rest:List Oper} {X Y:Nat→Prop} {F:World→Prop} {w0 a:World}
theorem zb {v:Value} (hf:yc P f) (h:Calls P f args.toArray w fun e w'=>e= .returned v∧Below w.heap.size w w') (E:Ext X a w) (k:∀w',Ext X a w'→RS P N ops Q rest ((d,v)::σ) w') (hd:Nat.blt d N=true:=by exact rfl) (ha:evs σ xs=some args:=by exact rfl) (hg:onG ops σ Qa=true:=by exact rfl):RS P N ops Q (⟨some d,.call ⟨.value (.func f),xs.toArray,ts⟩,ty,pos,af,Qa⟩::rest) σ w:=za hd (vjz hg (ze hf ha (h.mono fun _ w' ⟨e,hb⟩=>⟨v,e,k w' (yK E hb)⟩)))
theorem zh {v:Value} {g:Nat} {T:TypeId} {cs:Array Value} (hf:yc P f) (h:Calls P f args.toArray w fun e w'=>e= .returned v∧Below w.heap.size w w') (E:Ext X a w) (B:aB w g T cs) (k:∀w',Ext X a w'→aB w' g T cs→RS P N ops Q rest ((d,v)::σ) w') (hd:Nat.blt d N=true:=by exact rfl) (ha:evs σ xs=some args:=by exact rfl) (hg:onG ops σ Qa=true:=by exact rfl):RS P N ops Q (⟨some d,.call ⟨.value (.func f),xs.toArray,ts⟩,ty,pos,af,Qa⟩::rest) σ w:=za hd (vjz hg (ze hf ha (h.mono fun _ w' ⟨e,hb⟩=>⟨v,e,k w' (yK E hb) (B.aG (Ext.of_below hb No) au.nil)⟩)))
theorem RB {v:Value} {g g':Nat} {T T':TypeId} {cs cs':Array Value} (hf:yc P f) (h:Calls P f args.toArray w fun e w'=>e= .returned v∧Below w.heap.size w w') (E:Ext X a w) (B:aB w g T cs) (B':aB w g' T' cs') (k:∀w',Ext X a w'→aB w' g T cs→aB w' g' T' cs'→RS P N ops Q rest ((d,v)::σ) w') (hd:Nat.blt d N=true:=by exact rfl) (ha:evs σ xs=some args:=by exact rfl) (hg:onG ops σ Qa=true:=by exact rfl):RS P N ops Q (⟨some d,.call ⟨.value (.func f),xs.toArray,ts⟩,ty,pos,af,Qa⟩::rest) σ w:=za hd (vjz hg (ze hf ha (h.mono fun _ w' ⟨e,hb⟩=>⟨v,e,k w' (yK E hb) (B.aG (Ext.of_below hb No) au.nil) (B'.aG (Ext.of_below hb No) au.nil)⟩)))
theorem zzz {v:Option Addr→Nat→Value} {O G:Option Addr→Nat→World→Prop} (hf:yc P f) (h:Calls P f args.toArray w fun e w'=>∃A c,e= .returned (v A c)∧O A c w'∧Below w.heap.size w w') (HF:Per X a F) (LW:Ext Y w0 a) (E:Ext X a w) (XL:∀i,X i→Y i∨w0.heap.size≤i) (p:∀ {A c w'},O A c w'→Per X w' (G A c)) (k:∀A c w',Per X w' (fun b=>F b∧G A c b)→Ext Y w0 w'→Ext X w' w'→RS P N ops Q rest ((d,v A c)::σ) w') (hd:Nat.blt d N=true:=by exact rfl) (ha:evs σ xs=some args:=by exact rfl) (hg:onG ops σ Qa=true:=by exact rfl):RS P N ops Q (⟨some d,.call ⟨.value (.func f),xs.toArray,ts⟩,ty,pos,af,Qa⟩::rest) σ w:=za hd (vjz hg (ze hf ha (h.mono fun _ w' ⟨A,c,e,o,hb⟩=>⟨v A c,e,k A c w' ((HF.on (yK E hb)).and (p o)) (LW.step (yK E hb) XL) (Ext.refl _ _)⟩)))
theorem vv {v:Option Addr→Nat→Value} {O G:Option Addr→Nat→World→Prop} {g:Nat} {T:TypeId} {cs:Array Value} (hf:yc P f) (h:Calls P f args.toArray w fun e w'=>∃A c,e= .returned (v A c)∧O A c w'∧Below w.heap.size w w') (HF:Per X a F) (LW:Ext Y w0 a) (E:Ext X a w) (XL:∀i,X i→Y i∨w0.heap.size≤i) (p:∀ {A c w'},O A c w'→Per X w' (G A c)) (B:aB w g T cs) (k:∀A c w',Per X w' (fun b=>F b∧G A c b)→Ext Y w0 w'→Ext X w' w'→aB w' g T cs→RS P N ops Q rest ((d,v A c)::σ) w') (hd:Nat.blt d N=true:=by exact rfl) (ha:evs σ xs=some args:=by exact rfl) (hg:onG ops σ Qa=true:=by exact rfl):RS P N ops Q (⟨some d,.call ⟨.value (.func f),xs.toArray,ts⟩,ty,pos,af,Qa⟩::rest) σ w:=za hd (vjz hg (ze hf ha (h.mono fun _ w' ⟨A,c,e,o,hb⟩=>⟨v A c,e,k A c w' ((HF.on (yK E hb)).and (p o)) (LW.step (yK E hb) XL) (Ext.refl _ _) (B.aG (Ext.of_below hb No) au.nil)⟩)))
theorem zX {v:Option Addr→Nat→Value} {O G:Option Addr→Nat→World→Prop} {g g':Nat} {T T':TypeId} {cs cs':Array Value} (hf:yc P f) (h:Calls P f args.toArray w fun e w'=>∃A c,e= .returned (v A c)∧O A c w'∧Below w.heap.size w w') (HF:Per X a F) (LW:Ext Y w0 a) (E:Ext X a w) (XL:∀i,X i→Y i∨w0.heap.size≤i) (p:∀ {A c w'},O A c w'→Per X w' (G A c)) (B:aB w g T cs) (B':aB w g' T' cs') (k:∀A c w',Per X w' (fun b=>F b∧G A c b)→Ext Y w0 w'→Ext X w' w'→aB w' g T cs→aB w' g' T' cs'→RS P N ops Q rest ((d,v A c)::σ) w') (hd:Nat.blt d N=true:=by exact rfl) (ha:evs σ xs=some args:=by exact rfl) (hg:onG ops σ Qa=true:=by exact rfl):RS P N ops Q (⟨some d,.call ⟨.value (.func f),xs.toArray,ts⟩,ty,pos,af,Qa⟩::rest) σ w:=za hd (vjz hg (ze hf ha (h.mono fun _ w' ⟨A,c,e,o,hb⟩=>⟨v A c,e,k A c w' ((HF.on (yK E hb)).and (p o)) (LW.step (yK E hb) XL) (Ext.refl _ _) (B.aG (Ext.of_below hb No) au.nil) (B'.aG (Ext.of_below hb No) au.nil)⟩)))
theorem zg {T:TypeId} {x:Operand} {v:Value} (HF:Per No a F) (LW:Ext Y w0 a) (E:Ext No a w) (XL:∀i,No i→Y i∨w0.heap.size≤i) (k:∀g w',Per No w' (fun b=>F b∧aB b g T v.cells)→Ext Y w0 w'→Ext No w' w'→RS P N ops Q rest ((d,.pointer (some ⟨g,0,none⟩))::σ) w') (hd:Nat.blt d N=true:=by exact rfl) (hx:ev σ x=some v:=by exact rfl):RS P N ops Q (⟨some d,.box T x,ty,pos,af,none⟩::rest) σ w:=za hd (yqx hx fun g w' B e _=>by
 obtain ⟨h1,h2,h3⟩:=frz HF LW E XL B e;exact k g w' h1 h2 h3)
theorem yb {l:List (Option Nat)} {T:TypeId} {z:Value} (hz:y5 P T z) (HF:Per (aj l) a F) (LW:Ext Y w0 a) (E:Ext (aj l) a w) (XL:∀i,aj l i→Y i∨w0.heap.size≤i) (k:∀g w',aB w' g T z.cells→a.heap.size≤g→Per (aj (some g::l)) a F→Ext (aj (some g::l)) a w'→(∀i,aj (some g::l) i→Y i∨w0.heap.size≤i)→RS P N ops Q rest ((d,.pointer (some ⟨g,0,none⟩))::σ) w') (hd:Nat.blt d N=true:=by exact rfl):RS P N ops Q (⟨some d,.alloc T,ty,pos,af,none⟩::rest) σ w:=za hd (kt hz fun g w' B e G=>by
 obtain ⟨h1,h2,h3,h4⟩:=gI HF LW E XL e G;exact k g w' B h1 h2 h3 h4)
theorem yi {T T':TypeId} {x y:Operand} {g n:Nat} {cs cs':Array Value} (hs:vc P T n) (hb:aB w g T' cs) (E:Ext X a w) (hm:∀i,some g=some i→X i) (k:∀w',aB w' g T' cs'→Ext X a w'→RS P N ops Q rest σ w') (hx:ev σ x=some (.pointer (some ⟨g,0,none⟩)):=by exact rfl) (hy:ev σ y=some (.agg cs'):=by exact rfl) (hc:(Value.agg cs').cells=cs':=by exact rfl) (hn:cs'.size=n:=by exact rfl) (h1:QT cs'.toList=true:=by exact rfl) (hle:n=cs.size:=by exact rfl):RS P N ops Q (⟨none,.store T x y,ty,pos,af,none⟩::rest) σ w:=yj (by
 have h:=qyx (P:=P) (N:=N) (ops:=ops) (Q:=Q) (dst:=none) (ty:=ty) (pos:=pos) (af:=af) (Post:=fun _ w'=>RS P N ops Q rest σ w') hs hx hy hb (by rw[hc];exact hn) (by rw[hc];exact h1) (Nat.ble_eq_true_of_le om) (fun w' hb' he _=>k w' (by rw[hc,qlv _ _ (by rw[Array.length_toList];omega)] at hb';simpa using hb') (E.step1 he.one hm));exact h)
theorem vE {T T':TypeId} {z:Value} {y:Operand} {n:Nat} {cs':Array Value} {ty':TypeId} {pos':String} {af':Array Edge} (hz:y5 P T z) (hs:vc P T' n) (HF:Per No a F) (LW:Ext Y w0 a) (E:Ext No a w) (XL:∀i,No i→Y i∨w0.heap.size≤i) (k:∀g w',Per No w' (fun b=>F b∧aB b g T cs')→Ext Y w0 w'→(∀i,No i→Y i∨w0.heap.size≤i)→Ext No w' w'→RS P N ops Q rest ((d,.pointer (some ⟨g,0,none⟩))::σ) w') (hd:Nat.blt d N=true:=by exact rfl) (hy:∀g,ev ((d,.pointer (some ⟨g,0,none⟩))::σ) y=some (.agg cs'):=by exact fun _=>rfl) (hc:(Value.agg cs').cells=cs':=by exact rfl) (hn:cs'.size=n:=by exact rfl) (h1:QT cs'.toList=true:=by exact rfl) (hle:n=z.cells.size:=by exact rfl):RS P N ops Q (⟨some d,.alloc T,ty,pos,af,none⟩:: ⟨none,.store T' (.tmp d) y,ty',pos',af',none⟩::rest) σ w:=yb hz HF LW E XL (fun g w' B G HF E XL=>yi hs B E aj.head (fun w2 B E=>by
 obtain ⟨h2,h3,h4,h5⟩:=d9 HF LW E XL (Y:=No) (aj.skip aj.bI) (Per.bH B au.nil);exact k g w2 h2 h3 h4 h5) (by show lk d _=_;rw[ow,if_pos rfl]) (hy g) hc hn h1 hle) hd
theorem zj {f:FuncId} {fn:Func} {c:Code} {args:List Value} {R:Ending→World→Prop} (hf:P.funcs[f]? =some fn) (hN:fn.ntmps=N) (k:Per No w (fun _=>True)→Ext No w w→(∀q9,No q9→No q9∨w.heap.size≤q9)→Ext No w w→CW P N c (bodyPost P fn R) (vbk 0 args) w) (hb:fn.body=some c:=by exact rfl) (hl:Nat.ble args.length N=true:=by exact rfl):Calls P f args.toArray w R:=zd hf hb hN hl (k (wk0 w).1 (wk0 w).2.1 (wk0 w).2.2.1 (wk0 w).2.2.2)
theorem aP {Z:Nat→Prop} (LW:Ext No w0 a) (E:Ext Z a w) (XL:∀i,Z i→No i∨w0.heap.size≤i):Below w0.heap.size w0 w:=(LW.step E XL).toBelow
theorem qm {c:Code} (t:Nat) {b:Bool} (h:lk t σ=some (.bool b)) (e:Value.bool b= .bool true) (k:CW P N c Q ((t,.bool true)::σ) w):CW P N c Q σ w:=yr t _ h e k
theorem zw {c:Code} (t:Nat) {b:Bool} (h:lk t σ=some (.bool b)) (e:Value.bool b= .bool false) (k:CW P N c Q ((t,.bool false)::σ) w):CW P N c Q σ w:=yr t _ h e k
theorem vf {l:List Oper} (t:Nat) {b:Bool} (h:lk t σ=some (.bool b)) (e:Value.bool b= .bool true) (k:RS P N ops Q l ((t,.bool true)::σ) w):RS P N ops Q l σ w:=zk t _ h e k
theorem yu {l:List Oper} (t:Nat) {b:Bool} (h:lk t σ=some (.bool b)) (e:Value.bool b= .bool false) (k:RS P N ops Q l ((t,.bool false)::σ) w):RS P N ops Q l σ w:=zk t _ h e k
end
theorem aa4 {l:List Oper} (k:RS P N ops Q l σ w):RS P N ops Q l σ w:=k
theorem aa5 {c:Code} (k:CW P N c Q σ w):CW P N c Q σ w:=k
end
theorem sw {A B:Prop} (q:A) (h:A→B:=by intro q;simp[q]):B:=h q
theorem ax2 {P Q:Prop} (k:Q) (h:(Unit→Q)→P:=by
 intro k;first
 | (refine' Mf ?RD ?RF ?zgd ?zge (k ());(case RD=>exact Zc.h);(case RF=>rfl);(case zgd=>decide);case zge=>rfl)
 | (refine' yd ?RD ?zgp ?RF ?zgc ?zgd (k ());(case RD=>exact nV.h);(case zgp=>rfl);(case RF=>rfl);(case zgc=>exact bfd);case zgd=>rfl)
 | (refine' qyq ?RD ?zgp ?zgs ?RF ?zgc ?zgd (k ());(case RD=>exact nV.h);(case zgp=>rfl);(case zgs=>exact Szc.h);(case RF=>rfl);(case zgc=>exact bfd);case zgd=>rfl)
 | (refine' jo ?RD ?zgp ?RF ?zgc (k ());(case RD=>exact nV.h);(case zgp=>rfl);(case RF=>rfl);case zgc=>exact bfd)
 | (refine' av6 ?RD ?RF (k ());(case RD=>exact nV.h);case RF=>rfl)):P:=h fun _=>k
theorem arm {P:Prop} (h:P:=by
 intro vs X wq K;refine RA K.all ?_;(repeat first | refine zW rfl rfl rfl ?_ | refine zV ?_)
 refine JM ?_;first
 | exact zU rfl ⟨Below.refl _ _,Left.of rfl⟩
 | ((try have E:=E.drew.trans (K.1.mono OY));(try refine xt rfl ?_);refine ax2 ?_;exact ⟨Below.refl _ _,Left.of rfl⟩)):P:=h
theorem yx {Kn Q:(Nat→Value)→(Nat→Prop)→World→Prop} {P:Prop} (k:∀vs X w,Kn vs X w→Q vs X w) (h:(Unit→ ∀vs X w,Kn vs X w→Q vs X w)→P:=by
 intro zK vs X wq K;refine RA K.all ?_;(repeat first | refine zW rfl rfl rfl ?_ | refine zV ?_)
 refine JM ?_;exact zK () vs X wq K):P:=h fun _=>k
theorem aK {P Q:Prop} (k:Q) (h:(Unit→Q)→P:=by
 intro k;first
 | (refine aa4 ?_;first | exact Fv (k ()) | exact aa0 rfl rfl (k ()) | (refine za rfl ?_;first | exact ax2 (k ()) | (refine xt rfl ?_;exact ax2 (k ()))))
 | (refine aa5 ?_;first | exact QG (k ()) | exact pY (k ()) | exact ZF rfl (k ()) | exact ZG rfl (k ()) | exact ZC (k ()) | exact av1 (k ()) | exact QH (k ()) | exact ZE (k ()) | exact ZX (k ()))
 | exact uq (k ())
 | exact aa1 rfl rfl (k ())
 | exact aa2 rfl rfl rfl (k ())
 | (refine' aa3 rfl rfl ?RD ?zgp ?zgs ?zgc ?zgn ?RF (k ());(case RD=>exact nV.h);(case zgp=>rfl);(case zgs=>exact Szc.h);(case zgc=>exact bfd);(case zgn=>rfl);case RF=>rfl)
 | exact yX (k ())
 | exact uw (k ())
 | exact uX (k ())
 | exact uy (k ())
 | exact gU (k ())
 | exact oI (k ())):P:=h fun _=>k
section
variable {P Q:Prop} (k:Q)
include k
theorem zi (h:(Unit→Q)→P:=by intro k;(iterate 2 refine aK ?_);exact k ()):P:=h fun _=>k
theorem zr (h:(Unit→Q)→P:=by intro k;(iterate 3 refine aK ?_);exact k ()):P:=h fun _=>k
theorem ye (h:(Unit→Q)→P:=by intro k;(iterate 4 refine aK ?_);exact k ()):P:=h fun _=>k
theorem zn (h:(Unit→Q)→P:=by intro k;(iterate 5 refine aK ?_);exact k ()):P:=h fun _=>k
theorem zo (h:(Unit→Q)→P:=by intro k;(iterate 6 refine aK ?_);exact k ()):P:=h fun _=>k
theorem zp (h:(Unit→Q)→P:=by intro k;(iterate 7 refine aK ?_);exact k ()):P:=h fun _=>k
theorem yk (h:(Unit→Q)→P:=by intro k;(iterate 8 refine aK ?_);exact k ()):P:=h fun _=>k
theorem qc (h:(Unit→Q)→P:=by intro k;(iterate 9 refine aK ?_);exact k ()):P:=h fun _=>k
theorem zv (h:(Unit→Q)→P:=by intro k;(iterate 10 refine aK ?_);exact k ()):P:=h fun _=>k
theorem yv (h:(Unit→Q)→P:=by intro k;(iterate 11 refine aK ?_);exact k ()):P:=h fun _=>k
theorem vp (h:(Unit→Q)→P:=by intro k;(iterate 12 refine aK ?_);exact k ()):P:=h fun _=>k
theorem ja (h:(Unit→Q)→P:=by intro k;(iterate 13 refine aK ?_);exact k ()):P:=h fun _=>k
theorem kh (h:(Unit→Q)→P:=by intro k;(iterate 14 refine aK ?_);exact k ()):P:=h fun _=>k
theorem xf (h:(Unit→Q)→P:=by intro k;(iterate 15 refine aK ?_);exact k ()):P:=h fun _=>k
theorem nW (h:(Unit→Q)→P:=by intro k;(iterate 16 refine aK ?_);exact k ()):P:=h fun _=>k
theorem ou (h:(Unit→Q)→P:=by intro k;(iterate 17 refine aK ?_);exact k ()):P:=h fun _=>k
theorem yN (h:(Unit→Q)→P:=by intro k;(iterate 18 refine aK ?_);exact k ()):P:=h fun _=>k
theorem jI (h:(Unit→Q)→P:=by intro k;(iterate 19 refine aK ?_);exact k ()):P:=h fun _=>k
theorem quv (h:(Unit→Q)→P:=by intro k;(iterate 20 refine aK ?_);exact k ()):P:=h fun _=>k
theorem qN (h:(Unit→Q)→P:=by intro k;(iterate 21 refine aK ?_);exact k ()):P:=h fun _=>k
theorem jJ (h:(Unit→Q)→P:=by intro k;(iterate 22 refine aK ?_);exact k ()):P:=h fun _=>k
theorem Qc (h:(Unit→Q)→P:=by intro k;(iterate 23 refine aK ?_);exact k ()):P:=h fun _=>k
theorem JN (h:(Unit→Q)→P:=by intro k;(iterate 24 refine aK ?_);exact k ()):P:=h fun _=>k
theorem aoq (h:(Unit→Q)→P:=by intro k;(iterate 25 refine aK ?_);exact k ()):P:=h fun _=>k
theorem JO (h:(Unit→Q)→P:=by intro k;(iterate 26 refine aK ?_);exact k ()):P:=h fun _=>k
theorem aKx (h:(Unit→Q)→P:=by intro k;(iterate 28 refine aK ?_);exact k ()):P:=h fun _=>k
theorem aKj (h:(Unit→Q)→P:=by intro k;(iterate 29 refine aK ?_);exact k ()):P:=h fun _=>k
theorem zY (h:(Unit→Q)→P:=by intro k;(iterate 30 refine aK ?_);exact k ()):P:=h fun _=>k
theorem aoz (h:(Unit→Q)→P:=by intro k;(iterate 31 refine aK ?_);exact k ()):P:=h fun _=>k
theorem aL0 (h:(Unit→Q)→P:=by intro k;(iterate 34 refine aK ?_);exact k ()):P:=h fun _=>k
theorem aL1 (h:(Unit→Q)→P:=by intro k;(iterate 35 refine aK ?_);exact k ()):P:=h fun _=>k
theorem aL2 (h:(Unit→Q)→P:=by intro k;(iterate 36 refine aK ?_);exact k ()):P:=h fun _=>k
theorem aL3 (h:(Unit→Q)→P:=by intro k;(iterate 38 refine aK ?_);exact k ()):P:=h fun _=>k
theorem aL4 (h:(Unit→Q)→P:=by intro k;(iterate 39 refine aK ?_);exact k ()):P:=h fun _=>k
theorem zZ (h:(Unit→Q)→P:=by intro k;(iterate 40 refine aK ?_);exact k ()):P:=h fun _=>k
end
end Go.Proofs.YtmnmebdmpigddaaGreatDoor
namespace Go.Proofs.YtmnmebdmpigddaaGreatDoor
open Proofs.Tryz
instance :type_of% (nV.mk underlying3):=⟨underlying3⟩
instance :type_of% (nV.mk u4):=⟨u4⟩
instance :type_of% (nV.mk u5):=⟨u5⟩
instance :type_of% (nV.mk u9):=⟨u9⟩
instance :type_of% (nV.mk u22):=⟨u22⟩
instance :type_of% (nV.mk u24):=⟨u24⟩
instance :type_of% (nV.mk u25):=⟨u25⟩
instance :type_of% (nV.mk underlying26):=⟨underlying26⟩
instance :type_of% (nV.mk u28):=⟨u28⟩
instance :type_of% (nV.mk u46):=⟨u46⟩
instance :type_of% (nV.mk u48):=⟨u48⟩
instance :type_of% (nV.mk u79):=⟨u79⟩
instance :type_of% (nV.mk Rk):=⟨Rk⟩
instance :type_of% (nV.mk gX):=⟨gX⟩
instance :type_of% (nV.mk FR):=⟨FR⟩
instance :type_of% (nV.mk FT):=⟨FT⟩
instance :type_of% (nV.mk FU):=⟨FU⟩
instance :type_of% (Szc.mk oc):=⟨oc⟩
instance :type_of% (Szc.mk qj):=⟨qj⟩
instance :type_of% (Szc.mk qK):=⟨qK⟩
instance :type_of% (Zc.mk aw4):=⟨aw4⟩
instance :type_of% (Zc.mk nU):=⟨nU⟩
instance :type_of% (Zc.mk zQ):=⟨zQ⟩
instance :type_of% (Zc.mk aGq):=⟨aGq⟩
instance :type_of% (Zc.mk amj):=⟨amj⟩
instance :type_of% (Zc.mk an0):=⟨an0⟩
instance :type_of% (Zc.mk an1):=⟨an1⟩
instance :type_of% (Zc.mk an2):=⟨an2⟩
instance :type_of% (Zc.mk an3):=⟨an3⟩
theorem z8:gW prog 88 Extern.MathFloatBits.float64frombits:=⟨_,func88,kr,kr,kr,kr⟩
theorem aox:gW prog 109 Extern.MathFloatBits.float64bits:=⟨_,func109,kr,kr,kr,kr⟩
theorem aL5:gW prog 142 (Extern.MathFloor.toIntegral "math.archTrunc" .zero):=⟨_,func142,kr,kr,kr,kr⟩
theorem aoj:gW prog 194 (Extern.MathFloor.toIntegral "math.archFloor" .down):=⟨_,func194,kr,kr,kr,kr⟩
theorem jK:gW prog 225 Extern.MathFloatBits.float64frombits:=⟨_,func225,kr,kr,kr,kr⟩
end Go.Proofs.YtmnmebdmpigddaaGreatDoor
namespace Go.Proofs.YtmnmebdmpigddaaGreatDoor
open Go.RowKit Proofs.Tryz
section
attribute [local irreducible] OW RS CW EW
theorem kD {P Q:Prop} (k:Q) (h:(Unit→Q)→P:=by
 intro zK;refine yk ?_;refine za rfl (gh rfl rfl (abq ha) (zo ?_));exact zK ()):P:=h fun _=>k
theorem yiv {P Q:Prop} (k:Q) (h:(Unit→Q)→P:=by
 intro zK;refine zp ?_;refine oe ?_;refine zi ?_;exact zK ()):P:=h fun _=>k
theorem zyx {P Q:Prop} (k:Q) (h:(Unit→Q)→P:=by
 intro zK;refine za rfl (vq (b:=b) z8 rfl ?_);exact zK ()):P:=h fun _=>k
theorem Zj {P Q:Prop} (k:Q) (h:(Unit→Q)→P:=by
 intro zK;refine za rfl (JH aox rfl ?_);exact zK ()):P:=h fun _=>k
theorem Tk {P Q:Prop} (k:Q) (h:(Unit→Q)→P:=by
 intro zK;refine za rfl (ZM rfl rfl ?_);exact zK ()):P:=h fun _=>k
theorem oe {P Q:Prop} (k:Q) (h:(Unit→Q)→P:=by
 intro zK;refine za rfl (ZL rfl rfl ?_);exact zK ()):P:=h fun _=>k
theorem xm {P Q:Prop} (k:Q) (h:(Unit→Q)→P:=by
 intro zK;refine za rfl (vq (b:=a) z8 rfl ?_);exact zK ()):P:=h fun _=>k
theorem Tm {P:Prop} (h:P:=by
 refine qc ?_;exact ⟨by rw[pz,iH,if_pos h,if_pos h];rfl,aP LW E ak⟩):P:=h
theorem Tn {P:Prop} (h:P:=by
 refine zo ?_;exact ⟨by rw[pz,iH,if_neg (by rw[h];decide),if_neg (by rw[h];decide),hr.bare];rfl,aP LW E ak⟩):P:=h
theorem Qg {P:Prop} (h:P:=by
 refine zn ?_;exact xq):P:=h
theorem Tp {P:Prop} (h:P:=by
 intro r w3 hr;have Ec:=hr.ext;replace E:=E.trans Ec.no;refine zb vqv (xr _ r hr.GH) E fun w4 E=>(zn ?_);exact ⟨by rw[hr.bare];rfl,aP LW E ak⟩):P:=h
theorem Tq {P:Prop} (h:P:=by
 intro r w1 hr;have Ec:=hr.ext;replace E:=E.trans Ec.no;refine zb FZ (ycx _ r) E fun w2 E=>(zn ?_);exact ⟨by rw[hr.bare];rfl,aP LW E ak⟩):P:=h
theorem xq {P:Prop} (h:P:=by
 exact ⟨rfl,aP LW E ak⟩):P:=h
def qu (m:Nat):Nat:=if aW m then 9221120237041090560 else m
def ji (z:Option Nat):Nat:=z.getD 9221120237041090560
theorem eX.bare {op:BinOp} {a b r:Nat} {w w':World} (h:eX (aR op a b) r w w'):qu r=ji (aR op a b):=by
 rcases h with ⟨hz,_⟩ | ⟨hz,hn,_⟩
 · rw[hz];unfold qu ji;rw[(P8 hz).1];rfl
 · rw[hz];unfold qu ji;rw[uV hn];rfl
theorem eX.GH {op:BinOp} {a b r:Nat} {w w':World} (h:eX (aR op a b) r w w'):r<18446744073709551616:=by
 rcases h with ⟨hz,_⟩ | ⟨_,hn,_⟩
 · exact (P8 hz).2
 · exact hn.lt
theorem zex (m:Nat):(gk m m !=some .eq)=aW m:=by
 cases h:aW m with
 | true=>rw[ztv (.inl h)];rfl
 | false=>rw[ztk h h,ymv];rfl
theorem zik (m:Nat) (h:m<18446744073709551616):(BitVec.ofInt 64 (m:Int)).toNat=m:=by
 rw[BitVec.toNat_ofInt];omega
theorem yhk {m:Nat} (h:m<18446744073709551616):IntKind.u64.wrap (m:Int)=(m:Int):=wrap_u64 om
theorem xp {m n:Nat} (hm:m<18446744073709551616) (hn:n<18446744073709551616):IntKind.u64.wrap (BitVec.ofInt IntKind.u64.bits (m:Int) &&& BitVec.ofInt IntKind.u64.bits (n:Int)).toNat=((m &&& n:Nat):Int):=by
 have h1:=zik m hm;have h2:=zik n hn;show IntKind.u64.wrap (((BitVec.ofInt 64 (m:Int) &&& BitVec.ofInt 64 (n:Int)).toNat:Nat):Int)=_
 rw[BitVec.toNat_and,h1,h2];exact yhk (Nat.lt_of_le_of_lt Nat.and_le_left hm)
theorem Bh {m n:Nat} (hm:m<18446744073709551616) (hn:n<18446744073709551616):IntKind.u64.wrap (BitVec.ofInt IntKind.u64.bits (m:Int) ^^^ BitVec.ofInt IntKind.u64.bits (n:Int)).toNat=((m ^^^ n:Nat):Int):=by
 have h1:=zik m hm;have h2:=zik n hn;show IntKind.u64.wrap (((BitVec.ofInt 64 (m:Int) ^^^ BitVec.ofInt 64 (n:Int)).toNat:Nat):Int)=_
 rw[BitVec.toNat_xor,h1,h2];exact yhk (Nat.xor_lt_two_pow (n:=64) om om)
theorem abq {m:Nat} (hm:m<18446744073709551616):IntKind.u64.wrap (BitVec.ofInt IntKind.u64.bits (m:Int) &&& BitVec.ofInt IntKind.u64.bits 9223372036854775807).toNat=((rg m:Nat):Int):=by
 have:=xp (n:=9223372036854775807) hm de;rw[show m &&& 9223372036854775807=rg m from Nat.and_two_pow_sub_one_eq_mod m 63] at this;exact this
theorem Tt {m:Nat} (hm:m<18446744073709551616):IntKind.u64.wrap (BitVec.ofInt IntKind.u64.bits (m:Int) ^^^ BitVec.ofInt IntKind.u64.bits 9223372036854775808).toNat=((qg m:Nat):Int):=Bh (n:=9223372036854775808) hm de
def dU (b:Nat):Bool:=decide (rg b=0)
theorem gl (b:Nat):(gk b 0==some .eq)=dU b:=by
 cases h:aW b with
 | true=>
  rw[ztv (.inl h)];have:dU b=false:=by unfold aW at h;unfold dU;simp at h ⊢;omega
  rw[this];rfl
 | false=>
  rw[ztk h de];have h0:pc 0=0:=de;rw[h0,nT,dU];by_cases hz:rg b=0
  · have:pc b=0:=by unfold pc;split<;>omega
    rw[this];simp[hz]
  · have:pc b≠0:=by unfold pc;split<;>omega
    rw[if_neg this];split<;>simp[hz]<;>decide
def pz (a b:Nat):Nat:=if dU b then 0 else ji (aR .quo a b)
def iH (b:Nat):Int:=if dU b then 6 else 0
def Tv (x y:Int):Int:=if x<y then -1 else if x>y then 1 else 0
def Nj (a b:Nat):Bool:=!(aW a)&& !(aW b)
def kE (a b:Nat):Int:=if Nj a b then Tv (pc a) (pc b) else 0
theorem zvv {a b:Nat} {o:Ordering} (h:(gk a b==some o)=true):Nj a b=true:=by
 unfold Nj;cases ha:aW a with
 | true=>rw[ztv (.inl ha)] at h;cases h
 | false=>
  cases hbq:aW b with
  | true=>rw[ztv (.inr hbq)] at h;cases h
  | false=>rfl
theorem qbx {a b:Nat} (h:Nj a b=true):gk a b=some (nT (pc a) (pc b)):=by
 unfold Nj at h;simp at h
 exact ztk h.1 h.2
theorem abz {a b:Nat} (h:(gk a b==some .lt)=true):kE a b= -1:=by
 have ho:=zvv h;rw[qbx ho] at h;rw[kE,if_pos ho,Tv];unfold nT at h;split at h
 · rename_i h1;rw[if_pos h1]
 · split at h<;>cases h
theorem abx {a b:Nat} (h:(gk a b==some .gt)=true):kE a b=1:=by
 have ho:=zvv h;rw[qbx ho] at h;rw[kE,if_pos ho,Tv];unfold nT at h;split at h
 · cases h
 · split at h
   · cases h
   · rename_i h1 h2;rw[if_neg h1,if_pos om]
theorem J6 {a b:Nat} (h:(gk a b==some .lt)=false) (h2:(gk a b==some .gt)=false):kE a b=0∧Nj a b=(gk a b==some .eq):=by
 cases ho:Nj a b with
 | true=>
  rw[qbx ho] at h h2 ⊢;rw[kE,if_pos ho,Tv];rcases Int.lt_trichotomy (pc a) (pc b) with h1 | h1 | h1
  · rw[ZW h1] at h;cases h
  · rw[h1,ymv];exact ⟨by rw[if_neg om,if_neg om],rfl⟩
  · rw[qjv h1] at h2;cases h2
 | false=>
  refine ⟨by rw[kE,if_neg (by rw[ho];decide)],?_⟩;unfold Nj at ho;cases ha:aW a with
  | true=>rw[ztv (.inl ha)];rfl
  | false=>
   cases hbq:aW b with
   | true=>rw[ztv (.inr hbq)];rfl
   | false=>rw[ha,hbq] at ho;cases ho
theorem J7 {m n:Nat}:decide (m=n)=(((m:Nat):Int)==((n:Nat):Int)):=by
 by_cases h:m=n
 · subst h;simp
 · have:((m:Nat):Int)≠((n:Nat):Int):=om;simp[h,this]
theorem Tw {a b:Nat} (hbq:b<18446744073709551616):aR .sub a b=aR .add a (qu (qg b)):=by
 cases h:aW b with
 | true=>
  have h2:aW (qu (qg b))=true:=by rw[qu,if_pos (by rw[zhv hbq];exact h)];decide
  rw[yek (.inr h),yek (.inr h2)]
 | false=>rw[qu,if_neg (by rw[zhv hbq,h];decide)];exact uW hbq h
section
variable (w:World)
theorem ycx (m:Nat):Calls prog 87 #[.float .f64 m] w (aF w (.int .u64 ((qu m:Nat):Int))):=by
 refine zd func87 rfl ntmps87 rfl ?_;have LW:=aC (No) w;have ak:=aN (No) w;have E:=aC (No) w;refine zv ?_;refine Tk ?_;refine zi ?_;refine yr 5 (.bool (aW m)) rfl (by rw[zex]<;>rfl) (zf rfl (fun h=>?_) (fun h=>?_))
 ·
  refine yk ?_;exact ⟨by rw[qu,if_pos h];rfl,aP LW E ak⟩
 ·
  refine zn ?_;refine Zj ?_;refine zn ?_;exact ⟨by rw[qu,if_neg (by rw[h];decide)];rfl,aP LW E ak⟩
section
variable (a b:Nat)
theorem ru:Calls prog 41 #[.int .u64 ((a:Nat):Int)] w (aF w (.int .u64 ((qu (qg a):Nat):Int))):=by
 refine zd func41 rfl ntmps41 rfl ?_;have LW:=aC (No) w;have ak:=aN (No) w;have E:=aC (No) w;refine yk ?_;refine xm ?_;refine za rfl (qyv rfl (zb FZ (ycx _ (qg a)) E fun w1 E=>?_));exact Qg
theorem Nk:Calls prog 121 #[.int .u64 ((a:Nat):Int),.int .u64 ((b:Nat):Int)] w (aF w (.int .u64 ((ji (aR .add a b):Nat):Int))):=by
 refine zd func121 rfl ntmps121 rfl ?_;have LW:=aC (No) w;have ak:=aN (No) w;have E:=aC (No) w;refine yk ?_;refine xm ?_;refine aK ?_;refine zyx ?_;refine za rfl (jd (m:=a) (n:=b) (.inl rfl) rfl rfl ?_);exact Tq
theorem Nl:Calls prog 122 #[.int .u64 ((a:Nat):Int),.int .u64 ((b:Nat):Int)] w (aF w (.int .u64 ((ji (aR .sub a b):Nat):Int))):=by
 refine zd func122 rfl ntmps122 rfl ?_;have LW:=aC (No) w;have ak:=aN (No) w;have E:=aC (No) w;refine yk ?_;refine xm ?_;refine aK ?_;refine zyx ?_;refine za rfl (jd (m:=a) (n:=b) (.inr (.inl rfl)) rfl rfl ?_);exact Tq
theorem Nn:Calls prog 123 #[.int .u64 ((a:Nat):Int),.int .u64 ((b:Nat):Int)] w (aF w (.int .u64 ((ji (aR .mul a b):Nat):Int))):=by
 refine zd func123 rfl ntmps123 rfl ?_;have LW:=aC (No) w;have ak:=aN (No) w;have E:=aC (No) w;refine yk ?_;refine xm ?_;refine aK ?_;refine zyx ?_;refine za rfl (jd (m:=a) (n:=b) (.inr (.inr (.inl rfl))) rfl rfl ?_);exact Tq
theorem Np:Calls prog 124 #[.int .u64 ((a:Nat):Int),.int .u64 ((b:Nat):Int)] w (aF w (.tuple #[.int .u64 ((pz a b:Nat):Int),.int .i64 (iH b)])):=by
 refine zd func124 rfl ntmps124 rfl ?_;have LW:=aC (No) w;have ak:=aN (No) w;have E:=aC (No) w;refine qc ?_;refine zyx ?_;refine yiv ?_;refine yr 10 (.bool (dU b)) rfl (by rw[gl]<;>rfl) (zf rfl (fun h=>?_) (fun h=>?_))
 ·
  exact Tm
 ·
  refine zn ?_;refine xm ?_;refine aK ?_;refine za rfl (jd (m:=a) (n:=b) (.inr (.inr (.inr rfl))) rfl rfl ?_);intro r w1 hr;have Ec:=hr.ext;replace E:=E.trans Ec.no;refine zb FZ (ycx _ r) E fun w2 E=>?_;exact Tn
theorem rz:Calls prog 117 #[.int .u64 ((a:Nat):Int),.int .u64 ((b:Nat):Int)] w (aF w (.tuple #[.int .i64 (kE a b),.bool (Nj a b)])):=by
 refine zd func117 rfl ntmps117 rfl ?_;have LW:=aC (No) w;have ak:=aN (No) w;have E:=aC (No) w;refine qc ?_;refine xm ?_;refine aK ?_;refine zyx ?_;refine zv ?_;refine za rfl (ypv rfl rfl (zr ?_));refine zf rfl (fun h=>?_) (fun h=>?_)
 ·
  refine zv ?_;exact ⟨by rw[abz h,zvv h];rfl,aP LW E ak⟩
 ·
  refine ye ?_;refine za rfl (vtk rfl rfl (zr ?_));refine zf rfl (fun h2=>?_) (fun h2=>?_)
  ·
   refine zv ?_;exact ⟨by rw[abx h2,zvv h2];rfl,aP LW E ak⟩
  ·
   refine zp ?_;refine oe ?_;refine zo ?_;exact ⟨by rw[(J6 h h2).1,(J6 h h2).2];rfl,aP LW E ak⟩
end
end
section
variable (w:World)
section
variable (a:Nat) (ha:a<18446744073709551616)
include ha
theorem zoq:Calls prog 65 #[.int .u64 ((a:Nat):Int)] w (aF w (.bool (aW a))):=by
 refine zd func65 rfl ntmps65 rfl ?_;have LW:=aC (No) w;have ak:=aN (No) w;have E:=aC (No) w;refine kD ?_;exact ⟨by rw[show aW a=decide (((rg a:Nat):Int)>9218868437227405312) from by unfold aW;congr 1;apply propext;omega];rfl,aP LW E ak⟩
theorem zxx:Calls prog 104 #[.int .u64 ((a:Nat):Int)] w (aF w (.bool (decide (rg a=9218868437227405312)))):=by
 refine zd func104 rfl ntmps104 rfl ?_;have LW:=aC (No) w;have ak:=aN (No) w;have E:=aC (No) w;refine kD ?_;exact ⟨by rw[J7 (n:=9218868437227405312)];rfl,aP LW E ak⟩
theorem xe:Calls prog 138 #[.int .u64 ((a:Nat):Int)] w (aF w (.bool (dU a))):=by
 refine zd func138 rfl ntmps138 rfl ?_;have LW:=aC (No) w;have ak:=aN (No) w;have E:=aC (No) w;refine kD ?_;exact ⟨by rw[dU,J7 (n:=0)];rfl,aP LW E ak⟩
theorem vrv:Calls prog 157 #[.int .u64 ((a:Nat):Int)] w (aF w (.bool (ng a))):=by
 refine zd func157 rfl ntmps157 rfl ?_;have LW:=aC (No) w;have ak:=aN (No) w;have E:=aC (No) w;refine kh ?_;exact ⟨by rw[qH ha,show decide (9223372036854775808≤a)=decide (((a:Nat):Int)≥9223372036854775808) from by congr 1;apply propext;omega];rfl,aP LW E ak⟩
theorem xr:Calls prog 136 #[.float .f64 a] w (aF w (.int .u64 ((qu a:Nat):Int))):=by
 refine zd func136 rfl ntmps136 rfl ?_;have LW:=aC (No) w;have ak:=aN (No) w;have E:=aC (No) w;refine yk ?_;refine Zj ?_;refine zp ?_;refine zb FY (zoq _ a ha) E fun w1 E=>(zi ?_);refine zf rfl (fun h=>?_) (fun h=>?_)
 ·
  refine yk ?_;exact ⟨by rw[qu,if_pos h];rfl,aP LW E ak⟩
 ·
  refine zv ?_;exact ⟨by rw[qu,if_neg (by rw[h];decide)];rfl,aP LW E ak⟩
omit ha in
theorem ku:Calls prog 137 #[.int .u64 ((a:Nat):Int)] w (aF w (.float .f64 a)):=by
 refine zd func137 rfl ntmps137 rfl ?_;have LW:=aC (No) w;have ak:=aN (No) w;have E:=aC (No) w;refine yk ?_;refine xm ?_;exact Qg
theorem Tx:Calls prog 51 #[.int .u64 ((a:Nat):Int)] w (aF w (.int .u64 ((qu (qg a):Nat):Int))):=by
 refine zd func51 rfl ntmps51 rfl ?_;have LW:=aC (No) w;have ak:=aN (No) w;have E:=aC (No) w;refine qc ?_;refine zb FY (zoq _ a ha) E fun w1 E=>(zi ?_);refine zf rfl (fun h=>?_) (fun h=>?_)
 ·
  refine yk ?_;exact ⟨by rw[qu,if_pos (by rw[zhv ha];exact h)];rfl,aP LW E ak⟩
 ·
  refine zn ?_;refine za rfl (QO rfl rfl (Tt ha) (zn ?_));exact ⟨by rw[qu,if_neg (by rw[zhv ha,h];decide)];rfl,aP LW E ak⟩
end
section
variable (a b:Nat) (ha:a<18446744073709551616) (hbq:b<18446744073709551616)
include ha hbq
omit ha hbq in
theorem qok:Calls prog 78 #[.int .u64 ((a:Nat):Int),.int .u64 ((b:Nat):Int)] w (aF w (.int .u64 ((ji (aR .add a b):Nat):Int))):=by
 refine zd func78 rfl ntmps78 rfl ?_;have LW:=aC (No) w;have ak:=aN (No) w;have E:=aC (No) w;refine yk ?_;refine zb P9 (ku _ a) E fun w1 E=>(aK ?_);refine zb P9 (ku _ b) E fun w2 E=>(za rfl (jd (m:=a) (n:=b) (.inl rfl) rfl rfl ?_));exact Tp
omit ha hbq in
theorem GI:Calls prog 80 #[.int .u64 ((a:Nat):Int),.int .u64 ((b:Nat):Int)] w (aF w (.int .u64 ((ji (aR .mul a b):Nat):Int))):=by
 refine zd func80 rfl ntmps80 rfl ?_;have LW:=aC (No) w;have ak:=aN (No) w;have E:=aC (No) w;refine yk ?_;refine zb P9 (ku _ a) E fun w1 E=>(aK ?_);refine zb P9 (ku _ b) E fun w2 E=>(za rfl (jd (m:=a) (n:=b) (.inr (.inr (.inl rfl))) rfl rfl ?_));exact Tp
omit ha in
theorem qox:Calls prog 79 #[.int .u64 ((a:Nat):Int),.int .u64 ((b:Nat):Int)] w (aF w (.int .u64 ((ji (aR .sub a b):Nat):Int))):=by
 refine zd func79 rfl ntmps79 rfl ?_;have LW:=aC (No) w;have ak:=aN (No) w;have E:=aC (No) w;refine qc ?_;refine zb aV8 (Tx _ b hbq) E fun w1 E=>(zb awq (qok _ a (qu (qg b))) E fun w2 E=>(zn ?_));exact ⟨by rw[Tw hbq];rfl,aP LW E ak⟩
omit ha in
theorem kG:Calls prog 81 #[.int .u64 ((a:Nat):Int),.int .u64 ((b:Nat):Int)] w (aF w (.tuple #[.int .u64 ((pz a b:Nat):Int),.int .i64 (iH b)])):=by
 refine zd func81 rfl ntmps81 rfl ?_;have LW:=aC (No) w;have ak:=aN (No) w;have E:=aC (No) w;refine zv ?_;refine zb Zb (xe _ b hbq) E fun w1 E=>(zi ?_);refine zf rfl (fun h=>?_) (fun h=>?_)
 ·
  exact Tm
 ·
  refine zn ?_;refine zb P9 (ku _ a) E fun w2 E=>(aK ?_);refine zb P9 (ku _ b) E fun w3 E=>(za rfl (jd (m:=a) (n:=b) (.inr (.inr (.inr rfl))) rfl rfl ?_));intro r w4 hr;have Ec:=hr.ext;replace E:=E.trans Ec.no;refine zb vqv (xr _ r hr.GH) E fun w5 E=>?_;exact Tn
end
end
theorem yqq (m:Nat):BitVec.ofInt 64 ((m:Nat):Int)=BitVec.ofNat 64 m:=BitVec.ofInt_natCast 64 m
theorem vsx {a:Nat} (ha:a<18446744073709551616):IntKind.u64.wrap (BitVec.ofInt IntKind.u64.bits ((a:Nat):Int) &&& ~~~BitVec.ofInt IntKind.u64.bits 9223372036854775808).toNat=((rg a:Nat):Int):=by
 have h:=iq ha;show IntKind.u64.wrap (((BitVec.ofInt 64 ((a:Nat):Int) &&& ~~~BitVec.ofInt 64 ((9223372036854775808:Nat):Int)).toNat:Nat):Int)=_
 rw[yqq,yqq,h];exact yhk (Nat.lt_trans (LX a) de)
theorem kJ {a:Nat} (ha:a<18446744073709551616):IntKind.u64.wrap (BitVec.ofInt IntKind.u64.bits ((a:Nat):Int) &&& ~~~BitVec.ofInt IntKind.u64.bits 9218868437227405312).toNat=((a/9223372036854775808*9223372036854775808+a%4503599627370496:Nat):Int):=by
 have h:=kI ha;show IntKind.u64.wrap (((BitVec.ofInt 64 ((a:Nat):Int) &&& ~~~BitVec.ofInt 64 ((9218868437227405312:Nat):Int)).toNat:Nat):Int)=_
 rw[yqq,yqq,h];exact yhk om
theorem xb {m n:Nat} (hm:m<18446744073709551616) (hn:n<18446744073709551616):IntKind.u64.wrap (BitVec.ofInt IntKind.u64.bits (m:Int) ||| BitVec.ofInt IntKind.u64.bits (n:Int)).toNat=((m ||| n:Nat):Int):=by
 have h1:=zik m hm;have h2:=zik n hn;show IntKind.u64.wrap (((BitVec.ofInt 64 (m:Int) ||| BitVec.ofInt 64 (n:Int)).toNat:Nat):Int)=_
 rw[BitVec.toNat_or,h1,h2];exact yhk (Nat.or_lt_two_pow (n:=64) om om)
theorem vdz {a:Nat} (ha:a<18446744073709551616):IntKind.u64.wrap (BitVec.ofInt IntKind.u64.bits ((a:Nat):Int) &&& BitVec.ofInt IntKind.u64.bits 9223372036854775808).toNat=((if ng a then 9223372036854775808 else 0:Nat):Int):=by
 have:=xp (n:=9223372036854775808) ha de;rw[vS a ha] at this;exact this
theorem vU (a:Nat):aW (rg a)=aW a:=by unfold aW rg;rw[Nat.mod_mod]
theorem nX (a:Nat):rg (rg a)=rg a:=Nat.mod_mod _ _
theorem TD (a:Nat):ng (rg a)=false:=by
 have:=LX a;unfold ng;rw[Nat.div_eq_of_lt this];rfl
theorem TF (a:Nat):pc (rg a)=((rg a:Nat):Int):=by rw[pc,TD,nX];rfl
theorem vwz {a c:Nat} (ha:aW a=false) (hc:aW c=false):gk (rg a) (rg c)=some (nT ((rg a:Nat):Int) ((rg c:Nat):Int)):=by
 rw[ztk (by rw[vU];exact ha) (by rw[vU];exact hc),TF,TF]
theorem GJ (a:Nat):(gk (rg a) 9218868437227405311==some .gt)=decide (rg a=9218868437227405312):=by
 cases h:aW a with
 | true=>
  rw[ztv (.inl (by rw[vU];exact h))];have:¬rg a=9218868437227405312:=by have:=of_decide_eq_true h;omega
  rw[decide_eq_false this];rfl
 | false=>
  have h2:=vwz (c:=9218868437227405311) h de;rw[show rg 9218868437227405311=9218868437227405311 from de] at h2;have h3:¬9218868437227405312<rg a:=of_decide_eq_false h;rw[h2];by_cases h4:rg a=9218868437227405312
  · rw[h4];decide
  · rw[decide_eq_false h4,nT];split
    · rfl
    · split
      · rfl
      · omega
theorem TG {a:Nat} (h:aW a=false):(gk (rg a) 4503599627370496==some .lt)=decide (rg a<4503599627370496):=by
 have h2:=vwz (c:=4503599627370496) h de;rw[show rg 4503599627370496=4503599627370496 from de] at h2;rw[h2];by_cases h4:rg a<4503599627370496
 · rw[decide_eq_true h4,ZW om];rfl
 · rw[decide_eq_false h4,nT,if_neg om];split<;>rfl
section
variable (w:World) (a:Nat) (ha:a<18446744073709551616)
include ha
theorem yfv:Calls prog 113 #[.float .f64 a] w (aF w (.float .f64 (rg a))):=by
 refine zd func113 rfl ntmps113 rfl ?_;have LW:=aC (No) w;have ak:=aN (No) w;have E:=aC (No) w;refine yk ?_;refine Zj ?_;refine za rfl (ykz rfl rfl (vsx ha) (za rfl (vq (b:=rg a) z8 rfl ?_)));exact Qg
theorem vg:Calls prog 89 #[.float .f64 a,.int .i64 0] w (aF w (.bool (decide (rg a=9218868437227405312)))):=by
 refine zd func89 rfl ntmps89 rfl ?_;have LW:=aC (No) w;have ak:=aN (No) w;have E:=aC (No) w;refine xf ?_;refine zb vrx (yfv _ a ha) E fun w1 E=>(zo ?_);refine za rfl (vtk rfl rfl (zn ?_));exact ⟨by rw[←GJ];rfl,aP LW E ak⟩
omit ha in
theorem km:Calls prog 172 #[.float .f64 a] w (aF w (.bool (aW a))):=by
 refine zd func172 rfl ntmps172 rfl ?_;have LW:=aC (No) w;have ak:=aN (No) w;have E:=aC (No) w;refine qc ?_;refine Tk ?_;refine zn ?_;exact ⟨by rw[←zex];rfl,aP LW E ak⟩
theorem zmv (b:Nat) (hb:b<18446744073709551616):Calls prog 103 #[.float .f64 a,.float .f64 b] w (aF w (.float .f64 (Ieee.double.word (ng b) (rg a)))):=by
 have hr:=LX a;have ho:(rg a ||| (if ng b then 9223372036854775808 else 0:Nat))=Ieee.double.word (ng b) (rg a):=by
  unfold Ieee.Format.word;rw[c1];split
  · rw[Nat.or_comm];exact vkz 63 hr rfl
  · exact Nat.or_zero _
 have hs:(if ng b then 9223372036854775808 else 0:Nat)<18446744073709551616:=by split<;>decide
 refine zd func103 rfl ntmps103 rfl ?_;have LW:=aC (No) w;have ak:=aN (No) w;have E:=aC (No) w;refine yk ?_;refine Zj ?_;refine za rfl (ykz rfl rfl (vsx ha) (aK ?_));refine Zj ?_;refine za rfl (gh rfl rfl (vdz hb) (za rfl (oJ rfl rfl (xb (Nat.lt_trans hr de) hs) (za rfl (vq (b:=rg a ||| (if ng b then 9223372036854775808 else 0:Nat)) z8 rfl (zn ?_))))));exact ⟨by rw[←ho];rfl,aP LW E ak⟩
end
theorem yxk {P Q:Prop} (k:Q) (h:(Unit→Q)→P:=by
 intro zK;refine za rfl (gf underlying3 u25 rfl (yt om) ?_);exact zK ()):P:=h fun _=>k
theorem Zk {P Q:Prop} (k:Q) (h:(Unit→Q)→P:=by
 intro zK;refine za rfl (ypv rfl rfl (zi ?_));exact zK ()):P:=h fun _=>k
theorem yp {P Q:Prop} (k:Q) (h:(Unit→Q)→P:=by
 intro zK;refine za rfl (jn rfl rfl (yt om) ?_);exact zK ()):P:=h fun _=>k
theorem yw {P Q:Prop} (k:Q) (h:(Unit→Q)→P:=by
 intro zK;refine za rfl (je rfl rfl (yt om) ?_);exact zK ()):P:=h fun _=>k
theorem TH {P:Prop} (h:P:=by
 obtain ⟨h1,h2,h3⟩:=vj (ng a) (rg a) (LX a);exact LY h3 ha h1 h2):P:=h
theorem Nu {a:Nat} (ha:a<18446744073709551616):Ieee.double.word (ng a) (rg a)=a:=by
 exact TH
def Qh (a:Nat):Nat:=Ieee.double.word (ng a) (nr (rg a))
def Qi (a:Nat):Int:=if rg a<4503599627370496 then -52 else 0
theorem abj {a:Nat} (ha:a<18446744073709551616) (h:¬rg a<4503599627370496):Qh a=a:=by
 rw[Qh,nr,if_neg h];exact Nu ha
theorem GK {a:Nat} (h0:rg a≠0) (hf:rg a<9218868437227405312):Qh a<18446744073709551616:=(vj (ng a) (nr (rg a)) (Nat.lt_trans (yrx h0 hf) de)).2.2
theorem eX.some {z:Option Nat} {r q:Nat} {w w':World} (h:eX z r w w') (hz:z=some q):r=q:=by
 rcases h with ⟨h1,_⟩ | ⟨h1,_⟩
 · rw[hz] at h1;exact (Option.some.inj h1).symm
 · rw[hz] at h1;cases h1
theorem vvq {a:Nat} (hf:rg a<9218868437227405312):aW a=false:=decide_eq_false om
theorem TI (m:Nat):((m:Nat):Int).fdiv (2^(min (52:Int).toNat IntKind.u64.bits))=((m/4503599627370496:Nat):Int):=by
 show ((m:Nat):Int).fdiv (2^52)=_
 rw[show (2:Int)^52=((4503599627370496:Nat):Int) from rfl,Int.fdiv_eq_ediv_of_nonneg _ om];rfl
theorem Bj {m:Nat} (hm:m<18446744073709551616):IntKind.u64.wrap (BitVec.ofInt IntKind.u64.bits ((m:Nat):Int) &&& BitVec.ofInt IntKind.u64.bits 2047).toNat=((m%2048:Nat):Int):=by
 have:=xp (n:=2047) hm de;rw[show m &&& 2047=m%2048 from Nat.and_two_pow_sub_one_eq_mod m 11] at this;exact this
theorem qnz (s:Bool) {r:Nat} (hr:r<9218868437227405312):Ieee.double.word s r/4503599627370496%2048=r/4503599627370496∧Ieee.double.word s r/9223372036854775808*9223372036854775808+Ieee.double.word s r%4503599627370496=Ieee.double.word s (r%4503599627370496):=by
 unfold Ieee.Format.word;rw[c1];cases s
 · simp only[Bool.false_eq_true,if_false];omega
 · simp only[if_true];omega
theorem ac0 {f x:Nat} (hf:f<4503599627370496) (hx:x%4503599627370496=0):f ||| x=x+f:=by
 rw[Nat.or_comm];exact vkz 52 hf hx
theorem vkv (s:Bool) {f x:Nat} (hf:f<4503599627370496) (hx:x%4503599627370496=0) (hl:x+f<9223372036854775808):Ieee.double.word s f ||| x=Ieee.double.word s (x+f):=by
 have h1:=ac0 hf hx;unfold Ieee.Format.word;rw[c1];cases s
 · exact h1
 · show (9223372036854775808+f) ||| x=9223372036854775808+(x+f)
   rw[←vkz 63 (a:=9223372036854775808) (b:=f) (Nat.lt_trans hf de) rfl,Nat.or_assoc,h1];exact vkz 63 hl rfl
section
variable (w:World) (a:Nat) (ha:a<18446744073709551616) (h0:rg a≠0) (hf:rg a<9218868437227405312)
include ha h0 hf
theorem ygz:Calls prog 173 #[.float .f64 a] w (aF w (.tuple #[.float .f64 (Qh a),.int .i64 (Qi a)])):=by
 refine zd func173 rfl ntmps173 rfl ?_;have LW:=aC (No) w;have ak:=aN (No) w;have E:=aC (No) w;refine zv ?_;refine zb vrx (yfv _ a ha) E fun w1 E=>(Zk ?_);refine yr 6 (.bool (decide (rg a<4503599627370496))) rfl (by rw[TG (vvq hf)]<;>rfl) (zf rfl (fun h=>?_) (fun h=>?_))
 ·
  refine zr ?_;refine za rfl (jd (m:=a) (n:=4841369599423283200) (.inr (.inr (.inl rfl))) rfl rfl ?_);intro r w2 hr;have Ec:=hr.ext;replace E:=E.trans Ec.no;refine zp ?_;exact ⟨by rw[hr.some (pF h0 (of_decide_eq_true h)),Qi,if_pos (of_decide_eq_true h)];rfl,aP LW E ak⟩
 ·
  refine yv ?_;exact ⟨by rw[abj ha (of_decide_eq_false h),Qi,if_neg (of_decide_eq_false h)];rfl,aP LW E ak⟩
theorem Nv:Calls prog 141 #[.float .f64 a] w (aF w (.tuple #[.float .f64 (gG a),.int .i64 (ig a)])):=by
 have hz:dU a=false:=decide_eq_false h0;have gJ:decide (rg a=9218868437227405312)=false:=decide_eq_false om;have hn:=vvq hf;have hlt:=GK h0 hf;have hlow:=vQ h0;have hhigh:=yrx h0 hf;obtain ⟨hp1,hp2⟩:=qnz (ng a) hhigh;have hex:nr (rg a)/4503599627370496=ex (nr (rg a))+1:=by unfold ex;rw[if_neg om];omega
 have hmg:mg (nr (rg a))=4503599627370496+nr (rg a)%4503599627370496:=by unfold mg;rw[if_neg om]
 have aOj:ex (nr (rg a))≤2045:=om;have hfl:nr (rg a)%4503599627370496<4503599627370496:=Nat.mod_lt _ de;have aP0:Qi a=0∨Qi a= -52:=by unfold Qi;split<;>simp
 have hfw:Ieee.double.word (ng a) (nr (rg a)%4503599627370496)<18446744073709551616:=(vj _ _ om).2.2;have hor:=vkv (ng a) (x:=4602678819172646912) hfl de om;have aY1:Ieee.double.word (ng a) (4602678819172646912+nr (rg a)%4503599627370496)=gG a:=by rw[gG,hmg,Nat.add_sub_cancel_left]
 have aY2:Qi a+(((ex (nr (rg a))+1:Nat):Int)-1023+1)=ig a:=by
  unfold Qi ig;split<;>omega
 refine zd func141 rfl ntmps141 rfl ?_;have LW:=aC (No) w;have ak:=aN (No) w;have E:=aC (No) w;refine yv ?_;refine oe ?_;refine zr ?_;refine zw 5 rfl (by rw[gl,hz]<;>rfl) (ye ?_);refine zb yM (vg _ a ha) E fun w1 E=>(yu 11 rfl (by rw[gJ]<;>rfl) (zi ?_));refine zb Rs (km _ a) E fun w2 E=>(yu 14 rfl (by rw[hn]<;>rfl) (yv ?_));refine zb Rt (ygz _ a ha h0 hf) E fun w3 E=>(zv ?_);refine Zj ?_;refine zp ?_;refine za rfl (js rfl rfl de (TI (Qh a)) (za rfl (gh rfl rfl (Bj om) (zk 27 (.int .u64 ((ex (nr (rg a))+1:Nat):Int)) rfl (by rw[show Qh a/4503599627370496%2048=_ from hp1,hex]<;>rfl) (yxk ?_)))));refine yp ?_;refine yw ?_;refine yw ?_;refine zo ?_;refine za rfl (ykz rfl rfl (kJ hlt) (zk 33 (.int .u64 ((Ieee.double.word (ng a) (nr (rg a)%4503599627370496):Nat):Int)) rfl (by rw[show Qh a/9223372036854775808*9223372036854775808+Qh a%4503599627370496=_ from hp2]<;>rfl) (zo ?_)));refine za rfl (oJ rfl rfl (xb (n:=4602678819172646912) hfw de) (zk 35 (.int .u64 ((gG a:Nat):Int)) rfl (by rw[show Ieee.double.word (ng a) (nr (rg a)%4503599627370496) ||| 4602678819172646912=gG a from hor.trans aY1]<;>rfl) (zo ?_)));refine za rfl (vq (b:=gG a) z8 rfl (zn ?_));exact ⟨by rw[←aY2];rfl,aP LW E ak⟩
end
theorem Bl {P Q:Prop} (k:Q) (h:(Unit→Q)→P:=by
 intro zK;refine za rfl (ykz rfl rfl (kJ hlt) (zk 52 (.int .u64 ((Ieee.double.word (ng a) (nr (rg a)%4503599627370496):Nat):Int)) rfl (by rw[show Qh a/9223372036854775808*9223372036854775808+Qh a%4503599627370496=_ from hp2]<;>rfl) (zp ?_)));refine yw ?_;refine za rfl (gf u25 underlying3 rfl (wrap_u64 om) ?_);exact zK ()):P:=h fun _=>k
theorem Bn {P Q:Prop} (k:Q) (h:(Unit→Q)→P:=by
 intro zK;refine za rfl (js rfl rfl de (TI (Qh a)) (za rfl (gf underlying3 u25 rfl (yt om) (za rfl (gh rfl rfl (Nw om) (zk 34 (.int .i64 ((ex (nr (rg a))+1:Nat):Int)) rfl (by rw[show Qh a/4503599627370496%2048=_ from hp1,hex]<;>rfl) (yp ?_)))))));refine yw ?_;refine zv ?_;refine zw 38 rfl (by rw[hB,decide_eq_false om]<;>rfl) ?_;exact zK ()):P:=h fun _=>k
theorem Nw {m:Nat} (hm:m<18446744073709551616):IntKind.i64.wrap (BitVec.ofInt IntKind.i64.bits ((m:Nat):Int) &&& BitVec.ofInt IntKind.i64.bits 2047).toNat=((m%2048:Nat):Int):=by
 have h1:=zik m hm;have h2:=zik 2047 de;show IntKind.i64.wrap (((BitVec.ofInt 64 (m:Int) &&& BitVec.ofInt 64 ((2047:Nat):Int)).toNat:Nat):Int)=_
 rw[BitVec.toNat_and,h1,h2,show m &&& 2047=m%2048 from Nat.and_two_pow_sub_one_eq_mod m 11];exact yt om
theorem Bo {x m f q:Nat} (h1:x*4503599627370496+m=q) (h2:m=4503599627370496+f):(x+1)*4503599627370496+f=q:=by rw[←h1,h2,Nat.add_mul,Nat.one_mul,Nat.add_assoc]
theorem TJ (a:Nat):Qi a= -((nd (rg a):Nat):Int):=by unfold Qi nd;split<;>rfl
theorem Ny {s:Bool} {q:Nat} (hq:q<9218868437227405312):aR .mul 4607182418800017408 (Ieee.double.word s q)=some (Ieee.double.word s q):=by
 obtain ⟨h1,h2,_⟩:=vj s q (Nat.lt_trans hq de);have hc:rg 4607182418800017408=4607182418800017408∧ng 4607182418800017408=false∧vl 4607182418800017408=2^1074:=by decide +kernel
 have:=qqx (a:=4607182418800017408) (b:=Ieee.double.word s q) (r:=q) (by rw[hc.1];decide) (by rw[h1];exact hq) hq (fun P hP=>by rewrite [hc.1,hc.2.2,←hP,h1];exact Nat.mul_comm P (vl q));rw[this,hc.2.1,h2,Bool.false_xor]
theorem ac1 {P i j n:Nat} (h:P=2^n) (hn:n=i+j):P=2^i*2^j:=by rw[h,hn,Nat.pow_add]
theorem ac2 {A B P q v1 v2:Nat} (h1:v1=A) (h2:v2=q*B) (h3:P=A*B):v1*v2=q*P:=by rw[h1,h2,h3,Nat.mul_left_comm]
theorem ac3 {s:Bool} {q:Nat} (h0:q≠0) (hq:q<4503599627370496):aR .mul 4368491638549381120 (Ieee.double.word s ((ex (nr q)+1)*4503599627370496+mg (nr q)))=some (Ieee.double.word s q):=by
 obtain ⟨hm1,hm2⟩:=qbv h0;have he:ex (nr q)≤51:=by rw[(qpk h0 hq).1];exact (yiq h0 hq).1
 obtain ⟨Q,hQ⟩:∃Q,Q=(ex (nr q)+1)*4503599627370496+mg (nr q):=⟨_,rfl⟩;obtain ⟨p1,p2⟩:=yok (e:=ex (nr q)+1) hm1 hm2;rw[←hQ] at p1 p2 ⊢;have hQl:Q<9218868437227405312:=om;obtain ⟨h1,h2,_⟩:=vj s Q (Nat.lt_trans hQl de);have hc:rg 4368491638549381120=4368491638549381120∧ng 4368491638549381120=false∧vl 4368491638549381120=2^1021:=by decide +kernel
 have hvQ:vl Q=q*2^53:=by
  rw[vl,p1,p2,Nat.pow_succ,←Nat.mul_assoc];have:=TA h0 hq;unfold vl at this;rw[this,Nat.mul_assoc]
 have:=qqx (a:=4368491638549381120) (b:=Ieee.double.word s Q) (r:=q) (by rw[hc.1];decide) (by rw[h1];exact hQl) om (fun P hP=>by
  rewrite [hc.1,h1,vR hq]
  exact ac2 hc.2.2 hvQ (ac1 (i:=1021) (j:=53) (n:=1074) hP de))
 rw[this,hc.2.1,h2,Bool.false_xor]
section
variable (w:World) (a k q:Nat) (ha:a<18446744073709551616) (h0:rg a≠0) (hf:rg a<9218868437227405312) (hk:k<4096) (hq:q<9218868437227405312) (hv:vl q=vl (rg a)*2^k)
include ha h0 hf hk hq hv
theorem GN (hn:4503599627370496≤q):Calls prog 145 #[.float .f64 a,.int .i64 ((k:Nat):Int)] w (aF w (.float .f64 (Ieee.double.word (ng a) q))):=by
 have hz:dU a=false:=decide_eq_false h0;have gJ:decide (rg a=9218868437227405312)=false:=decide_eq_false om;have hnn:=vvq hf;have hlt:=GK h0 hf;have hlow:=vQ h0;have hhigh:=yrx h0 hf;obtain ⟨hp1,hp2⟩:=qnz (ng a) hhigh;have hex:nr (rg a)/4503599627370496=ex (nr (rg a))+1:=by unfold ex;rw[if_neg om];omega
 have hmg:mg (nr (rg a))=4503599627370496+nr (rg a)%4503599627370496:=by unfold mg;rw[if_neg om]
 have aOj:ex (nr (rg a))≤2045:=om;have hfl:nr (rg a)%4503599627370496<4503599627370496:=Nat.mod_lt _ de;have aP0:=TJ a;have aY3:nd (rg a)≤52:=by unfold nd;split<;>omega
 have hfw:Ieee.double.word (ng a) (nr (rg a)%4503599627370496)<18446744073709551616:=(vj _ _ om).2.2;obtain ⟨hM,hE⟩:=vok h0 (q:=q) om hv;have hnq:nr q=q:=by rw[nr,if_neg om]
 have az0:nd q=0:=by unfold nd;rw[if_neg om]
 rw[hnq] at hM hE;rw[az0] at hE;have hrq:=J8 (r:=q);have heq:ex q≤2045:=by unfold ex;rw[if_neg om];omega
 have hB:((k:Nat):Int)+Qi a+(((ex (nr (rg a))+1:Nat):Int)-1023)=((ex q:Nat):Int)-1022:=om;have hor:=vkv (ng a) (x:=(ex q+1)*4503599627370496) hfl (Nat.mul_mod_left _ _) om;have hsum:=Bo hrq (hM.trans hmg);have hword:=congrArg (Ieee.double.word (ng a)) hsum;refine zd func145 rfl ntmps145 rfl ?_;have LW:=aC (No) w;have ak:=aN (No) w;have E:=aC (No) w;refine zv ?_;refine oe ?_;refine zr ?_;refine zw 8 rfl (by rw[gl,hz]<;>rfl) (ye ?_);refine zb yM (vg _ a ha) E fun w1 E=>(yu 14 rfl (by rw[gJ]<;>rfl) (zi ?_));refine zb Rs (km _ a) E fun w2 E=>(yu 17 rfl (by rw[hnn]<;>rfl) (yv ?_));refine zb Rt (ygz _ a ha h0 hf) E fun w3 E=>(yv ?_);refine yw ?_;refine zo ?_;refine Zj ?_;refine zp ?_;refine Bn ?_;refine yr 1 (.int .i64 (((ex q:Nat):Int)-1022)) rfl (by rw[hB]<;>rfl) (zv ?_);refine zw 42 rfl (by rw[decide_eq_false om]<;>rfl) (xf ?_);refine zw 48 rfl (by rw[decide_eq_false om]<;>rfl) (zo ?_);refine Bl ?_;refine za rfl (ki (z:=(((ex q+1)*4503599627370496:Nat):Int)) rfl rfl de (by show IntKind.u64.wrap ((((ex q:Nat):Int)-1022+1023)*4503599627370496)=_;rw[wrap_u64 om];omega) (za rfl (oJ rfl rfl (xb hfw om) (zk 58 (.int .u64 ((Ieee.double.word (ng a) q:Nat):Int)) rfl (by rw[hor.trans hword]<;>rfl) (zp ?_)))));refine za rfl (vq (b:=Ieee.double.word (ng a) q) z8 rfl (za rfl (jd (m:=4607182418800017408) (n:=Ieee.double.word (ng a) q) (.inr (.inr (.inl rfl))) rfl rfl ?_)));intro r w4 hr;have Ec:=hr.ext;replace E:=E.trans Ec.no;refine zn ?_;exact ⟨by rw[hr.some (Ny hq)];rfl,aP LW E ak⟩
theorem Nz (hn:q<4503599627370496) (hq0:q≠0):Calls prog 145 #[.float .f64 a,.int .i64 ((k:Nat):Int)] w (aF w (.float .f64 (Ieee.double.word (ng a) q))):=by
 have _:=hq;have hz:dU a=false:=decide_eq_false h0;have gJ:decide (rg a=9218868437227405312)=false:=decide_eq_false om;have hnn:=vvq hf;have hlt:=GK h0 hf;have hlow:=vQ h0;have hhigh:=yrx h0 hf;obtain ⟨hp1,hp2⟩:=qnz (ng a) hhigh;have hex:nr (rg a)/4503599627370496=ex (nr (rg a))+1:=by unfold ex;rw[if_neg om];omega
 have hmg:mg (nr (rg a))=4503599627370496+nr (rg a)%4503599627370496:=by unfold mg;rw[if_neg om]
 have aOj:ex (nr (rg a))≤2045:=om;have hfl:nr (rg a)%4503599627370496<4503599627370496:=Nat.mod_lt _ de;have aP0:=TJ a;have aY3:nd (rg a)≤52:=by unfold nd;split<;>omega
 have hfw:Ieee.double.word (ng a) (nr (rg a)%4503599627370496)<18446744073709551616:=(vj _ _ om).2.2;obtain ⟨hM,hE⟩:=vok h0 (q:=q) hq0 hv;have az0:nd q=52:=by unfold nd;rw[if_pos hn]
 rw[az0] at hE;have heq:ex (nr q)≤51:=by rw[(qpk hq0 hn).1];exact (yiq hq0 hn).1
 have hB:((k:Nat):Int)+Qi a+(((ex (nr (rg a))+1:Nat):Int)-1023)=((ex (nr q):Nat):Int)-1074:=om;have hor:=vkv (ng a) (x:=(ex (nr q)+2)*4503599627370496) hfl (Nat.mul_mod_left _ _) om;have hsum:=Bo (x:=ex (nr q)+1) (m:=mg (nr q)) rfl (hM.trans hmg);have hword:=congrArg (Ieee.double.word (ng a)) hsum;refine zd func145 rfl ntmps145 rfl ?_;have LW:=aC (No) w;have ak:=aN (No) w;have E:=aC (No) w;refine zv ?_;refine oe ?_;refine zr ?_;refine zw 8 rfl (by rw[gl,hz]<;>rfl) (ye ?_);refine zb yM (vg _ a ha) E fun w1 E=>(yu 14 rfl (by rw[gJ]<;>rfl) (zi ?_));refine zb Rs (km _ a) E fun w2 E=>(yu 17 rfl (by rw[hnn]<;>rfl) (yv ?_));refine zb Rt (ygz _ a ha h0 hf) E fun w3 E=>(yv ?_);refine yw ?_;refine zo ?_;refine Zj ?_;refine zp ?_;refine Bn ?_;refine yr 1 (.int .i64 (((ex (nr q):Nat):Int)-1074)) rfl (by rw[hB]<;>rfl) (zv ?_);refine zw 42 rfl (by rw[decide_eq_false om]<;>rfl) (xf ?_);refine qm 48 rfl (by rw[decide_eq_true om]<;>rfl) (ye ?_);refine yw ?_;refine zv ?_;refine Bl ?_;refine za rfl (ki (z:=(((ex (nr q)+2)*4503599627370496:Nat):Int)) rfl rfl de (by show IntKind.u64.wrap ((((ex (nr q):Nat):Int)-1074+53+1023)*4503599627370496)=_;rw[wrap_u64 om];omega) (za rfl (oJ rfl rfl (xb hfw om) (zk 58 (.int .u64 ((Ieee.double.word (ng a) ((ex (nr q)+1)*4503599627370496+mg (nr q)):Nat):Int)) rfl (by rw[hor.trans hword]<;>rfl) (zp ?_)))));refine za rfl (vq (b:=Ieee.double.word (ng a) ((ex (nr q)+1)*4503599627370496+mg (nr q))) z8 rfl (za rfl (jd (m:=4368491638549381120) (n:=Ieee.double.word (ng a) ((ex (nr q)+1)*4503599627370496+mg (nr q))) (.inr (.inr (.inl rfl))) rfl rfl ?_)));intro r w4 hr;have Ec:=hr.ext;replace E:=E.trans Ec.no;refine zn ?_;exact ⟨by rw[hr.some (ac3 hq0 hn)];rfl,aP LW E ak⟩
end
end
end Go.Proofs.YtmnmebdmpigddaaGreatDoor
namespace Go.Proofs.YtmnmebdmpigddaaGreatDoor
open Ieee
theorem ac5:vl 4845873199050653696=2^1127:=by decide +kernel
theorem vfq {p q s P:Nat} (hP:P=2^p) (h:p=q+s):P=2^q*2^s:=by rw[hP,h,Nat.pow_add]
theorem kM {k K P:Nat} (h:k≤K) (hP:P=2^K):2^k≤P:=by rw[hP];exact Nat.pow_le_pow_right de h
theorem ot (n:Nat):0<2^n:=Nat.pow_pos de
theorem TL {r K A P x:Nat} (h2:r≤A) (h1:K≤P) (hx:x=A*P):r*K≤x:=by rw[hx];exact Nat.mul_le_mul h2 h1
theorem NC {x P w:Nat} (h:w=x/P):w*P≤x:=by rw[h];exact Nat.div_mul_le_self _ _
theorem TM:vl 4845873199050653696=2^53*2^1074:=vfq (p:=1127) (q:=53) (s:=1074) ac5 de
theorem Br {r:Nat} (h:r<9007199254740992) {k:Nat} (hk:k≤1074):r*2^k≤vl 4845873199050653696:=by
 have h1:2^k≤2^1074:=kM hk rfl;have h2:r≤2^53:=Nat.le_of_lt h;exact TL h2 h1 TM
theorem zzx {m k R:Nat} (hm:m<9007199254740992) (h:m*2^k≤vl R):vl (gg (m*2^k))=m*2^k∧gg (m*2^k)≤R:=by
 obtain ⟨d,hd,hl⟩:=kK m k R hm h;rw[qev hd];exact ⟨hd,hl⟩
theorem Bt {r:Nat} (h:r<9007199254740992):FloatKind.f64.nearest (r:Int)=gg (r*2^1074):=by
 obtain ⟨h1,h2⟩:=zzx h (Br h (Nat.le_refl _));have:FloatKind.f64.nearest (r:Int)=double.write (.number false r 0):=by
  show double.write (.number (decide ((r:Int)<0)) (r:Int).natAbs 0)=_
  rw[decide_eq_false om];rfl
 rw[this,zqv (u:=1074) (d:=0) (r:=gg (r*2^1074)) (Nat.lt_of_le_of_lt h2 de) om (by rewrite [h1,Nat.pow_zero,Nat.mul_one];rfl)];rfl
theorem TN (s:Bool) (n t:Nat):Toward.zero.cut s n t=n/2^t:=by
 have e:Toward.zero.cut s n t=n/(1 <<< min t (n.log2+2)):=by
  unfold Toward.cut;simp only[Bool.toNat_false,Nat.add_zero]
 rw[e,Nat.shiftLeft_eq,Nat.one_mul];rcases Nat.le_total t (n.log2+2) with h | h
 · rw[Nat.min_eq_left h]
 · rw[Nat.min_eq_right h];have h1:=@Nat.lt_log2_self n;have h2:(2:Nat)^(n.log2+1)≤2^(n.log2+2):=Nat.pow_le_pow_right de om;have h3:(2:Nat)^(n.log2+2)≤2^t:=Nat.pow_le_pow_right de h;rw[Nat.div_eq_of_lt om,Nat.div_eq_of_lt om]
theorem ac6 (m i j:Nat):m*2^(i-j)/2^(j-i)=m*2^i/2^j:=by
 rcases Nat.le_total j i with h | h
 · rw[show j-i=0 from om,Nat.pow_zero,Nat.div_one,yex h,Nat.mul_div_cancel _ (Nat.pow_pos de)]
 · rw[show i-j=0 from om,Nat.pow_zero,Nat.mul_one];rw[show (2:Nat)^j=2^(j-i)*2^i by rw[←Nat.pow_add];congr 1;omega,Nat.mul_div_mul_right _ _ (Nat.pow_pos de)]
def vn (a:Nat):Nat:=vl (rg a)/2^1074
theorem qmq {a:Nat} (ha:rg a<9218868437227405312):(double.read a).integral .zero= .number (ng a) (vn a) 0:=by
 rw[vd ha,Datum.integral,TN,Nat.shiftLeft_eq];have e1:(-1074+(ex (rg a):Int)).toNat=ex (rg a)-1074:=om;have e2:(-(-1074+(ex (rg a):Int))).toNat=1074-ex (rg a):=om;rw[e1,e2,ac6];rfl
theorem Bu (s:Bool) (m:Nat):signed s m 0=if s then -(m:Int) else (m:Int):=by
 unfold signed;rw[Nat.shiftLeft_zero]
theorem toInt_fin {a:Nat} (ha:rg a<9218868437227405312):(FloatKind.f64.decode a).toInt .zero=some (if ng a then -(vn a:Int) else (vn a:Int)):=by
 show Datum.toInt .zero (double.read a)=_
 unfold Datum.toInt;rw[qmq ha];simp only[Bu]
theorem J9 {a:Nat} (ha:rg a<9218868437227405312) (h:vn a<9223372036854775808):floatToIntVal .f64 a .i64=some (if ng a then -(vn a:Int) else (vn a:Int)):=by
 unfold floatToIntVal;rw[toInt_fin ha];have h1:IntKind.i64.min= -9223372036854775808:=rfl;have h2:IntKind.i64.max=9223372036854775807:=rfl;simp only[h1,h2]
 rw[if_pos (by split<;>omega)]
theorem ac7 {a:Nat} (ha:rg a<9218868437227405312) (hs:ng a=false) (h:vn a<18446744073709551616):floatToIntVal .f64 a .u64=some (vn a:Int):=by
 unfold floatToIntVal;rw[toInt_fin ha,hs];have h1:IntKind.u64.min=0:=rfl;have h2:IntKind.u64.max=18446744073709551615:=rfl;simp only[h1,h2,Bool.false_eq_true,if_false]
 rw[if_pos om]
theorem rE {m P x:Nat} (hP:0<P) (h:x=m*P):x/P=m:=by rw[h,Nat.mul_div_cancel _ hP]
theorem ywz (s:Bool) {q m:Nat} (hq:q<9218868437227405312) (h:vl q=m*2^1074):vn (double.word s q)=m:=by
 unfold vn;rewrite [(vj s q (Nat.lt_trans hq de)).1]
 exact rE (ot 1074) h
theorem qcq {a:Nat} (ha:rg a<9218868437227405312):∃q,vl q=vn a*2^1074∧q≤rg a∧gz .zero a=double.word (ng a) q:=by
 have key:∃q,vl q=vn a*2^1074∧q≤rg a:=by
  have hle:vn a*2^1074≤vl (rg a):=NC rfl;rcases Nat.le_total (ex (rg a)) 1074 with h | h
  · refine kK (vn a) 1074 (rg a) ?_ hle;have:=Nq (rg a);have h2:vl (rg a)≤mg (rg a)*2^1074:=Nat.mul_le_mul_left _ (kM h rfl);have h3:vn a≤mg (rg a):=Nat.le_of_mul_le_mul_right (Nat.le_trans hle h2) (ot 1074);exact Nat.lt_of_le_of_lt h3 this
  · refine ⟨rg a,?_,Nat.le_refl _⟩;have e:vl (rg a)=mg (rg a)*2^(ex (rg a)-1074)*2^1074:=yex h _;have e2:vn a=mg (rg a)*2^(ex (rg a)-1074):=rE (ot 1074) e;rw[e2];exact e
 obtain ⟨q,h1,h2⟩:=key;refine ⟨q,h1,h2,?_⟩;show double.write ((double.read a).integral .zero)=_
 rw[qmq ha];exact zqv (u:=1074) (d:=0) (Nat.lt_of_le_of_lt h2 ha) om (by rw[h1,Nat.pow_zero,Nat.mul_one])
theorem ac8 (m n:Nat) {i j:Nat} (h:j≤i):(m*2^i)%(n*2^j)=(m*2^(i-j)%n)*2^j:=by rw[yex h,Nat.mul_mod_mul_right]
theorem ac9 (m n:Nat) {i j:Nat} (h:i≤j):(m*2^i)%(n*2^j)=(m%(n*2^(j-i)))*2^i:=by rw[yex h n,Nat.mul_mod_mul_right]
theorem rest_step (m n j:Nat):2*(m*2^j%n)%n=m*2^(j+1)%n:=by
 rw[Nat.mul_mod,Nat.mod_mod,←Nat.mul_mod,Nat.pow_succ];congr 1;rw[Nat.mul_left_comm,Nat.mul_comm 2]
theorem acz {r k R:Nat} (hr:r<9007199254740992) (hR:R<9218868437227405312) (h:r*2^(k+1)≤vl R):aR .mul (gg (r*2^k)) 4611686018427387904=some (gg (r*2^(k+1))):=by
 obtain ⟨h1,h2⟩:=zzx hr h;have hk:r*2^k≤vl R:=Nat.le_trans (Nat.mul_le_mul_left _ (Nat.pow_le_pow_right de om)) h;obtain ⟨h3,h4⟩:=zzx hr hk;have e:vl (gg (r*2^(k+1)))=2*vl (gg (r*2^k)):=by rw[h1,h3,Nat.pow_succ,←Nat.mul_assoc,Nat.mul_comm 2]
 exact Bp (s:=false) (q:=gg (r*2^k)) (r:=gg (r*2^(k+1))) (Nat.lt_of_le_of_lt h4 hR) (Nat.lt_of_le_of_lt h2 hR) e
theorem ND {r k R:Nat} (hr:r<9007199254740992) (hR:R<9218868437227405312) (h:r*2^(k+1)≤vl R):aR .quo (gg (r*2^(k+1))) 4611686018427387904=some (gg (r*2^k)):=by
 obtain ⟨h1,h2⟩:=zzx hr h;have hk:r*2^k≤vl R:=Nat.le_trans (Nat.mul_le_mul_left _ (Nat.pow_le_pow_right de om)) h;obtain ⟨h3,h4⟩:=zzx hr hk;have e:vl (gg (r*2^(k+1)))=2*vl (gg (r*2^k)):=by rw[h1,h3,Nat.pow_succ,←Nat.mul_assoc,Nat.mul_comm 2]
 exact GQ (s:=false) (q:=gg (r*2^(k+1))) (r:=gg (r*2^k)) (Nat.lt_of_le_of_lt h2 hR) (Nat.lt_of_le_of_lt h4 hR) e
def bg0 (a b:Nat):Bool:=if sv a+sv b=0 then ng a&&ng b else decide (sv a+sv b<0)
theorem aP2 {x m P:Nat} (h:x=m*P):P∣x:=⟨m,by rw[h,Nat.mul_comm]⟩
theorem az1 {x j P:Nat} (h:x=j*P) (e:j=0):x=0:=by rw[h,e,Nat.zero_mul]
def acj (r:Nat):Prop:=2^1074∣vl r
theorem TP {a:Nat}:acj (rg a)↔vl (rg a)=vn a*2^1074:=by
 constructor
 · intro h;exact (Nat.div_mul_cancel h).symm
 · intro h;exact aP2 h
theorem TQ {y:Nat} (hy:y≠0):∀(r:Nat),r<9218868437227405312→ ∃d,d≤r∧vl d=vl r%vl y:=by
 intro r;induction r using Nat.strongRecOn with
 | _ r ih=>
  intro hr;rcases Nat.lt_or_ge r y with h | h
  · exact ⟨r,Nat.le_refl _,(Nat.mod_eq_of_lt (Za h)).symm⟩
  · obtain ⟨q,d,h1,h2,h3,h4,h5,h6,h7,h8⟩:=kL hr hy h;obtain ⟨e,he1,he2⟩:=ih d h7 om;exact ⟨e,om,by rw[he2,h6]⟩
noncomputable def gK (a b:Nat):Nat:=if rg b=9218868437227405312 then rg a else gg (vl (rg a)%vl (rg b))
noncomputable def dH (a b:Nat):Nat:=double.word (ng a) (gK a b)
theorem TS {a b:Nat} (ha:rg a<9218868437227405312) (h0:rg b≠0) (hb:rg b≠9218868437227405312):vl (gK a b)=vl (rg a)%vl (rg b)∧gK a b≤rg a:=by
 obtain ⟨d,h1,h2⟩:=TQ h0 (rg a) ha;rw[gK,if_neg hb,←h2,qev rfl];exact ⟨rfl,h1⟩
theorem qhv {a b:Nat} (ha:rg a<9218868437227405312) (h0:rg b≠0):gK a b≤rg a:=by
 by_cases hb:rg b=9218868437227405312
 · rw[gK,if_pos hb];exact Nat.le_refl _
 · exact (TS ha h0 hb).2
theorem qbk {a b d:Nat} (hb:rg b≠9218868437227405312) (h:vl d=vl (rg a)%vl (rg b)):gK a b=d:=by rw[gK,if_neg hb,qev h]
theorem rF {a b:Nat} (h:rg a=0):gK a b=0:=by
 unfold gK;split
 · exact h
 · exact qev (by rw[h,LV,Nat.zero_mod])
theorem yaq {a b:Nat} (ha:rg a<9218868437227405312) (h0:rg b≠0):rg (dH a b)=gK a b∧ng (dH a b)=ng a∧dH a b<18446744073709551616:=vj _ _ (by have:=qhv ha h0;omega)
theorem znq {a:Nat} (ha:a<18446744073709551616):double.word (ng a) (rg a)=a:=by
 exact TH
theorem Ka {a b:Nat} (ha:rg a<9218868437227405312) (hb:rg b<9218868437227405312):∃z,aR .add a b=some z:=by
 simp only[aR,Format.add,vd ha,vd hb,Datum.sum,Option.map_some]
 exact ⟨_,rfl⟩
theorem ad1 {a b:Nat} (ha:rg a<9218868437227405312) (hb:rg b=9218868437227405312):aR .add a b=some (double.word (ng b) 9218868437227405312):=by
 simp only[aR,Format.add,vd ha,xn hb,Datum.sum,Option.map_some,Format.write,c3]
theorem qp {b:Nat} (hb:rg b<9218868437227405312):aW b=false:=decide_eq_false om
theorem Kc {a b:Nat} (ha:rg a<9218868437227405312) (hb:rg b<9218868437227405312) (aP3:b<18446744073709551616):∃z,aR .sub a b=some z:=by
 rw[uW aP3 (qp hb)];exact Ka ha (by rw[(zdk aP3).1];exact hb)
theorem yrz (s:Bool) (m:Nat) (p:Int):ng (double.nearest s m p)=s:=by
 unfold Format.nearest;split
 · exact (vj s 0 de).2.1
 · refine (vj s _ (Nat.lt_of_le_of_lt (Nat.min_le_right _ _) ?_)).2.1;rw[c3];decide
theorem vW {a b:Nat} (ha:aW a=false) (hb:aW b=false) (h0:rg b≠0) (hi:rg a<9218868437227405312∨rg b<9218868437227405312):∃z,aR .quo a b=some z∧ng z=(ng a ^^ ng b):=by
 have hA:rg a<9218868437227405312∨rg a=9218868437227405312:=by have:=of_decide_eq_false ha;omega
 have hB:rg b<9218868437227405312∨rg b=9218868437227405312:=by have:=of_decide_eq_false hb;omega
 rcases hA with hA | hA<;>rcases hB with hB | hB
 · simp only[aR,Format.div,vd hA,vd hB,Datum.quotient]
   rw[if_neg (kH h0)];exact ⟨_,rfl,yrz _ _ _⟩
 · simp only[aR,Format.div,vd hA,xn hB,Datum.quotient]
   exact ⟨_,rfl,yrz _ _ _⟩
 · simp only[aR,Format.div,xn hA,vd hB,Datum.quotient]
   exact ⟨_,rfl,(vj _ _ (by rw[c3];decide)).2.1⟩
 · omega
theorem vX {a:Nat} (ha:aW a=false):∃z,aR .sub a 4607182418800017408=some z:=by
 have h1:rg 4607182418800017408=4607182418800017408:=de;have hA:rg a<9218868437227405312∨rg a=9218868437227405312:=by have:=of_decide_eq_false ha;omega
 rcases hA with hA | hA
 · exact Kc hA (by rw[h1];decide) de
 · simp only[aR,Format.sub,xn hA,vd (b:=4607182418800017408) (by rw[h1];decide),Datum.opposite,Datum.sum,Option.map_some]
   exact ⟨_,rfl⟩
def kn (a b:Nat):Bool:=aW a || aW b || decide (rg a=9218868437227405312)
noncomputable def Ke (a b:Nat):Bool:=decide (gK a b≠0)&&(ng a !=ng b)
noncomputable def fB (a b:Nat):Nat:=if kn a b then 9221120237041090560 else if gK a b=0 then double.word (ng b) 0 else if Ke a b then ji (aR .add (dH a b) b) else dH a b
noncomputable def vY (a b:Nat):Nat:=ji (aR .sub a (dH a b))
noncomputable def cO (a b:Nat):Nat:=ji (aR .quo (vY a b) b)
noncomputable def Bv (a b:Nat):Nat:=if Ke a b then ji (aR .sub (cO a b) 4607182418800017408) else cO a b
def upB (d:Nat):Bool:=match aR .sub d (gz .down d) with
 | some z=>gk z 4602678819172646912==some .gt
 | none=>false
def vek (d:Nat):Nat:=if upB d then ji (aR .add (gz .down d) 4607182418800017408) else gz .down d
noncomputable def oo (a b:Nat):Nat:=if kn a b then 9221120237041090560 else if dU (Bv a b) then double.word (ng a ^^ ng b) 0 else vek (Bv a b)
theorem rG {z:Option Nat} {r:Nat} (h:z=some r):ji z=r:=by rw[h];rfl
section
variable {a b:Nat} (ha:a<18446744073709551616) (hf:rg a<9218868437227405312) (hb:b<18446744073709551616) (hn:aW b=false) (h0:rg b≠0)
include hf h0
theorem GR:aR .sub a (dH a b)=some (vY a b):=by
 obtain ⟨m1,m2,m3⟩:=yaq hf h0;obtain ⟨z,hz⟩:=Kc hf (by rw[m1];have:=qhv hf h0;omega) m3;rw[vY,hz];rfl
include hn ha
theorem TT:aR .quo (vY a b) b=some (cO a b):=by
 have hs:=P8 (GR hf h0);have hB:rg b<9218868437227405312∨rg b=9218868437227405312:=by have:=of_decide_eq_false hn;omega
 have:∃z,aR .quo (vY a b) b=some z∧ng z=(ng (vY a b) ^^ ng b):=by
  refine vW hs.1 hn h0 ?_;rcases hB with hB | hB
  · exact .inr hB
  · left
    have hm:dH a b=a:=by rw[dH,gK,if_pos hB];exact znq ha
    have h1:=GR hf h0;rw[hm,sub_self (qp hf),if_neg om] at h1;rw[←Option.some.inj h1];decide
 obtain ⟨z,hz,_⟩:=this;rw[cO,hz];rfl
theorem GU:aW (cO a b)=false∧cO a b<18446744073709551616:=P8 (TT ha hf hn h0)
theorem TU:aR .sub (cO a b) 4607182418800017408=some (ji (aR .sub (cO a b) 4607182418800017408)):=by
 obtain ⟨z,hz⟩:=vX (GU ha hf hn h0).1;rw[hz];rfl
theorem GV:aW (Bv a b)=false∧Bv a b<18446744073709551616:=by
 unfold Bv;split
 · exact P8 (TU ha hf hn h0)
 · exact GU ha hf hn h0
omit ha in
theorem az2:aR .add (dH a b) b=some (ji (aR .add (dH a b) b)):=by
 obtain ⟨m1,m2,m3⟩:=yaq hf h0;have hB:rg b<9218868437227405312∨rg b=9218868437227405312:=by have:=of_decide_eq_false hn;omega
 have hm:rg (dH a b)<9218868437227405312:=by rw[m1];have:=qhv hf h0;omega
 rcases hB with hB | hB
 · obtain ⟨z,hz⟩:=Ka hm hB;rw[hz];rfl
 · rw[ad1 hm hB];rfl
end
theorem zmz {b:Nat} (hn:aW b=false) (h0:rg b≠0):(gk b 0==some .lt)=ng b:=by
 rw[ztk hn de];have hp:pc 0=0:=de;rw[hp];obtain ⟨p1,p2⟩:=qov b;cases h:ng b with
 | true=>rw[ZW (by rw[p1 h];omega)];rfl
 | false=>rw[qjv (by rw[p2 h];omega)];rfl
theorem zjq {a b:Nat} (h:aW a=true) (o:Ordering):(gk a b==some o)=false:=by rw[ztv (.inl h)];rfl
end Go.Proofs.YtmnmebdmpigddaaGreatDoor
namespace Go.Proofs.YtmnmebdmpigddaaGreatDoor
open Go.RowKit Proofs.Tryz
section
attribute [local irreducible] OW RS CW EW
theorem Bw {P Q:Prop} (k:Q) (h:(Unit→Q)→P:=by
 intro zK;refine vp ?_;refine Zk ?_;refine yr 47 (.bool (decide (mg (nr r)<mg (nr (rg b))))) rfl (by rw[az3 k1 hq k2 hb0]<;>rfl) ?_;exact zK ()):P:=h fun _=>k
theorem kN {P Q:Prop} (k:Q) (h:(Unit→Q)→P:=by
 intro zK;refine yu 14 rfl (by rw[decide_eq_false om]<;>rfl) (zr ?_);exact zK ()):P:=h fun _=>k
theorem Bz {P Q:Prop} (k:Q) (h:(Unit→Q)→P:=by
 intro zK;refine Zk ?_;refine qm 58 rfl (by rw[zmz (qp hf) ha0,h]<;>rfl) (zr ?_);refine za rfl (qyv rfl (yv ?_));exact zK ()):P:=h fun _=>k
theorem yxx {P Q:Prop} (k:Q) (h:(Unit→Q)→P:=by
 intro zK;refine zn ?_;refine za rfl (ZO rfl rfl (zi ?_));exact zK ()):P:=h fun _=>k
theorem qux {P Q:Prop} (k:Q) (h:(Unit→Q)→P:=by
 intro zK;refine qc ?_;refine oe ?_;refine aK ?_;refine yu 12 rfl (by rw[gl,hz]<;>rfl) (aK ?_);exact zK ()):P:=h fun _=>k
theorem quq {P Q:Prop} (k:Q) (h:(Unit→Q)→P:=by
 intro zK;refine yp ?_;refine zk 54 (.int .i64 ((Bq r (rg b):Nat):Int)) rfl (by rw[←hfe];congr 1;omega) ?_;exact zK ()):P:=h fun _=>k
theorem qdq {P:Prop} (h:P:=by
 refine zo ?_;exact xq):P:=h
theorem ytx {P:Prop} (h:P:=by
 refine yk ?_;exact xq):P:=h
theorem aq2 {P:Prop} (h:P:=by
 refine zk 55 (.float .f64 q) rfl (by rw[TD];rfl) (za rfl (P7 (z:=d) (.inr (.inl rfl)) rfl rfl (rD k1 om om f5) (zr ?_)));exact zx d (f7) ⟨rfl,rfl,rfl,rfl,rfl,trivial⟩ ⟨M6.step E iw,⟨om,by rw[f6];exact hr2⟩⟩):P:=h
theorem aq3 {P:Prop} (h:P:=by
 refine zk 55 (.float .f64 q) rfl (by rw[TD];rfl) (za rfl (P7 (z:=d) (.inr (.inl rfl)) rfl rfl (rD k1 om om f5) (zr ?_)));exact zx d (f7) ⟨rfl,rfl,rfl,rfl,rfl,trivial⟩ ⟨M11.step E aY4,⟨om,by rw[f6];exact hr2⟩⟩):P:=h
theorem qck {r y:Nat} (hr:r<9218868437227405312) (hy:y≤9218868437227405312):(gk r y==some .gt || gk r y==some .eq)=decide (y≤r):=by
 have e1:=Nat.mod_eq_of_lt (show r<9223372036854775808 from om);have e2:=Nat.mod_eq_of_lt (show y<9223372036854775808 from om);have h:=@vwz r y (decide_eq_false (by show ¬9218868437227405312<r%9223372036854775808;omega)) (decide_eq_false (by show ¬9218868437227405312<y%9223372036854775808;omega));unfold rg at h;rw[e1,e2] at h;rw[h];rcases Nat.lt_trichotomy r y with h1 | h1 | h1
 · rw[ZW om,decide_eq_false om];rfl
 · subst h1;rw[ymv,decide_eq_true (Nat.le_refl _)];rfl
 · rw[qjv om,decide_eq_true om];rfl
theorem ypz {r:Nat} (h:r<9223372036854775808):rg r=r∧ng r=false:=by
 have:=vj false r h;exact ⟨this.1,this.2.1⟩
theorem vvv {r:Nat} (hr:r<9218868437227405312):gG r=4602678819172646912+(mg (nr r)-4503599627370496):=by
 obtain ⟨h1,h2⟩:=ypz (r:=r) om;rw[gG,h1,h2];rfl
theorem az3 {r y:Nat} (hr:r<9218868437227405312) (hy:y<9218868437227405312) (r0:r≠0) (y0:y≠0):(gk (gG r) (gG y)==some .lt)=decide (mg (nr r)<mg (nr y)):=by
 obtain ⟨r1,r2⟩:=qbv r0;obtain ⟨y1,y2⟩:=qbv y0;rw[vvv hr,vvv hy];have h:=qck (r:=4602678819172646912+(mg (nr r)-4503599627370496)) (y:=4602678819172646912+(mg (nr y)-4503599627370496)) om om;have e1:=Nat.mod_eq_of_lt (show 4602678819172646912+(mg (nr r)-4503599627370496)<9223372036854775808 from om);have e2:=Nat.mod_eq_of_lt (show 4602678819172646912+(mg (nr y)-4503599627370496)<9223372036854775808 from om);have h:=@vwz (4602678819172646912+(mg (nr r)-4503599627370496)) (4602678819172646912+(mg (nr y)-4503599627370496)) (decide_eq_false (by show ¬9218868437227405312<_%9223372036854775808;omega)) (decide_eq_false (by show ¬9218868437227405312<_%9223372036854775808;omega));unfold rg at h;rw[e1,e2] at h;rw[h];by_cases hc:mg (nr r)<mg (nr y)
 · rw[ZW om,decide_eq_true hc];rfl
 · rw[decide_eq_false hc,nT,if_neg om];split<;>rfl
theorem vwx {r:Nat} (hr:r<9218868437227405312):ig r=(ex (nr r):Int)-1021-(nd r:Int):=by
 obtain ⟨h1,_⟩:=ypz (r:=r) om;unfold ig nd;rw[h1];split<;>rfl
theorem Kg {r y:Nat} (hr:r<9218868437227405312) (hy:y<9218868437227405312) (h:ex (nr y)+nd r+(if mg (nr r)<mg (nr y) then 1 else 0)≤ex (nr r)+nd y):ig r-ig y-(if mg (nr r)<mg (nr y) then 1 else 0:Nat)=((Bq r y:Nat):Int):=by
 rw[vwx hr,vwx hy];unfold Bq;omega
theorem ylv {r:Nat} (hr:r<9218868437227405312):-1100≤ig r∧ig r≤1100:=by
 rw[vwx hr];have h1:ex (nr r)≤2045:=by
  by_cases h0:r=0
  · subst h0;decide
  · have:=yrx h0 hr;unfold ex;split<;>omega
 have h2:nd r≤52:=by unfold nd;split<;>omega
 omega
theorem BA {a:Nat} (ha:a<18446744073709551616) (h:ng a=false):rg a=a:=by
 rw[qH ha] at h;have:=of_decide_eq_false h;exact Nat.mod_eq_of_lt om
theorem BD {a:Nat} (ha:a<18446744073709551616) (h:ng a=true):a ^^^ 9223372036854775808=rg a:=by
 rw[qH ha] at h;have h1:=of_decide_eq_true h;obtain ⟨c,rfl⟩:∃c,a=9223372036854775808+c:=⟨a-9223372036854775808,om⟩;have h2:=vpv (b:=c) om;unfold qg at h2;rw[h2];unfold rg;omega
theorem TV {r:Nat} (h:r<9223372036854775808):r ^^^ 9223372036854775808=Ieee.double.word true r:=by
 have:=qpv h;unfold qg at this;rw[this];unfold Ieee.Format.word;rw[c1];rfl
section
variable (w:World)
section
variable (a:Nat) (ha:a<18446744073709551616) (h0:rg a≠0) (hf:rg a<9218868437227405312)
include ha
section
include h0 hf
theorem zpk:Calls prog 90 #[.float .f64 a] w (aF w (.tuple #[.float .f64 (gG a),.int .i64 (ig a)])):=by
 refine zd func90 rfl ntmps90 rfl ?_;have LW:=aC (No) w;have ak:=aN (No) w;have E:=aC (No) w;refine ja ?_;refine zb Rq (Nv _ a ha h0 hf) E fun w1 E=>?_;exact ytx
theorem NG (k q:Nat) (hk:k<4096) (hq:q<9218868437227405312) (hv:vl q=vl (rg a)*2^k):Calls prog 145 #[.float .f64 a,.int .i64 ((k:Nat):Int)] w (aF w (.float .f64 (Ieee.double.word (ng a) q))):=by
 rcases Nat.lt_or_ge q 4503599627370496 with hn | hn
 · refine Nz w a k q ha h0 hf hk hq hv hn (fun e=>?_);subst e;rw[LV] at hv;have h1:0<vl (rg a):=by
    rcases Nat.eq_zero_or_pos (vl (rg a)) with h' | h'
    · exact absurd (ywq.1 h') h0
    · exact h'
   have:=Nat.mul_pos h1 (show 0<2^k from Nat.pow_pos de);omega
 · exact GN w a k q ha h0 hf hk hq hv hn
theorem zpq (k q:Nat) (hk:k<4096) (hq:q<9218868437227405312) (hv:vl q=vl (rg a)*2^k):Calls prog 92 #[.float .f64 a,.int .i64 ((k:Nat):Int)] w (aF w (.float .f64 (Ieee.double.word (ng a) q))):=by
 refine zd func92 rfl ntmps92 rfl ?_;have LW:=aC (No) w;have ak:=aN (No) w;have E:=aC (No) w;refine ja ?_;refine zb anq (NG _ a ha h0 hf k q hk hq hv) E fun w1 E=>?_;exact Qg
end
section
variable (hz:rg a=0)
include hz
theorem GY:Calls prog 141 #[.float .f64 a] w (aF w (.tuple #[.float .f64 a,.int .i64 0])):=by
 have _:=ha;have hz2:dU a=true:=decide_eq_true hz;refine zd func141 rfl ntmps141 rfl ?_;have LW:=aC (No) w;have ak:=aN (No) w;have E:=aC (No) w;refine yv ?_;refine oe ?_;refine zr ?_;refine qm 5 rfl (by rw[gl,hz2]<;>rfl) (vp ?_);exact xq
theorem kP:Calls prog 90 #[.float .f64 a] w (aF w (.tuple #[.float .f64 a,.int .i64 0])):=by
 refine zd func90 rfl ntmps90 rfl ?_;have LW:=aC (No) w;have ak:=aN (No) w;have E:=aC (No) w;refine ja ?_;refine zb Rq (GY _ a ha hz) E fun w1 E=>?_;exact ytx
theorem GZ (k:Int):Calls prog 145 #[.float .f64 a,.int .i64 k] w (aF w (.float .f64 a)):=by
 have _:=ha;have hz2:dU a=true:=decide_eq_true hz;refine zd func145 rfl ntmps145 rfl ?_;have LW:=aC (No) w;have ak:=aN (No) w;have E:=aC (No) w;refine zv ?_;refine oe ?_;refine zr ?_;refine qm 8 rfl (by rw[gl,hz2]<;>rfl) (yv ?_);exact xq
theorem kQ (k:Int):Calls prog 92 #[.float .f64 a,.int .i64 k] w (aF w (.float .f64 a)):=by
 refine zd func92 rfl ntmps92 rfl ?_;have LW:=aC (No) w;have ak:=aN (No) w;have E:=aC (No) w;refine ja ?_;refine zb anq (GZ _ a ha hz k) E fun w1 E=>?_;exact Qg
end
section
variable (hi:rg a=9218868437227405312)
include hi
theorem NH:Calls prog 141 #[.float .f64 a] w (aF w (.tuple #[.float .f64 a,.int .i64 0])):=by
 have hz2:dU a=false:=decide_eq_false om;have gJ:decide (rg a=9218868437227405312)=true:=decide_eq_true hi;refine zd func141 rfl ntmps141 rfl ?_;have LW:=aC (No) w;have ak:=aN (No) w;have E:=aC (No) w;refine yv ?_;refine oe ?_;refine zr ?_;refine zw 5 rfl (by rw[gl,hz2]<;>rfl) (ye ?_);refine zb yM (vg _ a ha) E fun w1 E=>(vf 11 rfl (by rw[gJ]<;>rfl) (jI ?_));exact xq
theorem rH:Calls prog 90 #[.float .f64 a] w (aF w (.tuple #[.float .f64 a,.int .i64 0])):=by
 refine zd func90 rfl ntmps90 rfl ?_;have LW:=aC (No) w;have ak:=aN (No) w;have E:=aC (No) w;refine ja ?_;refine zb Rq (NH _ a ha hi) E fun w1 E=>?_;exact ytx
end
end
theorem wh:Gives 247 #[] (.float .f64 9221120237041090561):=by
 intro w;refine zd func247 rfl ntmps247 rfl ?_;have LW:=aC (No) w;have ak:=aN (No) w;have E:=aC (No) w;refine zp ?_;refine za rfl (vq (b:=9221120237041090561) z8 rfl (ye ?_));refine ks (rs:=[.tmp 0]) (vs:=[.float .f64 9221120237041090561]) rfl ⟨rfl,trivial⟩ ?_;exact xq
section
variable (a b:Nat) (ha:a<18446744073709551616) (hbq:b<18446744073709551616) (hz:dU b=false)
include ha hbq hz
theorem ad2 (hc:kn a b=true):Calls prog 212 #[.float .f64 a,.float .f64 b] w (aF w (.float .f64 9221120237041090561)):=by
 have _:=hbq;refine zd func212 rfl ntmps212 rfl ?_;have LW:=aC (No) w;have ak:=aN (No) w;have E:=aC (No) w;refine qux ?_;refine zb yM (vg _ a ha) E fun w1 E=>(zi ?_);refine zy 16 rfl (fun h1=>?_) (fun h1=>?_)
 ·
  refine vp ?_;refine zb Rw (wh _) E fun w2 E=>?_;exact qdq
 ·
  refine aK ?_;refine zb Rs (km _ a) E fun w3 E=>(zi ?_);refine zy 20 rfl (fun h2=>?_) (fun h2=>?_)
  ·
   refine yk ?_;refine zb Rw (wh _) E fun w4 E=>?_;exact qdq
  ·
   refine aK ?_;refine zb Rs (km _ b) E fun w5 E=>(vf 22 rfl (by rw[kn,h1,h2,Bool.false_or,Bool.or_false] at hc;rw[hc]) (zo ?_));refine zb Rw (wh _) E fun w6 E=>?_;exact qdq
section
variable (hf:rg a<9218868437227405312) (hn:aW b=false)
include hf hn
theorem mod_zero (hza:rg a=0) (F:Nat) (E:Int) (hF:∀w,Calls prog 90 #[.float .f64 (rg b)] w fun e w'=>e= .returned (.tuple #[.float .f64 F,.int .i64 E])∧Below w.heap.size w w'):Calls prog 212 #[.float .f64 a,.float .f64 b] w fun e w'=>e= .returned (.float .f64 a)∧Below w.heap.size w w':=by
 have hp:pc a=0:=by unfold pc;split<;>omega
 have hb0:rg b≠0:=of_decide_eq_false hz;have hpb:pc (rg b)=((rg b:Nat):Int):=TF b;have hlt:(gk a 0==some .lt)=false:=by rw[ztk (qp hf) de,hp];decide
 have hge:(gk a (rg b)==some .gt || gk a (rg b)==some .eq)=false:=by rw[ztk (qp hf) (by rw[vU];exact hn),hp,hpb,ZW om];rfl
 refine zd func212 rfl ntmps212 rfl ?_;have LW:=aC (No) w;have ak:=aN (No) w;have E:=aC (No) w;refine qux ?_;refine zb yM (vg _ a ha) E fun w1 E=>(kN ?_);refine zb Rs (km _ a) E fun w2 E=>(yu 18 rfl (by rw[qp hf]<;>rfl) (zr ?_));refine zb Rs (km _ b) E fun w3 E=>(yu 22 rfl (by rw[hn]<;>rfl) (qc ?_));refine zb vrx (yfv _ b hbq) E fun w4 E=>(zo ?_);refine zb oQ (hF _) E fun w5 E=>(ou ?_);refine Zk ?_;refine zw 34 rfl (by rw[hlt]<;>rfl) (zn ?_);refine ZN (yxx ?_);refine zw 39 rfl (by rw[hge]<;>rfl) (zv ?_);refine Zk ?_;refine zw 58 rfl (by rw[hlt]<;>rfl) (yv ?_);exact xq
section
variable (ha0:rg a≠0)
include ha0
theorem ad3 (hq:rg b=9218868437227405312):Calls prog 212 #[.float .f64 a,.float .f64 b] w (aF w (.float .f64 a)):=by
 refine zd func212 rfl ntmps212 rfl ?_;have LW:=aC (No) w;have ak:=aN (No) w;have E:=aC (No) w;refine qux ?_;refine zb yM (vg _ a ha) E fun w1 E=>(kN ?_);refine zb Rs (km _ a) E fun w2 E=>(yu 18 rfl (by rw[qp hf]<;>rfl) (zr ?_));refine zb Rs (km _ b) E fun w3 E=>(yu 22 rfl (by rw[hn]<;>rfl) (qc ?_));refine zb vrx (yfv _ b hbq) E fun w4 E=>(zo ?_);refine zb oQ (rH _ (rg b) (Nat.lt_trans (LX b) de) (by rw[nX];exact hq)) E fun w5 E=>(ou ?_);refine Zk ?_;refine yr 34 (.bool (ng a)) rfl (by rw[zmz (qp hf) ha0]<;>rfl) (zf rfl (fun h=>?_) (fun h=>?_))
 ·
  refine zi ?_;refine za rfl (qyv rfl (zn ?_));refine ZN (yxx ?_);refine zw 39 rfl (by rw[BD ha h,qck hf (Nat.le_of_eq hq),decide_eq_false om]<;>rfl) (zv ?_);refine Bz ?_;exact ⟨by rw[Nat.xor_assoc,Nat.xor_self,Nat.xor_zero];rfl,aP LW E ak⟩
 ·
  have hps:=BA ha h;refine ye ?_;refine ZN (yxx ?_);refine zw 39 rfl (by rw[show gk a (rg b)=gk (rg a) (rg b) by rw[hps],qck hf (Nat.le_of_eq hq),decide_eq_false om]) (zv ?_);refine Zk ?_;refine zw 58 rfl (by rw[zmz (qp hf) ha0,h]<;>rfl) (yv ?_);exact xq
variable (hq:rg b<9218868437227405312)
include hq
theorem ad4:Calls prog 212 #[.float .f64 a,.float .f64 b] w (aF w (.float .f64 (dH a b))):=by
 have hb0:rg b≠0:=of_decide_eq_false hz;have hbs:=nX b;have hfit:∀r,rg b≤r→r≤rg a→r<9218868437227405312∧r≠0∧r<18446744073709551616∧rg r=r:=fun r h1 h2=>⟨om,om,om,(ypz om).1⟩;refine zd func212 rfl ntmps212 rfl ?_;have LW:=aC (No) w;have ak:=aN (No) w;have E:=aC (No) w;refine qux ?_;refine zb yM (vg _ a ha) E fun w1 E=>(kN ?_);refine zb Rs (km _ a) E fun w2 E=>(yu 18 rfl (by rw[qp hf]<;>rfl) (zr ?_));refine zb Rs (km _ b) E fun w3 E=>(yu 22 rfl (by rw[hn]<;>rfl) (qc ?_));refine zb vrx (yfv _ b hbq) E fun w4 E=>(zo ?_);refine zb oQ (zpk _ (rg b) (Nat.lt_trans (LX b) de) (by rw[nX];exact hb0) (by rw[nX];exact hq)) E fun w5 E=>(ou ?_);refine Zk ?_;refine yr 34 (.bool (ng a)) rfl (by rw[zmz (qp hf) ha0]<;>rfl) (zf rfl (fun h=>?_) (fun h=>?_))
 ·
  refine zi ?_;refine za rfl (qyv rfl (zn ?_));replace LW:=LW.step E ak;replace E:=aC (No) w5;refine qw (ι:=Nat) (fun r=>[(0,.float .f64 a),(1,.float .f64 (rg b)),(5,.float .f64 (gG (rg b))),(6,.int .i64 (ig (rg b))),(7,.float .f64 r)]) (fun r w'=>Ext (No) w5 w'∧(r≤rg a∧vl r%vl (rg b)=vl (rg a)%vl (rg b))) (fun r=>r) (rg a) ⟨rfl,rfl,rfl,rfl,congrArg (fun z=>some (Value.float .f64 z)) (BD ha h),trivial⟩ ⟨Ext.refl _ _,⟨Nat.le_refl _,rfl⟩⟩ ?_;rintro r w7 ⟨M6,⟨hr1,hr2⟩⟩;have iw:=aN (No) w5;replace E:=E.trans M6;replace LW:=LW.step E ak;replace E:=aC (No) w7;refine yxx ?_;refine yr 39 (.bool (decide (rg b≤r))) rfl (by rw[qck om om]<;>rfl) (zf rfl (fun hc=>?_) (fun hc=>?_))
  ·
   have hc:=of_decide_eq_true hc;obtain ⟨k1,k2,k3,k4⟩:=hfit r hc hr1;obtain ⟨q,d,f1,f2,f3,f4,f5,f6,f7,f8⟩:=kL k1 hb0 hc;have hbr:=ylv k1;have hby:=ylv hq;have hfe:=Kg k1 hq (vlz hb0 hc).1;refine zo ?_;refine zb oQ (zpk _ r k3 (by rw[k4];exact k2) (by rw[k4];exact k1)) E fun w8 E=>(Bw ?_);refine zf rfl (fun hl=>?_) (fun hl=>?_)
   ·
    have hl:=of_decide_eq_true hl;rw[if_pos hl] at hfe;refine zi ?_;refine yp ?_;refine yk ?_;refine quq ?_;refine zb vB (zpq _ (rg b) (Nat.lt_trans (LX b) de) (by rw[nX];exact hb0) (by rw[nX];exact hq) (Bq r (rg b)) q f8 om (by rw[hbs];exact f4)) E fun w9 E=>?_;exact aq2
   ·
    have hl:=of_decide_eq_false hl;rw[if_neg hl] at hfe;refine zp ?_;refine quq ?_;refine zb vB (zpq _ (rg b) (Nat.lt_trans (LX b) de) (by rw[nX];exact hb0) (by rw[nX];exact hq) (Bq r (rg b)) q f8 om (by rw[hbs];exact f4)) E fun dI E=>?_;exact aq2
  ·
   have hc:=of_decide_eq_false hc;have hend:r=gK a b:=(qbk (a:=a) (b:=b) om (hr2▸(Nat.mod_eq_of_lt (Za om)).symm)).symm;refine qc ?_;refine Bz ?_;exact ⟨by rw[show r ^^^ 9223372036854775808=dH a b by rw[TV om,hend,dH,h]];rfl,aP LW E ak⟩
 ·
  have hps:=BA ha h;refine ye ?_;replace LW:=LW.step E ak;replace E:=aC (No) w5;refine qw (ι:=Nat) (fun r=>[(0,.float .f64 a),(1,.float .f64 (rg b)),(5,.float .f64 (gG (rg b))),(6,.int .i64 (ig (rg b))),(7,.float .f64 r)]) (fun r w'=>Ext (No) w5 w'∧(r≤rg a∧vl r%vl (rg b)=vl (rg a)%vl (rg b))) (fun r=>r) (rg a) ⟨rfl,rfl,rfl,rfl,congrArg (fun z=>some (Value.float .f64 z)) (hps.symm),trivial⟩ ⟨Ext.refl _ _,⟨Nat.le_refl _,rfl⟩⟩ ?_;rintro r dB ⟨M11,⟨hr1,hr2⟩⟩;have aY4:=aN (No) w5;replace E:=E.trans M11;replace LW:=LW.step E ak;replace E:=aC (No) dB;refine yxx ?_;refine yr 39 (.bool (decide (rg b≤r))) rfl (by rw[qck om om]<;>rfl) (zf rfl (fun hc=>?_) (fun hc=>?_))
  ·
   have hc:=of_decide_eq_true hc;obtain ⟨k1,k2,k3,k4⟩:=hfit r hc hr1;obtain ⟨q,d,f1,f2,f3,f4,f5,f6,f7,f8⟩:=kL k1 hb0 hc;have hbr:=ylv k1;have hby:=ylv hq;have hfe:=Kg k1 hq (vlz hb0 hc).1;refine zo ?_;refine zb oQ (zpk _ r k3 (by rw[k4];exact k2) (by rw[k4];exact k1)) E fun dS E=>(Bw ?_);refine zf rfl (fun hl=>?_) (fun hl=>?_)
   ·
    have hl:=of_decide_eq_true hl;rw[if_pos hl] at hfe;refine zi ?_;refine yp ?_;refine yk ?_;refine quq ?_;refine zb vB (zpq _ (rg b) (Nat.lt_trans (LX b) de) (by rw[nX];exact hb0) (by rw[nX];exact hq) (Bq r (rg b)) q f8 om (by rw[hbs];exact f4)) E fun cZ E=>?_;exact aq3
   ·
    have hl:=of_decide_eq_false hl;rw[if_neg hl] at hfe;refine zp ?_;refine quq ?_;refine zb vB (zpq _ (rg b) (Nat.lt_trans (LX b) de) (by rw[nX];exact hb0) (by rw[nX];exact hq) (Bq r (rg b)) q f8 om (by rw[hbs];exact f4)) E fun dQ E=>?_;exact aq3
  ·
   have hc:=of_decide_eq_false hc;have hend:r=gK a b:=(qbk (a:=a) (b:=b) om (hr2▸(Nat.mod_eq_of_lt (Za om)).symm)).symm;refine qc ?_;refine Zk ?_;refine zw 58 rfl (by rw[zmz (qp hf) ha0,h]<;>rfl) (yv ?_);exact ⟨by rw[show r=dH a b by rw[hend,dH,h];rfl];rfl,aP LW E ak⟩
end
end
theorem ad5 (hf:rg a<9218868437227405312) (hn:aW b=false):Calls prog 212 #[.float .f64 a,.float .f64 b] w (aF w (.float .f64 (dH a b))):=by
 have hb0:rg b≠0:=of_decide_eq_false hz;have hbr:rg b<18446744073709551616:=Nat.lt_trans (LX b) de;by_cases ha0:rg a=0
 · have e:dH a b=a:=by rw[dH,rF ha0,←ha0];exact znq ha
   rw[e];by_cases hq:rg b=9218868437227405312
   · exact mod_zero w a b ha hbq hz hf hn ha0 _ _ (fun w=>rH w (rg b) hbr (by rw[nX];exact hq))
   · have h1:=of_decide_eq_false hn;exact mod_zero w a b ha hbq hz hf hn ha0 _ _ (fun w=>zpk w (rg b) hbr (by rw[nX];exact hb0) (by rw[nX];omega))
 · by_cases hq:rg b=9218868437227405312
   · have e:dH a b=a:=by rw[dH,gK,if_pos hq];exact znq ha
     rw[e];exact ad3 w a b ha hbq hz hf hn ha0 hq
   · have h1:=of_decide_eq_false hn;exact ad4 w a b ha hbq hz hf hn ha0 om
theorem ad6 (hf:rg a<9218868437227405312) (hn:aW b=false):Calls prog 192 #[.float .f64 a,.float .f64 b] w (aF w (.float .f64 (dH a b))):=by
 refine zd func192 rfl ntmps192 rfl ?_;have LW:=aC (No) w;have ak:=aN (No) w;have E:=aC (No) w;refine ja ?_;refine zb ao3 (ad5 _ a b ha hbq hz hf hn) E fun w1 E=>?_;exact Qg
theorem ad7 (hc:kn a b=true):Calls prog 192 #[.float .f64 a,.float .f64 b] w (aF w (.float .f64 9221120237041090561)):=by
 refine zd func192 rfl ntmps192 rfl ?_;have LW:=aC (No) w;have ak:=aN (No) w;have E:=aC (No) w;refine ja ?_;refine zb ao3 (ad2 _ a b ha hbq hz hc) E fun w1 E=>?_;exact Qg
end
end
theorem kR {P Q:Prop} (k:Q) (h:(Unit→Q)→P:=by
 intro zK;refine za rfl (gf Rk underlying3 rfl (wrap_u64 om) ?_);exact zK ()):P:=h fun _=>k
theorem TW {P Q:Prop} (k:Q) (h:(Unit→Q)→P:=by
 intro zK;refine za rfl (je rfl rfl (wrap_u64 om) ?_);exact zK ()):P:=h fun _=>k
theorem aP4 {P:Prop} (h:P:=by
 rintro k w6 ⟨M5,hk⟩;have Kh:=aN (No) w4;replace E:=E.trans M5;replace LW:=LW.step E ak;replace E:=aC (No) w6;refine yk ?_;refine yr 58 (.bool (decide (k<D))) rfl (gr om) ?_;have bg1:mg (rg a)*2^k%n<n:=Nat.mod_lt _ om;refine zf rfl (fun hkd=>?_) (fun hkd=>?_)
 ·
  have hkd:=of_decide_eq_true hkd;refine zo ?_;refine za rfl (xw rfl rfl (wrap_u64 om) (aK ?_));refine za rfl (E8 (z:=((2*(mg (rg a)*2^k%n)%n:Nat):Int)) rfl rfl om (by rw[←yhv,Int.natCast_mul];rfl) (zo ?_));refine za rfl (jn rfl rfl (yt om) (zi ?_));exact zx (k+1) om ⟨rfl,congrArg (fun z:Int=>some (Value.int .i64 z)) om,rfl,rfl,congrArg (fun z:Nat=>some (Value.int .u64 (z:Int))) (rest_step _ _ _),trivial⟩ ⟨M5.step E Kh,om⟩
 ·
  have hkd:=of_decide_eq_false hkd;obtain rfl:k=D:=om;obtain ⟨r,hr⟩:∃r,r=mg (rg a)*2^k%n:=⟨_,rfl⟩;have hrn:r<9007199254740992:=om;have hval:vl (rg a)%vl (rg b)=r*2^L:=by rw[hr];exact hfin
  have aY5:r*2^L≤vl (rg a):=by rw[←hval];exact Nat.mod_le _ _
  obtain ⟨X8,hX8⟩:∃X8,X8=1074:=⟨_,rfl⟩;refine yk ?_;refine za rfl (Rf gX (by rw[u25];rfl) rfl (zk 66 (.float .f64 (gg (r*2^X8))) rfl (by rw[←hr,Bt hrn,hX8]<;>rfl) ?_));obtain ⟨Y9,hE⟩:∃Y9,Y9=1074+(L-1074):=⟨_,rfl⟩;refine zn ?_;replace LW:=LW.step E ak;replace E:=aC (No) w6;refine qw (ι:=Nat) (fun j=>[(0,.int .u64 ((a:Nat):Int)),(8,.int .i64 (((L:Nat):Int)-1074-((j:Nat):Int))),(10,.float .f64 (gg (r*2^(X8+j))))]) (fun j w'=>Ext (No) w6 w'∧(j≤L-1074)) (fun j=>L-1074-j) 0 ⟨rfl,congrArg (fun z:Int=>some (Value.int .i64 z)) om,rfl,trivial⟩ ⟨Ext.refl _ _,Nat.zero_le _⟩ ?_;rintro j w8 ⟨M7,hj⟩;have G5:=aN (No) w6;replace E:=E.trans M7;replace LW:=LW.step E ak;replace E:=aC (No) w8;refine zp ?_;refine yr 68 (.bool (decide (j<L-1074))) rfl (gr om) (zf rfl (fun hjl=>?_) (fun hjl=>?_))
  ·
   have hjl:=of_decide_eq_true hjl;refine zo ?_;refine za rfl (P7 (z:=gg (r*2^(X8+(j+1)))) (.inr (.inr (.inl rfl))) rfl rfl (acz (R:=rg a) hrn hf (Nat.le_trans (Nat.mul_le_mul_left _ (Nat.pow_le_pow_right de (show X8+j+1≤L from om))) aY5)) (zo ?_));refine za rfl (jn rfl rfl (yt om) (zi ?_));exact zx (j+1) om ⟨rfl,congrArg (fun z:Int=>some (Value.int .i64 z)) om,rfl,trivial⟩ ⟨M7.step E G5,om⟩
  ·
   have hjl:=of_decide_eq_false hjl;obtain rfl:j=L-1074:=om;refine zp ?_;replace LW:=LW.step E ak;replace E:=aC (No) w8;refine qw (ι:=Nat) (fun j=>[(0,.int .u64 ((a:Nat):Int)),(8,.int .i64 (((L:Nat):Int)-((Y9:Nat):Int)+((j:Nat):Int))),(10,.float .f64 (gg (r*2^(Y9-j))))]) (fun j w'=>Ext (No) w8 w'∧(j≤Y9-L)) (fun j=>Y9-L-j) 0 ⟨rfl,congrArg (fun z:Int=>some (Value.int .i64 z)) om,congrArg (fun z:Nat=>some (Value.float .f64 (gg (r*2^z)))) om,trivial⟩ ⟨Ext.refl _ _,Nat.zero_le _⟩ ?_;rintro j dI ⟨M9,hj2⟩;have XM9:=aN (No) w8;replace E:=E.trans M9;replace LW:=LW.step E ak;replace E:=aC (No) dI;refine zp ?_;refine yr 74 (.bool (decide (j<Y9-L))) rfl (gr om) (zf rfl (fun TY=>?_) (fun TY=>?_))
   ·
    have TY:=of_decide_eq_true TY;have e1:Y9-j=Y9-(j+1)+1:=om;refine zo ?_;refine za rfl (P7 (z:=gg (r*2^(Y9-(j+1)))) (.inr (.inr (.inr rfl))) rfl rfl (e1▸ND (R:=4845873199050653696) hrn de (Br hrn om)) (zo ?_));refine za rfl (je rfl rfl (yt om) (zi ?_));exact zx (j+1) om ⟨rfl,congrArg (fun z:Int=>some (Value.int .i64 z)) om,rfl,trivial⟩ ⟨M9.step E XM9,om⟩
   ·
    have TY:=of_decide_eq_false TY;have hmod:gg (r*2^(Y9-j))=gK a b:=by rw[show Y9-j=L from om,←hval,gK,if_neg om]
    have hml:=qhv (a:=a) (b:=b) hf hb0;refine yr 10 (.float .f64 (gK a b)) rfl (by rw[hmod]<;>rfl) (yk ?_);refine za rfl (JH aox rfl (aK ?_));refine za rfl (gh rfl rfl (vdz ha) (za rfl (oJ rfl rfl (xb om (by split<;>decide)) (zn ?_))));exact ⟨by rw[wm om];rfl,aP LW E ak⟩):P:=h
theorem xv (m k:Nat) (hk:k<64):((m:Nat):Int).fdiv (2^(min ((k:Nat):Int).toNat IntKind.u64.bits))=((m/2^k:Nat):Int):=by
 rw[Int.toNat_natCast,show min k IntKind.u64.bits=k from Nat.min_eq_left (by show k≤64;omega),Int.fdiv_eq_ediv_of_nonneg _ (Int.le_of_lt (Int.pow_pos de))];rw[show (2:Int)^k=((2^k:Nat):Int) by simp];rfl
theorem ywx (m:Nat):IntKind.u64.wrap ((m:Nat):Int)=((m%18446744073709551616:Nat):Int):=by
 exact QE
theorem Zl (m k:Nat) (hk:k<64):IntKind.u64.wrap (((m:Nat):Int)*2^(min ((k:Nat):Int).toNat IntKind.u64.bits))=((m*2^k%18446744073709551616:Nat):Int):=by
 rw[Int.toNat_natCast,show min k IntKind.u64.bits=k from Nat.min_eq_left (by show k≤64;omega),show (2:Int)^k=((2^k:Nat):Int) by simp,←Int.natCast_mul];exact ywx _
theorem yhv (m n:Nat):((m:Nat):Int).tmod ((n:Nat):Int)=((m%n:Nat):Int):=rfl
theorem BF {m:Nat} (hm:m<18446744073709551616):IntKind.u64.wrap (BitVec.ofInt IntKind.u64.bits ((m:Nat):Int) &&& BitVec.ofInt IntKind.u64.bits 4503599627370495).toNat=((m%4503599627370496:Nat):Int):=by
 have:=xp (n:=4503599627370495) hm de;rw[show m &&& 4503599627370495=m%4503599627370496 from Nat.and_two_pow_sub_one_eq_mod m 52] at this;exact this
theorem Ua (a b:Nat):ng (a ^^^ b)=(ng a ^^ ng b):=by
 have key:∀m,ng m=m.testBit 63:=fun m=>by
  unfold ng;rw[Nat.testBit_eq_decide_div_mod_eq,show (2:Nat)^63=9223372036854775808 from rfl];by_cases h:m/9223372036854775808%2=1<;>simp[h]
 rw[key,key,key,Nat.testBit_xor]
theorem gr {p q:Prop} [Decidable p] [Decidable q] (h:p↔q):(Value.bool (decide p))= .bool (decide q):=by
 congr 1
 by_cases hp:p
 · rw[decide_eq_true hp,decide_eq_true (h.1 hp)]
 · rw[decide_eq_false hp,decide_eq_false (fun k=>hp (h.2 k))]
theorem wm {q:Nat} {s:Bool} (h:q<9223372036854775808):(q ||| (if s then 9223372036854775808 else 0:Nat))=Ieee.double.word s q:=by
 unfold Ieee.Format.word;rw[c1];cases s
 · exact Nat.or_zero _
 · show q ||| 9223372036854775808=9223372036854775808+q
   rw[Nat.or_comm];exact vkz 63 h rfl
section
variable (w:World)
theorem qgz (a:Nat) (ha:a<18446744073709551616) (hf:rg a<9218868437227405312):Calls prog 156 #[.int .u64 ((a:Nat):Int)] w (aF w (.tuple #[.int .u64 ((mg (rg a):Nat):Int),.int .i64 (((ex (rg a):Nat):Int)-1074)])):=by
 have h1:a/4503599627370496%2048=rg a/4503599627370496:=by unfold rg at *;omega
 have h2:a%4503599627370496=rg a%4503599627370496:=by unfold rg;omega
 have h3:rg a/4503599627370496<2048:=om;refine zd func156 rfl ntmps156 rfl ?_;have LW:=aC (No) w;have ak:=aN (No) w;have E:=aC (No) w;refine qc ?_;refine za rfl (js rfl rfl de (TI a) (za rfl (gh rfl rfl (Bj om) (zk 7 (.int .u64 ((rg a/4503599627370496:Nat):Int)) rfl (by rw[h1]<;>rfl) (yxk ?_)))));refine zv ?_;refine zf rfl (fun h=>?_) (fun h=>?_)
 ·
  have h:=beq_iff_eq.1 h;have hs:rg a<4503599627370496:=om;refine zr ?_;refine za rfl (gh rfl rfl (BF ha) (zp ?_));exact ⟨by rw[h2,mg,ex,if_pos hs,if_pos hs,Nat.mod_eq_of_lt hs];rfl,aP LW E ak⟩
 ·
  have h:=beq_eq_false_iff_ne.1 h;have hs:¬rg a<4503599627370496:=om;refine zn ?_;refine za rfl (gh rfl rfl (BF ha) (zk 14 (.int .u64 ((rg a%4503599627370496:Nat):Int)) rfl (by rw[h2]<;>rfl) (TW ?_)));refine aK ?_;refine yp ?_;refine zo ?_;exact ⟨by rw[mg,ex,if_neg hs,if_neg hs,show (((rg a/4503599627370496-1:Nat):Int)-1074)=((rg a/4503599627370496:Nat):Int)-1075 from om,Nat.add_comm];rfl,aP LW E ak⟩
section
variable (a b:Nat) (ha:a<18446744073709551616) (hbq:b<18446744073709551616)
include ha hbq
theorem kS (hq:rg b=9218868437227405312∨rg a=0):Calls prog 170 #[.int .u64 ((a:Nat):Int),.int .u64 ((b:Nat):Int)] w (aF w (.int .u64 ((a:Nat):Int))):=by
 refine zd func170 rfl ntmps170 rfl ?_;have LW:=aC (No) w;have ak:=aN (No) w;have E:=aC (No) w;refine qc ?_;refine zb qL (zxx _ b hbq) E fun w1 E=>(aK ?_);refine zy 13 rfl (fun h=>?_) (fun h=>?_)
 ·
  refine xf ?_;exact xq
 ·
  have h:=of_decide_eq_false h;refine aK ?_;refine zb Zb (xe _ a ha) E fun w2 E=>(vf 15 rfl (by rw[dU,decide_eq_true (hq.resolve_left h)]<;>rfl) (ja ?_));exact xq
section
variable (ha0:rg a≠0) (hb0:rg b≠0) (hf:rg a<9218868437227405312) (hq:rg b<9218868437227405312)
include ha0 hb0 hf hq
theorem BG (hc:ex (rg b)≤ex (rg a)):Calls prog 170 #[.int .u64 ((a:Nat):Int),.int .u64 ((b:Nat):Int)] w (aF w (.int .u64 ((dH a b:Nat):Int))):=by
 have BH:=ac8 (mg (rg a)) (mg (rg b)) hc;obtain ⟨D,hD⟩:∃D,D=ex (rg a)-ex (rg b):=⟨_,rfl⟩;rw[←hD] at BH;obtain ⟨L,hL⟩:∃L,L=ex (rg b):=⟨_,rfl⟩;obtain ⟨n,hn⟩:∃n,n=mg (rg b):=⟨_,rfl⟩;have hfin:vl (rg a)%vl (rg b)=(mg (rg a)*2^D%n)*2^L:=by rw[hn,hL];exact BH
 have hma:=Nq (rg a);have hmb:=Nq (rg b);have aY6:=kH hb0;have hxa:ex (rg a)≤2045:=by unfold ex;split<;>omega
 have hxb:ex (rg b)≤2045:=by unfold ex;split<;>omega
 refine zd func170 rfl ntmps170 rfl ?_;have LW:=aC (No) w;have ak:=aN (No) w;have E:=aC (No) w;refine qc ?_;refine zb qL (zxx _ b hbq) E fun w1 E=>(yu 12 rfl (by rw[decide_eq_false om]<;>rfl) (zi ?_));refine zb Zb (xe _ a ha) E fun w2 E=>(yu 15 rfl (by rw[dU,decide_eq_false ha0]<;>rfl) (qc ?_));refine zb JK (qgz _ a ha hf) E fun w3 E=>(zv ?_);refine zb JK (qgz _ b hbq hq) E fun w4 E=>(xf ?_);refine zw 30 rfl (by rw[decide_eq_false om]<;>rfl) (zp ?_);refine za rfl (E8 (z:=((mg (rg a)%mg (rg b):Nat):Int)) rfl rfl om (yhv _ _) (zn ?_));replace LW:=LW.step E ak;replace E:=aC (No) w4;refine qw (ι:=Nat) (fun k=>[(0,.int .u64 ((a:Nat):Int)),(6,.int .i64 (((L+D-k:Nat):Int)-1074)),(7,.int .u64 ((n:Nat):Int)),(8,.int .i64 (((L:Nat):Int)-1074)),(9,.int .u64 ((mg (rg a)*2^k%n:Nat):Int))]) (fun k w'=>Ext (No) w4 w'∧(k≤D)) (fun k=>D-k) 0 ⟨rfl,congrArg (fun z:Int=>some (Value.int .i64 z)) om,congrArg (fun z:Nat=>some (Value.int .u64 (z:Int))) hn.symm,congrArg (fun z:Nat=>some (Value.int .i64 ((z:Int)-1074))) hL.symm,congrArg (fun z:Nat=>some (Value.int .u64 (z:Int))) (by rw[Nat.pow_zero,Nat.mul_one,hn]),trivial⟩ ⟨Ext.refl _ _,Nat.zero_le _⟩ ?_;exact aP4
theorem BI (hc:ex (rg a)<ex (rg b)):Calls prog 170 #[.int .u64 ((a:Nat):Int),.int .u64 ((b:Nat):Int)] w (aF w (.int .u64 ((dH a b:Nat):Int))):=by
 have BH:=ac9 (mg (rg a)) (mg (rg b)) (Nat.le_of_lt hc);obtain ⟨s,hs⟩:∃s,s=ex (rg b)-ex (rg a):=⟨_,rfl⟩;rw[←hs] at BH;obtain ⟨L,hL⟩:∃L,L=ex (rg a):=⟨_,rfl⟩;obtain ⟨D,hD⟩:∃D,D=0:=⟨_,rfl⟩;obtain ⟨n,hn⟩:∃n,n=mg (rg b)*2^s:=⟨_,rfl⟩;have hfin:vl (rg a)%vl (rg b)=(mg (rg a)*2^D%n)*2^L:=by rw[hn,hL,hD,Nat.pow_zero,Nat.mul_one];exact BH
 have hself:mg (rg a)<n→dH a b=a:=fun h=>by
  have h1:gK a b=rg a:=qbk om (by rw[hfin,hD,Nat.pow_zero,Nat.mul_one,Nat.mod_eq_of_lt h,hL];rfl);rw[dH,h1];exact znq ha
 have hma:=Nq (rg a);have hmb:=Nq (rg b);have aY6:=kH hb0;have hxa:ex (rg a)≤2045:=by unfold ex;split<;>omega
 have hxb:ex (rg b)≤2045:=by unfold ex;split<;>omega
 refine zd func170 rfl ntmps170 rfl ?_;have LW:=aC (No) w;have ak:=aN (No) w;have E:=aC (No) w;refine qc ?_;refine zb qL (zxx _ b hbq) E fun w1 E=>(yu 12 rfl (by rw[decide_eq_false om]<;>rfl) (zi ?_));refine zb Zb (xe _ a ha) E fun w2 E=>(yu 15 rfl (by rw[dU,decide_eq_false ha0]<;>rfl) (qc ?_));refine zb JK (qgz _ a ha hf) E fun w3 E=>(zv ?_);refine zb JK (qgz _ b hbq hq) E fun w4 E=>?_;have hbig:53<s→mg (rg a)<n:=fun h=>by
  have h1:2^53≤2^s:=Nat.pow_le_pow_right de om;have h2:1*2^s≤mg (rg b)*2^s:=Nat.mul_le_mul_right _ om;rw[hn];omega
 refine xf ?_;refine qm 30 rfl (by rw[decide_eq_true om]<;>rfl) (zo ?_);refine yp ?_;refine zi ?_;refine zk 35 (.bool (decide (53<s))) rfl (gr om) (zy 35 rfl (fun hbg=>?_) (fun hbg=>?_))
 ·
  refine jJ ?_;exact ⟨by rw[hself (hbig (of_decide_eq_true hbg))];rfl,aP LW E ak⟩
 ·
  have hbg:=of_decide_eq_false hbg;refine ye ?_;refine bZ rfl (jn rfl rfl (yt om) (bZ rfl (gf Rk underlying3 rfl (wrap_u64 om) (zk 41 (.int .u64 ((s:Nat):Int)) rfl (by congr 1;omega) (bZ rfl (js rfl rfl om (xv _ s om) (ye ?_)))))));refine yr 44 (.bool (decide (mg (rg a)/2^s<mg (rg b)))) rfl (gr om) (zf rfl (fun hlt=>?_) (fun hlt=>?_))
  ·
   have hlt:=of_decide_eq_true hlt;have hlt2:mg (rg a)<n:=by rw[hn];exact (Nat.div_lt_iff_lt_mul (Nat.pow_pos de)).1 hlt
   refine zv ?_;exact ⟨by rw[hself hlt2];rfl,aP LW E ak⟩
  ·
   have hlt:=of_decide_eq_false hlt;have hle:n≤mg (rg a):=by rw[hn];exact (Nat.le_div_iff_mul_le (Nat.pow_pos de)).1 om
   have hn0:0<n:=by rw[hn];exact Nat.mul_pos om (Nat.pow_pos de)
   refine zp ?_;refine yp ?_;refine kR ?_;refine zk 50 (.int .u64 ((s:Nat):Int)) rfl (by congr 1;omega) (za rfl (ki rfl rfl om (Zl _ s om) (zk 51 (.int .u64 ((n:Nat):Int)) rfl (by rw[←hn,Nat.mod_eq_of_lt om]<;>rfl) (vp ?_))));refine za rfl (E8 (z:=((mg (rg a)%n:Nat):Int)) rfl rfl om (yhv _ _) (zn ?_));replace LW:=LW.step E ak;replace E:=aC (No) w4;refine qw (ι:=Nat) (fun k=>[(0,.int .u64 ((a:Nat):Int)),(6,.int .i64 (((L+D-k:Nat):Int)-1074)),(7,.int .u64 ((n:Nat):Int)),(8,.int .i64 (((L:Nat):Int)-1074)),(9,.int .u64 ((mg (rg a)*2^k%n:Nat):Int))]) (fun k w'=>Ext (No) w4 w'∧(k≤D)) (fun k=>D-k) 0 ⟨rfl,congrArg (fun z:Int=>some (Value.int .i64 z)) om,rfl,congrArg (fun z:Nat=>some (Value.int .i64 ((z:Int)-1074))) hL.symm,congrArg (fun z:Nat=>some (Value.int .u64 (z:Int))) (by rw[Nat.pow_zero,Nat.mul_one]),trivial⟩ ⟨Ext.refl _ _,Nat.zero_le _⟩ ?_;exact aP4
end
end
end
theorem qsq {P Q:Prop} (k:Q) (h:(Unit→Q)→P:=by
 intro zK;refine za rfl (gh (z:=0) rfl rfl kr ?_);exact zK ()):P:=h fun _=>k
theorem BJ {P Q:Prop} (k:Q) (h:(Unit→Q)→P:=by
 intro zK;refine zi ?_;refine bZ rfl (xw rfl rfl (wrap_u64 om) (aK ?_));refine bZ rfl (xw rfl rfl (wrap_u64 om) (aK ?_));refine bZ rfl (je rfl rfl (wrap_u64 om) (ye ?_));exact zK ()):P:=h fun _=>k
theorem zsq {P Q:Prop} (k:Q) (h:(Unit→Q)→P:=by
 intro zK;refine za rfl (jn rfl rfl (wrap_u64 om) ?_);exact zK ()):P:=h fun _=>k
theorem zkv {P Q:Prop} (k:Q) (h:(Unit→Q)→P:=by
 intro zK;refine za rfl (xw rfl rfl (wrap_u64 om) ?_);exact zK ()):P:=h fun _=>k
theorem Ub (m n:Nat):((m:Nat):Int).tdiv ((n:Nat):Int)=((m/n:Nat):Int):=rfl
theorem wu {m n:Nat} (h:m<18446744073709551616):IntKind.u64.wrap (((m:Nat):Int).tdiv ((n:Nat):Int))=((m/n:Nat):Int):=by
 rw[Ub];exact yhk (Nat.lt_of_le_of_lt (Nat.div_le_self m n) h)
theorem vuq (m n:Nat):IntKind.u64.wrap (((m:Nat):Int)*((n:Nat):Int))=((m*n%18446744073709551616:Nat):Int):=by rw[←Int.natCast_mul];exact ywx _
theorem Ki (m n:Nat):IntKind.u64.wrap (((m:Nat):Int)+((n:Nat):Int))=(((m+n)%18446744073709551616:Nat):Int):=by rw[←Int.natCast_add];exact ywx _
theorem voz {M x y W:Nat} (hW:W<M) (h:(W+y)%M=x%M):((x:Int)-(y:Int))%(M:Int)=(W:Int):=by
 have h':((W:Int)+(y:Int))%(M:Int)=(x:Int)%(M:Int):=by exact_mod_cast h
 rw[Int.sub_emod,←h',←Int.sub_emod,Int.add_sub_cancel];exact Int.emod_eq_of_lt om om
theorem Kj {x y W:Nat} (hW:W<18446744073709551616) (h:(W+y)%18446744073709551616=x%18446744073709551616):IntKind.u64.wrap (((x:Nat):Int)-((y:Nat):Int))=((W:Nat):Int):=by
 rw[IntKind.wrap_u64];exact voz hW h
theorem ad8 {lo B V:Nat} (hB:B=lo%2147483648) (hV:V=B*8589934592):lo*2^33%18446744073709551616=V:=by
 rw[hV,hB];exact Nat.mul_mod_mul_right 8589934592 lo 2147483648
theorem zck {U d q r:Nat} (hq:q=U/d) (hr:r=U%d):q*d+r=U:=by rw[hq,hr,Nat.mul_comm];exact Nat.div_add_mod U d
theorem zjx {r U d:Nat} (hd:0<d) (hr:r=U%d):r<d:=by rw[hr];exact Nat.mod_lt _ hd
theorem rJ {M m q r d e f W x y:Nat} (hU:q*d+r=e) (hW:W=r*m+f) (hx:x=(e*m%M+f)%M) (hy:y=q*(d*m)%M):(W+y)%M=x%M:=by
 subst hx hy hW;rw[Nat.mod_mod,Nat.add_mod_mod,Nat.mod_add_mod,←hU,Nat.add_mul,Nat.mul_assoc];congr 1
 omega
theorem ad9 {hi A B U V1 V0 q1 r1 q0 r0 m h y1 P a M:Nat} (hM:M=m*m) (hM2:M=a*h) (hU:U=hi*h+A) (hV:V1*m+V0=B*h)
 (h1:q1*y1+r1=U) (h3:q0*y1+r0=r1*m+V1) (hy:y1*m=P*h):(hi*M+(A*a+B))*h=(q1*m+q0)*P*h+(r0*m+V0):=by
 have e1:(hi*M+(A*a+B))*h=(hi*h+A)*M+B*h:=by
  rw[Nat.add_mul,Nat.add_mul,Nat.add_mul,Nat.mul_assoc A,←hM2,Nat.mul_right_comm hi M h,Nat.add_assoc]
 have e2:(q1*m+q0)*P*h=(q1*y1*m+q0*y1)*m:=by
  rw[Nat.mul_assoc,←hy,Nat.mul_comm y1 m,←Nat.mul_assoc,Nat.mul_right_comm,Nat.add_mul,Nat.mul_right_comm q1 m y1]
 rw[e1,←hU,←hV,←h1,hM,e2,Nat.add_mul,Nat.add_mul];have e3:q0*y1*m+r0*m=r1*m*m+V1*m:=by rw[←Nat.add_mul,h3,Nat.add_mul]
 rw[←Nat.mul_assoc,←Nat.mul_assoc];omega
theorem aP5 {S Q P h m r0 V0 y1:Nat} (h0:0<h) (e:S*h=Q*P*h+(r0*m+V0)) (hr:r0<y1) (hv:V0<m) (hy:y1*m=P*h):∃R,r0*m+V0=R*h∧R<P∧S=Q*P+R:=by
 have hle:Q*P≤S:=Nat.le_of_mul_le_mul_right om h0;obtain ⟨R,rfl⟩:∃R,S=Q*P+R:=⟨S-Q*P,om⟩;rw[Nat.add_mul] at e;have e1:r0*m+V0=R*h:=om;refine ⟨R,e1,?_,rfl⟩;have e2:(r0+1)*m≤y1*m:=Nat.mul_le_mul_right m hr;rw[Nat.add_mul,Nat.one_mul,hy] at e2;exact Nat.lt_of_mul_lt_mul_right (a:=h) om
theorem adq {hi A B U V1 V0 q1 r1 q0 r0:Nat} (hU:U=hi*8589934592+A) (hV:V1*4294967296+V0=B*8589934592)
 (h1:q1*4294967294+r1=U) (h3:q0*4294967294+r0=r1*4294967296+V1) (h4:r0<4294967294) (h5:V0<4294967296) :
 ∃R,r0*4294967296+V0=R*8589934592∧R<2147483647∧hi*18446744073709551616+(A*2147483648+B)=(q1*4294967296+q0)*2147483647+R:=
 aP5 de (ad9 (m:=4294967296) (a:=2147483648) rfl rfl hU hV h1 h3 rfl) h4 h5 rfl
theorem adz:Gives 196 #[.int .u64 2147483647] (.int .i64 31):=by
 intro w;refine zd func196 rfl ntmps196 rfl ?_;have LW:=aC (No) w;have ak:=aN (No) w;have E:=aC (No) w;refine JO ?_;refine za rfl (js (z:=32767) rfl rfl de kr (zn ?_));refine za rfl (je (z:=16) rfl rfl kr (kh ?_));refine za rfl (js (z:=127) rfl rfl de kr (zn ?_));refine za rfl (je (z:=24) rfl rfl kr (zp ?_));refine za rfl (gf (z:=127) u5 u25 rfl kr (za rfl (qd (j:=127) (b:=7) u9 rfl rfl rfl kr (za rfl (gf (z:=7) underlying3 u5 rfl kr (za rfl (je (z:=31) rfl rfl kr (ye ?_))))))));refine ks (rs:=[.tmp 2]) (vs:=[.int .i64 31]) rfl ⟨rfl,trivial⟩ ?_;exact xq
theorem adx:Gives 174 #[.int .u64 2147483647] (.int .i64 33):=by
 intro w;refine zd func174 rfl ntmps174 rfl ?_;have LW:=aC (No) w;have ak:=aN (No) w;have E:=aC (No) w;refine yk ?_;refine zb ao2 (adz _) E fun w1 E=>(za rfl (jn (z:=33) rfl rfl kr (ye ?_)));refine ks (rs:=[.tmp 2]) (vs:=[.int .i64 33]) rfl ⟨rfl,trivial⟩ ?_;exact xq
section
variable (w:World)
theorem BK (hi lo:Nat) (h1:hi<2147483647) (h2:lo<18446744073709551616):Calls prog 146 #[.int .u64 ((hi:Nat):Int),.int .u64 ((lo:Nat):Int),.int .u64 2147483647] w (aF w (.tuple #[.int .u64 (((hi*18446744073709551616+lo)/2147483647:Nat):Int),.int .u64 (((hi*18446744073709551616+lo)%2147483647:Nat):Int)])):=by
 obtain ⟨A,hA⟩:∃A,A=lo/2147483648:=⟨_,rfl⟩;obtain ⟨B,hB⟩:∃B,B=lo%2147483648:=⟨_,rfl⟩;obtain ⟨U,hU⟩:∃U,U=hi*8589934592+A:=⟨_,rfl⟩;obtain ⟨V,hV⟩:∃V,V=B*8589934592:=⟨_,rfl⟩;have eV:lo*2^33%18446744073709551616=V:=ad8 hB hV;have eA:lo/2^31=A:=hA.symm;have ehi:hi*2^33%18446744073709551616=hi*8589934592:=Nat.mod_eq_of_lt (Nat.lt_of_lt_of_le (Nat.mul_lt_mul_of_pos_right h1 de) de);have bA:A<8589934592:=om;have eor:hi*8589934592 ||| A=U:=by rw[hU];exact vkz 33 bA (Nat.mul_mod_left hi 8589934592)
 have bB:B<2147483648:=zjx de hB;obtain ⟨V1,hV1⟩:∃V1,V1=V/4294967296:=⟨_,rfl⟩;obtain ⟨V0,hV0⟩:∃V0,V0=V%4294967296:=⟨_,rfl⟩;obtain ⟨q1,hq1⟩:∃q1,q1=U/4294967294:=⟨_,rfl⟩;obtain ⟨r1,hr1⟩:∃r1,r1=U%4294967294:=⟨_,rfl⟩;obtain ⟨W,hW⟩:∃W,W=r1*4294967296+V1:=⟨_,rfl⟩;obtain ⟨q0,hq0⟩:∃q0,q0=W/4294967294:=⟨_,rfl⟩;obtain ⟨r0,hr0⟩:∃r0,r0=W%4294967294:=⟨_,rfl⟩;obtain ⟨R,e1,e2,e3⟩:=adq (hi:=hi) (A:=A) (B:=B) (U:=U) (V1:=V1) (V0:=V0) (q1:=q1) (r1:=r1) (q0:=q0) (r0:=r0) hU ((zck hV1 hV0).trans hV) (zck hq1 hr1) ((zck hq0 hr0).trans hW) (zjx de hr0) (zjx de hV0);have elo:A*2147483648+B=lo:=zck hA hB;have b1:=zjx de hr1;have b0:=zjx de hr0;have bV0:=zjx de hV0;rw[elo] at e3;have eR:(hi*18446744073709551616+lo)%2147483647=R:=by rw[e3,Nat.add_comm,Nat.add_mul_mod_self_right,Nat.mod_eq_of_lt e2]
 have eQ:(hi*18446744073709551616+lo)/2147483647=q1*4294967296+q0:=by rw[e3,Nat.add_comm,Nat.add_mul_div_right _ _ de,Nat.div_eq_of_lt e2,Nat.zero_add]
 have bU:U<18446744073709551616:=om;have bq1:q1<4294967296:=om;have bq0:q0<4294967296:=om;have bW:W<18446744073709551616:=om;refine zd func146 rfl ntmps146 rfl ?_;have LW:=aC (No) w;have ak:=aN (No) w;have E:=aC (No) w;refine JN ?_;refine zw 24 rfl (by rw[decide_eq_false om]<;>rfl) (zv ?_);refine zf rfl (fun h=>?_) (fun h=>?_)
 ·
  have h:=beq_iff_eq.1 h;obtain rfl:hi=0:=om;refine aK ?_;have OY:∀q9,(aj (kf [])) q9→q9<(World.drew w).heap.size→(No) q9:=fun k h _=>(aj.none_) k h;refine yq (No) aj.none_ [] [] (xc [Fx.of (.int .u64 ((lo:Nat):Int)),
   Fx.of (.int .u64 2147483647),
   Fx.of (.int .u64 ((lo/2147483647:Nat):Int)),
   Fx.of (.int .u64 ((lo:Nat):Int)),
   Fx.of (.int .u64 2147483647),
   Fx.of (.int .u64 ((lo%2147483647:Nat):Int)),
   Fx.of (.int .u64 ((lo/2147483647:Nat):Int)),
   Fx.of (.int .u64 ((lo%2147483647:Nat):Int))]) mixed rfl trivial (fun _ h=>by cases h) ?_ ?_
  · refine ⟨arm,arm,?_,arm,arm,?_,arm,arm,trivial⟩
    · refine yx ?_;intro vs X wq K;exact qpz (z:=((lo/2147483647:Nat):Int)) rfl rfl de (wu (n:=2147483647) h2) ⟨Below.refl _ _,Left.of rfl⟩
    · refine yx ?_;intro vs X wq K;exact E8 (z:=((lo%2147483647:Nat):Int)) rfl rfl de (yhv lo 2147483647) ⟨Below.refl _ _,Left.of rfl⟩
  intro vs w1 LE AO AL AF AA;replace E:=E.drew.trans (LE.mono OY);obtain ⟨_,e6,k6⟩:=AL.2.2.2.2.2.2.1;obtain ⟨_,e7,k7⟩:=AL.2.2.2.2.2.2.2.1;refine vi (τ:=[(0,_),(1,_),(2,_),(6,.int .u64 ((lo/2147483647:Nat):Int)),(7,.int .u64 ((lo%2147483647:Nat):Int))]) ⟨rfl,rfl,rfl,congrArg some e6,congrArg some e7,trivial⟩ ?_;clear AL AF AA LE AO OY e6 e7 k6 k7;refine ye ?_;exact ⟨by rw[Nat.zero_mul,Nat.zero_add];rfl,aP LW E ak⟩
 ·
  refine zn ?_;refine zb aJ2 (adx _) E fun w2 E=>(za rfl (gf (z:=33) Rk underlying3 rfl kr (zp ?_)));refine za rfl (ki (z:=18446744065119617024) rfl rfl de kr (zo ?_));refine za rfl (js (z:=4294967294) rfl rfl de kr (zo ?_));refine qsq ?_;refine zp ?_;refine za rfl (ki rfl rfl de (Zl hi 33 de) (zk 46 (.int .u64 ((hi*8589934592:Nat):Int)) rfl (by rw[ehi]<;>rfl) (zi ?_)));refine za rfl (jn (z:=31) rfl rfl kr (za rfl (js rfl rfl de (xv lo 31 de) (zk 50 (.int .u64 ((A:Nat):Int)) rfl (by rw[eA]<;>rfl) (za rfl (oJ rfl rfl (xb om om) (zk 51 (.int .u64 ((U:Nat):Int)) rfl (by rw[eor]<;>rfl) (zp ?_))))))));refine za rfl (ki rfl rfl de (Zl lo 33 de) (zk 54 (.int .u64 ((V:Nat):Int)) rfl (by rw[eV]<;>rfl) (zo ?_)));refine za rfl (js rfl rfl de (xv V 32 de) (zk 56 (.int .u64 ((V1:Nat):Int)) rfl (by rw[hV1]<;>rfl) (zo ?_)));refine za rfl (gh rfl rfl (xp (n:=4294967295) om de) (zk 58 (.int .u64 ((V0:Nat):Int)) rfl (by rw[show V &&& 4294967295=V%4294967296 from Nat.and_two_pow_sub_one_eq_mod V 32,hV0]<;>rfl) (zp ?_)));refine za rfl (qpz (z:=((U/4294967294:Nat):Int)) rfl rfl de (wu (n:=4294967294) bU) (zk 61 (.int .u64 ((q1:Nat):Int)) rfl (by rw[hq1]<;>rfl) (yk ?_)));refine zkv ?_;refine zsq ?_;refine zn ?_;refine ZN (zo ?_);refine zk 16 (.int .u64 ((r1:Nat):Int)) rfl (by congr 1;omega) (yu 69 rfl (by rw[decide_eq_false om]<;>rfl) (BJ ?_));refine zw 78 rfl (by rw[decide_eq_false om]<;>rfl) (qc ?_);refine za rfl (xw rfl rfl (vuq U 4294967296) (aK ?_));refine za rfl (je rfl rfl (Ki _ V1) (zi ?_));refine za rfl (xw rfl rfl (vuq q1 18446744065119617024) (za rfl (jn (z:=((W:Nat):Int)) rfl rfl (Kj bW (rJ (m:=4294967296) (zck hq1 hr1) hW rfl rfl)) (zp ?_))));refine za rfl (qpz (z:=((W/4294967294:Nat):Int)) rfl rfl de (wu (n:=4294967294) bW) (zk 96 (.int .u64 ((q0:Nat):Int)) rfl (by rw[hq0]<;>rfl) (yk ?_)));refine zkv ?_;refine zsq ?_;refine zn ?_;refine ZN (zo ?_);refine zk 16 (.int .u64 ((r0:Nat):Int)) rfl (by congr 1;omega) (yu 104 rfl (by rw[decide_eq_false om]<;>rfl) (BJ ?_));refine zw 113 rfl (by rw[decide_eq_false om]<;>rfl) (qc ?_);refine zkv ?_;refine aK ?_;refine TW ?_;refine aK ?_;refine zk 124 (.int .u64 ((q1*4294967296+q0:Nat):Int)) rfl (by rw[Int.natCast_add,Int.natCast_mul];rfl) (za rfl (xw rfl rfl (vuq W 4294967296) (aK ?_)));refine za rfl (je rfl rfl (Ki _ V0) (zi ?_));refine za rfl (xw rfl rfl (vuq q0 18446744065119617024) (za rfl (jn (z:=((R*8589934592:Nat):Int)) rfl rfl (Kj (Nat.lt_of_lt_of_le (Nat.mul_lt_mul_of_pos_right e2 de) de) (rJ (m:=4294967296) (zck hq0 hr0) e1.symm rfl rfl)) (aK ?_))));refine za rfl (js rfl rfl de (xv (R*8589934592) 33 de) (zk 134 (.int .u64 ((R:Nat):Int)) rfl (by rw[show R*8589934592/2^33=R from Nat.mul_div_cancel R (show 0<8589934592 from de)]<;>rfl) (zo ?_)));exact ⟨by rw[eR,eQ];rfl,aP LW E ak⟩
theorem vix (hi lo:Nat) (h1:hi<18446744073709551616) (h2:lo<18446744073709551616):Calls prog 115 #[.int .u64 ((hi:Nat):Int),.int .u64 ((lo:Nat):Int),.int .u64 2147483647] w (aF w (.int .u64 (((hi*18446744073709551616+lo)%2147483647:Nat):Int))):=by
 have e:(hi%2147483647*18446744073709551616+lo)%2147483647=(hi*18446744073709551616+lo)%2147483647:=om;have _:=h1;refine zd func115 rfl ntmps115 rfl ?_;have LW:=aC (No) w;have ak:=aN (No) w;have E:=aC (No) w;refine qc ?_;refine za rfl (E8 (z:=((hi%2147483647:Nat):Int)) rfl rfl de (yhv hi 2147483647) (zi ?_));refine zb anz (BK _ (hi%2147483647) lo (Nat.mod_lt _ de) h2) E fun w1 E=>(xf ?_);exact ⟨by rw[←e];rfl,aP LW E ak⟩
end
end
theorem rQ {r:Nat} (hr:r<9218868437227405312) (h0:r≠0):gG r<9218868437227405312∧gG r≠0∧vl (gG r)=mg (nr r)*2^1021:=by
 obtain ⟨m1,m2⟩:=qbv h0;obtain ⟨p1,p2⟩:=yok (e:=1021) m1 m2;have e:gG r=1021*4503599627370496+mg (nr r):=by rw[vvv hr];omega
 refine ⟨om,om,?_⟩;rw[e,vl,p1,p2]
theorem aq4 {r:Nat} (h0:r≠0):vl (1074*4503599627370496+mg (nr r))=mg (nr r)*2^1074∧1074*4503599627370496+mg (nr r)<9218868437227405312:=by
 obtain ⟨m1,m2⟩:=qbv h0;obtain ⟨p1,p2⟩:=yok (e:=1074) m1 m2;refine ⟨?_,om⟩;show mg _*2^ex _=_
 rewrite [p1,p2];rfl
section
attribute [local irreducible] OW RS CW EW
theorem Co {P Q:Prop} (k:Q) (h:(Unit→Q)→P:=by
 intro zK;refine zi ?_;refine za rfl (jd (m:=gz .down (ji (aR .sub (cO a b) 4607182418800017408))) (n:=4607182418800017408) (.inl rfl) rfl rfl ?_);exact zK ()):P:=h fun _=>k
theorem lC {P Q:Prop} (k:Q) (h:(Unit→Q)→P:=by
 intro zK;refine ye ?_;refine za rfl (P7 (z:=zq) (.inr (.inr (.inr rfl))) rfl rfl hzq ?_);exact zK ()):P:=h fun _=>k
theorem Cq {P Q:Prop} (k:Q) (h:(Unit→Q)→P:=by
 intro zK;refine za rfl (jd (m:=ji (aR .sub (cO a b) 4607182418800017408)) (n:=gz .down (ji (aR .sub (cO a b) 4607182418800017408))) (.inr (.inl rfl)) rfl rfl ?_);exact zK ()):P:=h fun _=>k
theorem qtq {P Q:Prop} (k:Q) (h:(Unit→Q)→P:=by
 intro zK;refine za rfl (jd (m:=cO a b) (n:=gz .down (cO a b)) (.inr (.inl rfl)) rfl rfl ?_);exact zK ()):P:=h fun _=>k
theorem zsx {P Q:Prop} (k:Q) (h:(Unit→Q)→P:=by
 intro zK;refine za rfl (vtk rfl rfl (zi ?_));exact zK ()):P:=h fun _=>k
theorem quk {P Q:Prop} (k:Q) (h:(Unit→Q)→P:=by
 intro zK;refine zi ?_;refine za rfl (jd (m:=gz .down (cO a b)) (n:=4607182418800017408) (.inl rfl) rfl rfl ?_);exact zK ()):P:=h fun _=>k
theorem UM {P:Prop} (h:P:=by
 refine yk ?_;exact ⟨_,_,rfl,by rw[oo,if_neg hcn,hd1,if_pos hzd,hzs];exact zek (veq _),hm1,aP LW E ak⟩):P:=h
theorem UN {P:Prop} (h:P:=by
 have Ec:=qW.ext;replace E:=E.trans Ec.no;refine ja ?_;exact ⟨_,_,rfl,by rw[oo,if_neg hcn,hd1,if_neg (by rw[hzd];decide),qW.bare,vek,if_pos hu],hm1,aP LW E ak⟩):P:=h
theorem UO {P:Prop} (h:P:=by
 refine vp ?_;exact ⟨_,_,rfl,by rw[oo,if_neg hcn,hd1,if_neg (by rw[hzd];decide),vek,if_neg (by rw[hu];decide),zek (zok (by rw[←hd1];exact hdn.1)).1],hm1,aP LW E ak⟩):P:=h
theorem eX.isn {r:Nat} {w w':World} (h:eX none r w w'):aW r=true:=by
 rcases h with ⟨h1,_⟩ | ⟨_,hn,_⟩
 · cases h1
 · exact uV hn
theorem eX.nan {z:Option Nat} {r:Nat} {w w':World} (h:eX z r w w') (hz:z=none):aW r=true:=by subst hz;exact h.isn
theorem rU {d r:Nat} {w w':World} (h:eX (aR .sub d (gz .down d)) r w w'):(gk r 4602678819172646912==some .gt)=upB d:=by
 unfold upB;rcases h with ⟨h1,_⟩ | ⟨h1,hn,_⟩
 · rw[h1]
 · rw[h1,zjq (uV hn)]
theorem zok {d:Nat} (h:aW d=false):aW (gz .down d)=false∧gz .down d<18446744073709551616:=by
 refine yhq ?_;have:(Ieee.double.read d).isNaN=false:=(jD d).trans h;show ((Ieee.double.read d).integral .down).isNaN=false
 cases hd:Ieee.double.read d with
 | nan s t=>rw[hd] at this;cases this
 | infinity s=>rfl
 | number s m e=>rfl
theorem zek {m:Nat} (h:aW m=false):qu m=m:=by rw[qu,if_neg (by rw[h];decide)]
theorem qkz {m:Nat} (h:aW m=true):qu m=9221120237041090560:=by rw[qu,if_pos h]
theorem rV (z:Option Nat) {op:BinOp} {a b:Nat} (h:z=aR op a b):qu (ji z)=ji z:=by
 subst h;cases h:aR op a b with
 | none=>decide
 | some r=>exact zek (P8 h).1
theorem veq (s:Bool):aW (Ieee.double.word s 0)=false:=by cases s<;>decide
theorem UQ {a b:Nat} (hf:rg a<9218868437227405312) (h0:rg b≠0):dU (dH a b)=decide (gK a b=0):=by rw[dU,(yaq hf h0).1]
theorem NU {a b:Nat} (hf:rg a<9218868437227405312) (h0:rg b≠0):qu (fB a b)=fB a b:=by
 unfold fB;split
 · rfl
 · split
   · exact zek (veq _)
   · split
     · exact rV _ rfl
     · exact zek (qp (by rw[(yaq hf h0).1];have:=qhv hf h0;omega))
section
variable (w:World)
theorem zxz (d:Nat) (h:aW d=false):Calls prog 171 #[.float .f64 d] w (aF w (.float .f64 (gz .down d))):=by
 refine zd func171 rfl ntmps171 rfl ?_;have LW:=aC (No) w;have ak:=aN (No) w;have E:=aC (No) w;refine zv ?_;refine za rfl (zG aoj rfl ((jD d).trans h) ?_);exact qdq
theorem rW (d:Nat) (h:aW d=true) (hd:d<18446744073709551616):Calls prog 171 #[.float .f64 d] w fun e w'=>∃r,e= .returned (.float .f64 r)∧aW r=true∧Below w.heap.size w w':=by
 refine zd func171 rfl ntmps171 rfl ?_;have LW:=aC (No) w;have ak:=aN (No) w;have E:=aC (No) w;refine zv ?_;refine za rfl (Ma aoj rfl h hd ?_);intro r w1 hr;have Ec:=hr.ext;replace E:=E.trans Ec.no;refine zo ?_;exact ⟨r,rfl,hr.isn,aP LW E ak⟩
section
variable (a b:Nat) (ha:a<18446744073709551616) (hbq:b<18446744073709551616) (hz:dU b=false)
include ha hbq hz
theorem Hz (hc:kn a b=true):Calls prog 166 #[.float .f64 a,.float .f64 b] w fun e w'=>∃q m,e= .returned (.tuple #[.float .f64 q,.float .f64 m])∧qu q=oo a b∧qu m=fB a b∧Below w.heap.size w w':=by
 have hF:oo a b=9221120237041090560:=by rw[oo,if_pos hc]
 have hM:fB a b=9221120237041090560:=by rw[fB,if_pos hc]
 have hnn:aW 9221120237041090561=true:=de;refine zd func166 rfl ntmps166 rfl ?_;have LW:=aC (No) w;have ak:=aN (No) w;have E:=aC (No) w;refine zv ?_;refine zb ao1 (ad7 _ a b ha hbq hz hc) E fun w1 E=>(zp ?_);refine za rfl (jd (m:=a) (n:=9221120237041090561) (.inr (.inl rfl)) rfl rfl ?_);intro r1 w2 h1;have Ec:=h1.ext;replace E:=E.trans Ec.no;refine aK ?_;refine za rfl (jd (m:=r1) (n:=b) (.inr (.inr (.inr rfl))) rfl rfl ?_);intro r2 w3 h2;have Ec:=h2.ext;replace E:=E.trans Ec.no;have n1:=h1.nan (yek (.inr hnn));have n2:=h2.nan (yek (.inl n1));refine zp ?_;refine Tk ?_;refine vf 18 rfl (by kernel_rfl:(.bool (gk 9221120237041090561 0 !=some .eq):Value)=_) (zo ?_);refine za rfl (ypv rfl rfl (yu 20 rfl (by kernel_rfl:(.bool (gk 9221120237041090561 0==some .lt):Value)=_) (aK ?_)));refine za rfl (ypv rfl rfl (za rfl (qyz u4 rfl rfl (zi ?_))));refine zf rfl (fun hs=>?_) (fun hs=>?_)
 ·
  refine ye ?_;refine za rfl (jd (m:=9221120237041090561) (n:=b) (.inl rfl) rfl rfl ?_);intro r3 w4 h3;have Ec:=h3.ext;replace E:=E.trans Ec.no;refine zn ?_;refine za rfl (jd (m:=r2) (n:=4607182418800017408) (.inr (.inl rfl)) rfl rfl ?_);intro r4 w5 h4;have Ec:=h4.ext;replace E:=E.trans Ec.no;have n3:=h3.nan (yek (.inl hnn));have n4:=h4.nan (yek (.inl n2));refine yiv ?_;refine zw 32 rfl (by rw[zjq n4]<;>rfl) (zo ?_);refine za rfl (ze vqk rfl ((rW _ r4 n4 h4.GH).mono ?_));rintro e w6 ⟨f,rfl,hf,hb⟩;refine ⟨_,rfl,?_⟩;replace E:=yK E hb;refine yk ?_;refine za rfl (jd (m:=r4) (n:=f) (.inr (.inl rfl)) rfl rfl ?_);intro r w7 hr;have Ec:=hr.ext;replace E:=E.trans Ec.no;refine zsx ?_;refine zw 43 rfl (by rw[zjq (hr.nan (yek (.inl n4)))]<;>rfl) (ja ?_);exact ⟨f,r3,rfl,by rw[qkz hf,hF],by rw[qkz n3,hM],aP LW E ak⟩
 ·
  refine zo ?_;refine oe ?_;refine zi ?_;refine zw 32 rfl (by rw[zjq n2]<;>rfl) (zo ?_);refine za rfl (ze vqk rfl ((rW _ r2 n2 h2.GH).mono ?_));rintro e w8 ⟨f,rfl,hf,hb⟩;refine ⟨_,rfl,?_⟩;replace E:=yK E hb;refine yk ?_;refine za rfl (jd (m:=r2) (n:=f) (.inr (.inl rfl)) rfl rfl ?_);intro r w9 hr;have Ec:=hr.ext;replace E:=E.trans Ec.no;refine zsx ?_;refine zw 43 rfl (by rw[zjq (hr.nan (yek (.inl n2)))]<;>rfl) (ja ?_);exact ⟨f,_,rfl,by rw[qkz hf,hF],by rw[qkz hnn,hM],aP LW E ak⟩
section
variable (hf:rg a<9218868437227405312) (hn:aW b=false)
include hf hn
theorem H6:Calls prog 166 #[.float .f64 a,.float .f64 b] w fun e w'=>∃q m,e= .returned (.tuple #[.float .f64 q,.float .f64 m])∧qu q=oo a b∧qu m=fB a b∧Below w.heap.size w w':=by
 have h0:rg b≠0:=of_decide_eq_false hz;have hcn:¬kn a b=true:=by rw[kn,qp hf,hn,decide_eq_false om];decide
 have hdn:=GV ha hf hn h0;have hmb:=NU hf h0;have hmz:=UQ hf h0;obtain ⟨p1,p2,p3⟩:=yaq hf h0;obtain ⟨zq,hzq,hzs⟩:=vW (qp hf) hn h0 (.inl hf);have hmn:aW (dH a b)=false:=qp (by rw[p1];have:=qhv hf h0;omega);refine zd func166 rfl ntmps166 rfl ?_;have LW:=aC (No) w;have ak:=aN (No) w;have E:=aC (No) w;refine zv ?_;refine zb ao1 (ad6 _ a b ha hbq hz hf hn) E fun w1 E=>(zp ?_);refine za rfl (P7 (.inr (.inl rfl)) rfl rfl (GR hf h0) (aK ?_));refine za rfl (P7 (.inr (.inr (.inr rfl))) rfl rfl (TT ha hf hn h0) (zp ?_));refine Tk ?_;refine zi ?_;refine yr 18 (.bool (!(decide (gK a b=0)))) rfl (by rw[←hmz,←gl];rfl) (zf rfl (fun hm0=>?_) (fun hm0=>?_))
 ·
  have hm0:¬gK a b=0:=by simpa using hm0
  refine zr ?_;refine za rfl (ypv rfl rfl (aK ?_));refine za rfl (ypv rfl rfl (za rfl (qyz u4 rfl rfl (zi ?_))));refine yr 23 (.bool (ng a !=ng b)) rfl (by rw[zmz hmn (by rw[p1];exact hm0),zmz hn h0,p2]) (zf rfl (fun hfl=>?_) (fun hfl=>?_))
  ·
   have dh:Ke a b=true:=by rw[Ke,decide_eq_true hm0,hfl];rfl
   have hd1:Bv a b=ji (aR .sub (cO a b) 4607182418800017408):=by rw[Bv,if_pos dh]
   have hm1:qu (ji (aR .add (dH a b) b))=fB a b:=by rw[rV _ rfl,fB,if_neg hcn,if_neg hm0,if_pos dh]
   refine ye ?_;refine za rfl (P7 (.inl rfl) rfl rfl (az2 hf hn h0) (zn ?_));refine za rfl (P7 (.inr (.inl rfl)) rfl rfl (TU ha hf hn h0) (yiv ?_));refine yr 32 (.bool (dU (ji (aR .sub (cO a b) 4607182418800017408)))) rfl (by rw[gl]<;>rfl) (zf rfl (fun hzd=>?_) (fun hzd=>?_))
   ·
    refine lC ?_;refine zb zR (zmv _ 0 de zq (P8 hzq).2) E fun w2 E=>?_;exact UM
   ·
    refine zn ?_;refine zb vqk (zxz _ (ji (aR .sub (cO a b) 4607182418800017408)) (by rw[←hd1];exact hdn.1)) E fun w3 E=>(yk ?_);refine Cq ?_;intro r w4 hr;have Ec:=hr.ext;replace E:=E.trans Ec.no;refine zsx ?_;refine yr 43 (.bool (upB (ji (aR .sub (cO a b) 4607182418800017408)))) rfl (by rw[rU hr]<;>rfl) (zf rfl (fun hu=>?_) (fun hu=>?_))
    ·
     refine Co ?_;intro r5 w5 qW;exact UN
    ·
     exact UO
  ·
   have dh:¬Ke a b=true:=by rw[Ke,hfl,Bool.and_false];decide
   have hd1:Bv a b=cO a b:=by rw[Bv,if_neg dh]
   have hm1:qu (dH a b)=fB a b:=by rw[zek hmn,fB,if_neg hcn,if_neg hm0,if_neg dh]
   refine zo ?_;refine oe ?_;refine zi ?_;refine yr 32 (.bool (dU (cO a b))) rfl (by rw[gl]<;>rfl) (zf rfl (fun hzd=>?_) (fun hzd=>?_))
   ·
    refine lC ?_;refine zb zR (zmv _ 0 de zq (P8 hzq).2) E fun w6 E=>?_;exact UM
   ·
    refine zn ?_;refine zb vqk (zxz _ (cO a b) (by rw[←hd1];exact hdn.1)) E fun w7 E=>(yk ?_);refine qtq ?_;intro r w8 hr;have Ec:=hr.ext;replace E:=E.trans Ec.no;refine zsx ?_;refine yr 43 (.bool (upB (cO a b))) rfl (by rw[rU hr]<;>rfl) (zf rfl (fun hu=>?_) (fun hu=>?_))
    ·
     refine quk ?_;intro r5 w9 qW;exact UN
    ·
     exact UO
 ·
  have hm0:gK a b=0:=by simpa using hm0
  have dh:¬Ke a b=true:=by rw[Ke,hm0];simp
  have hd1:Bv a b=cO a b:=by rw[Bv,if_neg dh]
  have hm1:qu (Ieee.double.word (ng b) (rg 0))=fB a b:=by rw[fB,if_neg hcn,if_pos hm0];exact zek (veq _)
  refine zi ?_;refine zb zR (zmv _ 0 de b hbq) E fun dI E=>(yiv ?_);refine yr 32 (.bool (dU (cO a b))) rfl (by rw[gl]<;>rfl) (zf rfl (fun hzd=>?_) (fun hzd=>?_))
  ·
   refine lC ?_;refine zb zR (zmv _ 0 de zq (P8 hzq).2) E fun dV E=>?_;exact UM
  ·
   refine zn ?_;refine zb vqk (zxz _ (cO a b) (by rw[←hd1];exact hdn.1)) E fun dB E=>(yk ?_);refine qtq ?_;intro r dS hr;have Ec:=hr.ext;replace E:=E.trans Ec.no;refine zsx ?_;refine yr 43 (.bool (upB (cO a b))) rfl (by rw[rU hr]<;>rfl) (zf rfl (fun hu=>?_) (fun hu=>?_))
   ·
    refine quk ?_;intro r5 cZ qW;exact UN
   ·
    exact UO
end
omit hz in
theorem lD (hz:dU b=false):Calls prog 166 #[.float .f64 a,.float .f64 b] w fun e w'=>∃q m,e= .returned (.tuple #[.float .f64 q,.float .f64 m])∧qu q=oo a b∧qu m=fB a b∧Below w.heap.size w w':=by
 cases hc:kn a b with
 | true=>exact Hz w a b ha hbq hz hc
 | false=>
  rw[kn] at hc;simp only[Bool.or_eq_false_iff,decide_eq_false_iff_not] at hc
  have h1:=of_decide_eq_false hc.1.1;exact H6 w a b ha hbq hz om hc.1.2
end
end
end
end Go.Proofs.YtmnmebdmpigddaaGreatDoor
namespace Go.Proofs.YtmnmebdmpigddaaGreatDoor
open Ieee
def aU3 (z:Nat):Prop:=rg z=9218868437227405312∨(rg z<9218868437227405312∧acj (rg z))
theorem aAj {d:Nat} (h:aW d=false):rg d<9218868437227405312∨rg d=9218868437227405312:=by have:=of_decide_eq_false h;omega
section
variable {a b:Nat} (ha:a<18446744073709551616) (hf:rg a<9218868437227405312) (hb:b<18446744073709551616) (hn:aW b=false) (h0:rg b≠0)
include ha hf hn h0
include hb
end
end Go.Proofs.YtmnmebdmpigddaaGreatDoor
namespace Go.Proofs.YtmnmebdmpigddaaGreatDoor
open Go.RowKit Ieee
theorem Vy {P:Prop} (h:P:=by
 exact ⟨z,h1,(P8 h1).1,by rw[h2,ha.sg,hs,Bool.xor_false],(P8 h1).2⟩):P:=h
structure nZ (n:Bool) (b:Nat):Prop where
 num:aW b=false
 sg:ng b=n
 lt:b<18446744073709551616
theorem agz {a b:Nat} {n:Bool} (ha:nZ n a) (hb:rg b<9218868437227405312) (h0:rg b≠0) (hs:ng b=false):∃z,aR .mul a b=some z∧nZ n z:=by
 have key:∃z,aR .mul a b=some z∧ng z=(ng a ^^ ng b):=by
  rcases aAj ha.num with hA | hA
  · simp only[aR,Format.mul,vd hA,vd hb,Datum.product]
    exact ⟨_,rfl,yrz _ _ _⟩
  · simp only[aR,Format.mul,xn hA,vd hb,Datum.product]
    rw[if_neg (kH h0)];exact ⟨_,rfl,(vj _ _ (by rw[c3];decide)).2.1⟩
 obtain ⟨z,h1,h2⟩:=key;exact Vy
theorem agx {a b:Nat} {n:Bool} (ha:nZ n a) (hb:rg b<9218868437227405312) (h0:rg b≠0) (hs:ng b=false):∃z,aR .quo a b=some z∧nZ n z:=by
 obtain ⟨z,h1,h2⟩:=vW ha.num (qp hb) h0 (.inr hb);exact Vy
end Go.Proofs.YtmnmebdmpigddaaGreatDoor
namespace Go.Proofs.YtmnmebdmpigddaaGreatDoor
open Go.RowKit Proofs.Tryz
theorem Vz {P:Prop} (h:P:=by
 split
 · rename_i e;exact VA hk (h.first e.symm)
 · exact h.lead om):P:=h
theorem VB {P:Prop} (h:P:=by
 have h3:2^k≤10^k:=Nat.pow_le_pow_left de k;have:=h.hn;rw[Nat.pow_succ];omega):P:=h
theorem jh {α:Type} {done:α→Bool} {step:α→α} (I:α→Prop) (m:α→Nat) (hs:∀s,I s→done s=false→I (step s)∧m (step s)<m s) {s:α} (h:I s) :
 I (va done step s)∧done (va done step s)=true:=by
 generalize hn:m s=n
 induction n using Nat.strongRecOn generalizing s with
 | _ n ih=>
  cases hd:done s with
  | true=>rw[qe hd];exact ⟨h,hd⟩
  | false=>
   rw[vo hd];obtain ⟨h1,h2⟩:=hs s h hd;exact ih (m (step s)) om h1 rfl
structure Dec where
 d:List Nat
 nd:Nat
 dp:Int
 neg:Bool
 tr:Bool
def dg (l:List Nat) (i:Nat):Nat:=l.getD i 48
theorem qdv {l:List Nat} {j b i:Nat} (hj:j<l.length):dg (l.set j b) i=if i=j then b else dg l i:=by
 unfold dg;rw[List.getD_eq_getElem?_getD,List.getD_eq_getElem?_getD,List.getElem?_set];split
 · rename_i h;subst h;rw[if_pos rfl];simp[hj]
 · rename_i h;rw[if_neg (fun e=>h e.symm)]
theorem KI {l:List Nat} {j:Nat} (hj:j<l.length):l[j]? =some (dg l j):=by
 unfold dg;rw[List.getD_eq_getElem?_getD,List.getElem?_eq_getElem hj];rfl
def xJ (t:Dec):List Value:=t.d.map (fun b=>(.int .u8 ((b:Nat):Int):Value))++ [.int .i64 (t.nd:Int),.int .i64 t.dp,.bool t.neg,.bool t.tr]
def yo (t:Dec):Array Value:=(xJ t).toArray
section
variable {t:Dec} (h:t.d.length=800)
include h
theorem VD:(yo t).size=804:=by simp[yo,xJ,h]
theorem agj {j:Nat} (hj:j<800):(xJ t)[j]? =some (.int .u8 ((dg t.d j:Nat):Int)):=by
 unfold xJ;rw[List.getElem?_append_left (by simp[h];exact hj),List.getElem?_map,KI (by rw[h];exact hj)];rfl
theorem VE {j:Nat} (hj:j<800):(yo t)[j]? =some (.int .u8 ((dg t.d j:Nat):Int)):=by
 unfold yo;rw[List.getElem?_toArray];exact agj h hj
theorem qjk {j:Nat}:(xJ t)[800+j]? =([.int .i64 (t.nd:Int),.int .i64 t.dp,.bool t.neg,.bool t.tr]:List Value)[j]? :=by
 unfold xJ;rw[List.getElem?_append_right (by simp[h])];simp[h]
theorem aB0:(yo t)[800]? =some (.int .i64 (t.nd:Int)):=by unfold yo;rw[List.getElem?_toArray];exact qjk h (j:=0)
theorem aB1:(yo t)[801]? =some (.int .i64 t.dp):=by unfold yo;rw[List.getElem?_toArray];exact qjk h (j:=1)
theorem ah0:(yo t)[802]? =some (.bool t.neg):=by unfold yo;rw[List.getElem?_toArray];exact qjk h (j:=2)
theorem aB2:(yo t)[803]? =some (.bool t.tr):=by unfold yo;rw[List.getElem?_toArray];exact qjk h (j:=3)
theorem ar4 {j b:Nat} (hj:j<800):(yo t).setIfInBounds j (.int .u8 ((b:Nat):Int))=yo { t with d:=t.d.set j b }:=by
 unfold yo xJ;rw[List.setIfInBounds_toArray,List.set_append_left _ _ (by simp[h];exact hj),List.map_set]
theorem qvk {j:Nat} {v:Value}:(yo t).setIfInBounds (800+j) v=(t.d.map (fun b=>(.int .u8 ((b:Nat):Int):Value))++([.int .i64 (t.nd:Int),.int .i64 t.dp,.bool t.neg,.bool t.tr]:List Value).set j v).toArray:=by
 unfold yo xJ;rw[List.setIfInBounds_toArray,List.set_append_right _ _ (by simp[h])];simp[h]
theorem lV (n:Nat):(yo t).setIfInBounds 800 (.int .i64 ((n:Nat):Int))=yo { t with nd:=n }:=qvk h (j:=0)
theorem vgv (p:Int):(yo t).setIfInBounds 801 (.int .i64 p)=yo { t with dp:=p }:=qvk h (j:=1)
theorem KJ (b:Bool):(yo t).setIfInBounds 802 (.bool b)=yo { t with neg:=b }:=qvk h (j:=2)
theorem IB (b:Bool):(yo t).setIfInBounds 803 (.bool b)=yo { t with tr:=b }:=qvk h (j:=3)
end
attribute [irreducible] yo
structure aY (t:Dec):Prop where
 len:t.d.length=800
 hn:t.nd≤800
 bN:∀i,i<t.nd→48≤dg t.d i∧dg t.d i≤57
 lead:0<t.nd→49≤dg t.d 0
def xj (d:List Nat):Nat→Nat
 | 0=>0
 | n+1=>if dg d n=48 then xj d n else n+1
theorem Da (d:List Nat):∀n,xj d n≤n
 | 0=>Nat.le_refl _
 | n+1=>by
  unfold xj;split
  · exact Nat.le_trans (Da d n) (Nat.le_succ n)
  · exact Nat.le_refl _
theorem su {d:List Nat} (h:49≤dg d 0):∀ {n},0<n→0<xj d n
 | 0,h0=>absurd h0 (Nat.lt_irrefl _)
 | n+1,_=>by
  unfold xj;split
  · rename_i h1
    rcases Nat.eq_zero_or_pos n with h2 | h2
    · subst h2;omega
    · exact su h h2
  · exact Nat.succ_pos _
def qrx (t:Dec):Dec:={ t with nd:=xj t.d t.nd,dp:=if xj t.d t.nd=0 then 0 else t.dp }
theorem vnk {t:Dec} (h:aY t):aY (qrx t):=by
 have h1:=Da t.d t.nd;have h2:=h.hn;exact ⟨h.len,by show xj t.d t.nd≤800;omega,fun i hi=>h.bN i (Nat.lt_of_lt_of_le hi h1),fun h0=>h.lead (Nat.lt_of_lt_of_le h0 h1)⟩
theorem vgx {t:Dec} (h:aY t) (h0:0<t.nd):0<(qrx t).nd:=su (h.lead h0) h0
theorem Db {t:Dec} (h:aY t) (h0:0<t.nd):(qrx t).dp=t.dp:=by
 have:=vgx h h0;show (if xj t.d t.nd=0 then 0 else t.dp)=t.dp
 rw[if_neg (by intro e;rw[show (qrx t).nd=xj t.d t.nd from rfl,e] at this;omega)]
structure eu where
 r:Nat
 n:Nat
def yov (t:Dec) (k:Nat) (s:eu):Bool:=decide (s.n/2^k≠0∨t.nd≤s.r)
def vsv (t:Dec) (s:eu):eu:=⟨s.r+1,s.n*10+(dg t.d s.r-48)⟩
def ydv (k:Nat) (s:eu):Bool:=decide (s.n/2^k≠0)
def qvv (s:eu):eu:=⟨s.r+1,s.n*10⟩
noncomputable def rsA (t:Dec) (k:Nat):eu:=va (yov t k) (vsv t) ⟨0,0⟩
noncomputable def iy (t:Dec) (k:Nat):eu:=va (ydv k) qvv (rsA t k)
structure RsC where
 d:List Nat
 r:Nat
 w:Nat
 n:Nat
def qfz (t:Dec) (s:RsC):Bool:=decide (t.nd≤s.r)
def vsk (k:Nat) (s:RsC):RsC:=⟨s.d.set s.w (s.n/2^k+48),s.r+1,s.w+1,s.n%2^k*10+(dg s.d s.r-48)⟩
noncomputable def VF (t:Dec) (k:Nat):RsC:=va (qfz t) (vsk k) ⟨t.d,(iy t k).r,0,(iy t k).n⟩
structure Zr where
 d:List Nat
 w:Nat
 n:Nat
 tr:Bool
def VG (s:Zr):Bool:=decide (s.n=0)
def xg (k:Nat) (s:Zr):Zr:=
 if s.w<800 then ⟨s.d.set s.w (s.n/2^k+48),s.w+1,s.n%2^k*10,s.tr⟩
 else ⟨s.d,s.w,s.n%2^k*10,if 0<s.n/2^k then true else s.tr⟩
noncomputable def rsE (t:Dec) (k:Nat):Zr:=va VG (xg k) ⟨(VF t k).d,(VF t k).w,(VF t k).n,t.tr⟩
noncomputable def go (t:Dec) (k:Nat):Dec:=qrx { t with d:=(rsE t k).d,nd:=(rsE t k).w,dp:=t.dp-(((iy t k).r:Nat)-1),tr:=(rsE t k).tr }
structure Oz (t:Dec) (k:Nat) (s:eu):Prop where
 hr:s.r≤t.nd
 hn:s.n<10*2^k
 zero:s.r=0→s.n=0
 pos:0<s.r→0<s.n
 one:s.r=1→s.n=dg t.d 0-48
theorem sD {t:Dec} {k:Nat} {s:eu} (ht:aY t) (h:Oz t k s) (hd:yov t k s=false):Oz t k (vsv t s)∧s.n<2^k∧s.r<t.nd:=by
 have hd:=of_decide_eq_false hd;have h1:s.n/2^k=0:=Classical.byContradiction fun e=>hd (.inl e);have h2:s.r<t.nd:=Nat.lt_of_not_le fun e=>hd (.inr e);have hp:0<2^k:=Nat.two_pow_pos k;have h3:s.n<2^k:=(Nat.div_eq_zero_iff_lt hp).1 h1;have hg:=ht.bN s.r h2;refine ⟨⟨h2,?_,fun e=>?_,fun _=>?_,fun e=>?_⟩,h3,h2⟩
 · show s.n*10+(dg t.d s.r-48)<10*2^k;omega
 · exact absurd e (Nat.succ_ne_zero _)
 · show 0<s.n*10+(dg t.d s.r-48)
   rcases Nat.eq_zero_or_pos s.r with h4 | h4
   · rw[h4];have:=ht.lead om;omega
   · have:=h.pos h4;omega
 · have h4:s.r=0:=by have:s.r+1=1:=e;omega
   show s.n*10+(dg t.d s.r-48)=dg t.d 0-48
   rw[h.zero h4,h4];omega
theorem sG (t:Dec) (k:Nat):Oz t k ⟨0,0⟩:=⟨Nat.zero_le _,by have:=Nat.two_pow_pos k;show 0<10*2^k;omega,fun _=>rfl,fun h=>absurd h (Nat.lt_irrefl _),fun h=>absurd h de⟩
theorem lW {t:Dec} (k:Nat) (ht:aY t):Oz t k (rsA t k)∧yov t k (rsA t k)=true:=by
 refine jh (Oz t k) (fun s=>t.nd-s.r) (fun s h hd=>?_) (sG t k);obtain ⟨h1,_,h2⟩:=sD ht h hd;exact ⟨h1,by show t.nd-(s.r+1)<t.nd-s.r;omega⟩
theorem VH {t:Dec} {k:Nat} (ht:aY t) (h0:0<t.nd):0<(rsA t k).r:=by
 obtain ⟨h1,h2⟩:=lW k ht;rcases Nat.eq_zero_or_pos (rsA t k).r with h | h
 · have h2:=of_decide_eq_true h2;rw[h1.zero h,h,Nat.zero_div] at h2;omega
 · exact h
structure VI (t:Dec) (k:Nat) (s:eu):Prop where
 hn:s.n<10*2^k
 pos:0<s.n
 hr:0<s.r
 one:s.r=1→s.n=dg t.d 0-48
 far:s.r≤t.nd∨10^(s.r-t.nd)≤s.n
theorem OA {t:Dec} {k:Nat} {s:eu} (h:VI t k s) (hd:ydv k s=false) (hx:t.nd≤s.r):VI t k (qvv s)∧s.n<2^k:=by
 have hd:=of_decide_eq_false hd;have hp:0<2^k:=Nat.two_pow_pos k;have h3:s.n<2^k:=(Nat.div_eq_zero_iff_lt hp).1 (Classical.byContradiction fun e=>hd e);have:=h.pos;have:=h.hr;refine ⟨⟨by show s.n*10<10*2^k;omega,by show 0<s.n*10;omega,Nat.succ_pos _,fun e=>?_,.inr ?_⟩,h3⟩
 · have:s.r+1=1:=e;omega
 · show 10^(s.r+1-t.nd)≤s.n*10
   have e:s.r+1-t.nd=(s.r-t.nd)+1:=om;rw[e,Nat.pow_succ];rcases h.far with h4 | h4
   · have:s.r-t.nd=0:=om;rw[this];omega
   · exact Nat.mul_le_mul_right 10 h4
theorem OB {t:Dec} {k:Nat} (ht:aY t) (h0:0<t.nd):VI t k (rsA t k):=by
 have h1:=(lW k ht).1;have h2:=VH (k:=k) ht h0;exact ⟨h1.hn,h1.pos h2,h2,h1.one,.inl h1.hr⟩
def OC (t:Dec) (k:Nat) (s:eu):Prop:=VI t k s∧(s.n/2^k≠0∨t.nd≤s.r)
theorem lX {t:Dec} {k:Nat} {s:eu} (h:OC t k s) (hd:ydv k s=false):OC t k (qvv s)∧s.n<2^k:=by
 have hx:t.nd≤s.r:=h.2.resolve_left (of_decide_eq_false hd);obtain ⟨h1,h2⟩:=OA h.1 hd hx;exact ⟨⟨h1,.inr (Nat.le_succ_of_le hx)⟩,h2⟩
theorem lY {t:Dec} {k:Nat} (ht:aY t) (h0:0<t.nd):OC t k (rsA t k):=⟨OB ht h0,of_decide_eq_true (lW k ht).2⟩
theorem yjk {t:Dec} (k:Nat) (ht:aY t) (h0:0<t.nd):OC t k (iy t k)∧ydv k (iy t k)=true:=by
 refine jh (OC t k) (fun s=>2^k-s.n) (fun s h hd=>?_) (lY ht h0);obtain ⟨h1,h2⟩:=lX h hd;have:=h.1.pos;exact ⟨h1,by show 2^k-s.n*10<2^k-s.n;omega⟩
theorem ah1 {t:Dec} (k:Nat) (ht:aY t) (h0:0<t.nd):2^k≤(iy t k).n:=by
 have h:=of_decide_eq_true (yjk k ht h0).2;rcases Nat.lt_or_ge (iy t k).n (2^k) with h1 | h1
 · exact absurd (Nat.div_eq_of_lt h1) h
 · exact h1
theorem ar5 {t:Dec} (k:Nat) (ht:aY t) (h0:0<t.nd):(iy t k).r≤t.nd+k+1:=by
 have h:=(yjk k ht h0).1.1;rcases h.far with h1 | h1
 · omega
 · have h2:10^((iy t k).r-t.nd)<10^(k+1):=by
    exact VB
   have:=(Nat.pow_lt_pow_iff_right (a:=10) de).1 h2;omega
structure OD (t:Dec) (k r0:Nat) (s:RsC):Prop where
 len:s.d.length=800
 hw:s.r=s.w+r0
 hr:s.w=0∨s.r≤t.nd
 old:∀i,s.w≤i→dg s.d i=dg t.d i
 bN:∀i,i<s.w→48≤dg s.d i∧dg s.d i≤57
 lead:0<s.w→49≤dg s.d 0∧(r0=1→dg s.d 0<dg t.d 0)
 hn:s.n<10*2^k
 first:s.w=0→2^k≤s.n∧(r0=1→s.n=dg t.d 0-48)
theorem vwv {n k:Nat} (h:n<10*2^k):n/2^k≤9:=by
 have:=(Nat.div_lt_iff_lt_mul (Nat.two_pow_pos k)).2 h;omega
theorem VA {t:Dec} {k n r0:Nat} (hk:1≤k) (h:2^k≤n∧(r0=1→n=dg t.d 0-48)):49≤n/2^k+48∧(r0=1→n/2^k+48<dg t.d 0):=by
 have h1:1≤n/2^k:=(Nat.le_div_iff_mul_le (Nat.two_pow_pos k)).2 om;refine ⟨om,fun e=>?_⟩;have h2:=h.2 e;have h3:n/2^k<n:=Nat.div_lt_self (by have:=Nat.two_pow_pos k;omega) (Nat.one_lt_two_pow om);omega
theorem sH {t:Dec} {k r0:Nat} {s:RsC} (ht:aY t) (hk:1≤k) (hr0:1≤r0) (h:OD t k r0 s) (hd:qfz t s=false):OD t k r0 (vsk k s):=by
 have hd:¬t.nd≤s.r:=of_decide_eq_false hd;have h1:=h.hw;have hn:=ht.hn;have hl:=h.len;have hw:s.w<s.d.length:=om;have hg:=ht.bN s.r om;rw[←h.old s.r om] at hg;have hq:=vwv h.hn;have hq0:=Nat.zero_le (s.n/2^k);have hm:=Nat.mod_lt s.n (Nat.two_pow_pos k);refine ⟨by show (s.d.set s.w _).length=800;rw[List.length_set];exact hl,by show s.r+1=s.w+1+r0;omega,.inr (by show s.r+1≤t.nd;omega),fun i hi=>?_,fun i hi=>?_,fun _=>?_,?_,fun e=>absurd e (Nat.succ_ne_zero _)⟩
 · show dg (s.d.set s.w _) i=_
   have hi:s.w+1≤i:=hi;rw[qdv hw,if_neg om];exact h.old i om
 · show 48≤dg (s.d.set s.w _) i∧dg (s.d.set s.w _) i≤57
   have hi:i<s.w+1:=hi;rw[qdv hw];split
   · omega
   · exact h.bN i om
 · show 49≤dg (s.d.set s.w _) 0∧(r0=1→dg (s.d.set s.w _) 0<dg t.d 0)
   rw[qdv hw];exact Vz
 · show s.n%2^k*10+(dg s.d s.r-48)<10*2^k
   omega
theorem sI {t:Dec} {k:Nat} (ht:aY t) (h0:0<t.nd):OD t k (iy t k).r ⟨t.d,(iy t k).r,0,(iy t k).n⟩:=by
 have h:=(yjk k ht h0).1.1;exact ⟨ht.len,(Nat.zero_add _).symm,.inl rfl,fun _ _=>rfl,fun _ hi=>absurd hi (Nat.not_lt_zero _),fun hi=>absurd hi (Nat.lt_irrefl _),h.hn,fun _=>⟨ah1 k ht h0,h.one⟩⟩
theorem Dc {t:Dec} {k:Nat} (ht:aY t) (hk:1≤k) (h0:0<t.nd):OD t k (iy t k).r (VF t k)∧qfz t (VF t k)=true:=by
 have hr:=(yjk k ht h0).1.1.hr;refine jh (OD t k (iy t k).r) (fun s=>t.nd-s.r) (fun s h hd=>⟨sH ht hk hr h hd,?_⟩) (sI ht h0);have hd:¬t.nd≤s.r:=of_decide_eq_false hd;show t.nd-(s.r+1)<t.nd-s.r;omega
structure IC (t:Dec) (k r0:Nat) (s:Zr):Prop where
 len:s.d.length=800
 hw:s.w≤800
 bN:∀i,i<s.w→48≤dg s.d i∧dg s.d i≤57
 lead:0<s.w→49≤dg s.d 0∧(r0=1→dg s.d 0<dg t.d 0)
 hn:s.n<10*2^k
 first:s.w=0→2^k≤s.n∧(r0=1→s.n=dg t.d 0-48)
theorem sJ {t:Dec} {k r0:Nat} {s:Zr} (hk:1≤k) (h:IC t k r0 s):IC t k r0 (xg k s):=by
 have hl:=h.len;have hq:=vwv h.hn;have hq0:=Nat.zero_le (s.n/2^k);have hm:=Nat.mod_lt s.n (Nat.two_pow_pos k);have hn:s.n%2^k*10<10*2^k:=om;unfold xg;split
 · rename_i hw
   have hw':s.w<s.d.length:=om;refine ⟨by show (s.d.set s.w _).length=800;rw[List.length_set];exact hl,hw,fun i hi=>?_,fun _=>?_,hn,fun e=>absurd e (Nat.succ_ne_zero _)⟩
   · show 48≤dg (s.d.set s.w _) i∧dg (s.d.set s.w _) i≤57
     have hi:i<s.w+1:=hi;rw[qdv hw'];split
     · omega
     · exact h.bN i om
   · show 49≤dg (s.d.set s.w _) 0∧(r0=1→dg (s.d.set s.w _) 0<dg t.d 0)
     rw[qdv hw'];exact Vz
 · rename_i hw
   exact ⟨hl,h.hw,h.bN,h.lead,hn,fun e=>absurd (show s.w=0 from e) om⟩
theorem sK {t:Dec} {k:Nat} (ht:aY t) (hk:1≤k) (h0:0<t.nd):IC t k (iy t k).r ⟨(VF t k).d,(VF t k).w,(VF t k).n,t.tr⟩:=by
 have h:=(Dc ht hk h0).1;have hn:=ht.hn;have hw:=h.hw;refine ⟨h.len,?_,h.bN,h.lead,h.hn,h.first⟩;show (VF t k).w≤800
 rcases h.hr with h1 | h1<;>omega
theorem Df {k j:Nat} {s:Zr} (h:2^j∣s.n∧j≤k+1∧(j=k+1→s.n=0)) (hd:VG s=false):j≤k∧(2^(j+1)∣(xg k s).n∧j+1≤k+1∧(j+1=k+1→(xg k s).n=0)):=by
 have hd:s.n≠0:=of_decide_eq_false hd;obtain ⟨h1,h2,h3⟩:=h;have hj:j≤k:=by
  rcases Nat.lt_or_ge k j with h4 | h4
  · exact absurd (h3 om) hd
  · exact h4
 have e:(xg k s).n=s.n%2^k*10:=by unfold xg;split<;>rfl
 refine ⟨hj,?_,om,fun ej=>?_⟩
 · rw[e,Nat.pow_succ];have h5:2^j∣s.n%2^k:=(Nat.dvd_mod_iff (Nat.pow_dvd_pow 2 hj)).2 h1;exact Nat.mul_dvd_mul h5 de
 · have:j=k:=om;subst this;rw[e,Nat.mod_eq_zero_of_dvd h1]
theorem Dg {t:Dec} {k:Nat} (ht:aY t) (hk:1≤k) (h0:0<t.nd):IC t k (iy t k).r (rsE t k)∧VG (rsE t k)=true:=by
 have key:∀(m j:Nat) (s:Zr),k+1-j=m→IC t k (iy t k).r s→(2^j∣s.n∧j≤k+1∧(j=k+1→s.n=0))→IC t k (iy t k).r (va VG (xg k) s)∧VG (va VG (xg k) s)=true:=by
  intro m;induction m with
  | zero=>
   intro j s hm h hj;have hd:VG s=true:=decide_eq_true (hj.2.2 om);rw[qe hd];exact ⟨h,hd⟩
  | succ m ih=>
   intro j s hm h hj;cases hd:VG s with
   | true=>rw[qe hd];exact ⟨h,hd⟩
   | false=>
    rw[vo hd];obtain ⟨h1,h2⟩:=Df hj hd;exact ih (j+1) _ om (sJ hk h) h2
 exact key (k+1) 0 _ rfl (sK ht hk h0) ⟨Nat.one_dvd _,om,fun e=>absurd e om⟩
theorem zcv {t:Dec} {k:Nat} (ht:aY t) (hk:1≤k) (h0:0<t.nd) :
 aY (go t k)∧0<(go t k).nd∧t.dp-801-k≤(go t k).dp∧((go t k).dp<t.dp∨((go t k).dp=t.dp∧dg (go t k).d 0<dg t.d 0))∧(go t k).neg=t.neg:=by
 obtain ⟨h1,h2⟩:=Dg ht hk h0;have h2:(rsE t k).n=0:=of_decide_eq_true h2;have hw:0<(rsE t k).w:=by
  rcases Nat.eq_zero_or_pos (rsE t k).w with h | h
  · have:=(h1.first h).1;have:=Nat.two_pow_pos k;omega
  · exact h
 have hI:aY { t with d:=(rsE t k).d,nd:=(rsE t k).w,dp:=t.dp-(((iy t k).r:Nat)-1),tr:=(rsE t k).tr }:=⟨h1.len,h1.hw,h1.bN,fun _=>(h1.lead hw).1⟩;have hdp:(go t k).dp=t.dp-(((iy t k).r:Nat)-1):=Db hI hw;have hr:=ar5 k ht h0;have hr0:=(yjk k ht h0).1.1.hr;have hn:=ht.hn;refine ⟨vnk hI,vgx hI hw,by rw[hdp];omega,?_,rfl⟩;rw[hdp];rcases Nat.lt_or_ge 1 (iy t k).r with h | h
 · exact .inl om
 · exact .inr ⟨om,(h1.lead hw).2 om⟩
end Go.Proofs.YtmnmebdmpigddaaGreatDoor
namespace Go.Proofs.YtmnmebdmpigddaaGreatDoor
open Go.RowKit Proofs.Tryz
def ju:List Nat→List Nat→Bool
 | _,[]=>false
 | [],_::_=>true
 | b::bs,c::cs=>if b=c then ju bs cs else decide (b<c)
def lZ:List Nat→Nat
 | []=>0
 | c::l=>(c-48)*10^l.length+lZ l
def Dh (l:List Nat):Prop:=∀c∈l,48≤c∧c≤57
theorem vwk:∀ {l:List Nat},Dh l→lZ l<10^l.length
 | [],_=>by simp[lZ]
 | c::l,h=>by
  have h1:=h c (List.mem_cons_self ..);have h2:=vwk (fun x hx=>h x (List.mem_cons_of_mem _ hx));show (c-48)*10^l.length+lZ l<10^(l.length+1)
  have h3:(c-48)*10^l.length≤9*10^l.length:=Nat.mul_le_mul_right _ om;rw[Nat.pow_succ];omega
def Tail:List Nat→Prop
 | []=>True
 | [c]=>49≤c
 | _::l=>Tail l
theorem OE {c:Nat} {l:List Nat} (h:Tail (c::l)):Tail l:=by
 cases l with
 | nil=>trivial
 | cons x l=>exact h
theorem Di:∀ {c:Nat} {l:List Nat},Tail (c::l)→0<lZ (c::l)
 | c,[],h=>by
  have h:49≤c:=h;show 0<(c-48)*10^0+0
  omega
 | c,x::l,h=>by
  have:=Di (c:=x) (l:=l) h;show 0<(c-48)*10^(l.length+1)+lZ (x::l)
  omega
theorem Dj {a c p q u v:Nat} (h:a<c) (h1:u<p) (hq:0<q):(a*p+u)*(q*10)<(c*q+v)*(p*10):=by
 have h2:a*p+u<(a+1)*p:=by rw[Nat.add_mul,Nat.one_mul];omega
 have h3:(a+1)*p≤c*p:=Nat.mul_le_mul_right p h;calc (a*p+u)*(q*10)<(c*p)*(q*10):=Nat.mul_lt_mul_of_pos_right om om
  _=(c*q)*(p*10):=by ac_rfl
  _≤(c*q+v)*(p*10):=Nat.mul_le_mul_right _ (Nat.le_add_right _ _)
theorem Dk:∀ {b s:List Nat},Dh b→Dh s→Tail s→
 (ju b s=true→lZ b*10^s.length<lZ s*10^b.length)∧(ju b s=false→lZ s*10^b.length≤lZ b*10^s.length)
 | b,[],_,_,_=>by
  refine ⟨fun h=>?_,fun _=>?_⟩
  · unfold ju at h;cases h
  · show 0*_≤_;rw[Nat.zero_mul];exact Nat.zero_le _
 | [],c::cs,_,_,ht=>by
  refine ⟨fun _=>?_,fun h=>?_⟩
  · have:=Di ht;show 0*_<lZ (c::cs)*1
    omega
  · unfold ju at h;cases h
 | x::bs,c::cs,hb,hs,ht=>by
  have hx:=hb x (List.mem_cons_self ..);have hc:=hs c (List.mem_cons_self ..);have hbs:Dh bs:=fun y hy=>hb y (List.mem_cons_of_mem _ hy);have hcs:Dh cs:=fun y hy=>hs y (List.mem_cons_of_mem _ hy);have lb:=vwk hbs;have lc:=vwk hcs;have p1:0<10^bs.length:=Nat.pow_pos de;have p2:0<10^cs.length:=Nat.pow_pos de;show (ju (x::bs) (c::cs)=true→((x-48)*10^bs.length+lZ bs)*10^(cs.length+1)<((c-48)*10^cs.length+lZ cs)*10^(bs.length+1))∧
   (ju (x::bs) (c::cs)=false→((c-48)*10^cs.length+lZ cs)*10^(bs.length+1)≤((x-48)*10^bs.length+lZ bs)*10^(cs.length+1))
  unfold ju;rw[Nat.pow_succ,Nat.pow_succ];generalize hP:10^bs.length=P at *
  generalize hR:10^cs.length=R at *
  split
  · rename_i e
    subst e;obtain ⟨h1,h2⟩:=Dk (b:=bs) (s:=cs) hbs hcs (OE ht);rw[hP,hR] at h1 h2;have e:(x-48)*P*(R*10)=(x-48)*R*(P*10):=by ac_rfl
    rw[Nat.add_mul,Nat.add_mul,e,←Nat.mul_assoc (lZ bs),←Nat.mul_assoc (lZ cs)];exact ⟨fun h=>by have:=h1 h;omega,fun h=>by have:=h2 h;omega⟩
  · rename_i e
    refine ⟨fun h=>?_,fun h=>?_⟩
    · have h:=of_decide_eq_true h;exact Dj om lb p2
    · have h:=of_decide_eq_false h;exact Nat.le_of_lt (Dj om lc p1)
def Ql (d:List Nat) (nd:Nat):Nat→Nat
 | 0=>0
 | m+1=>(dg d (nd-1-m)-48)*10^m+Ql d nd m
theorem l6 {d:List Nat} {nd:Nat} (hn:nd≤d.length):∀ {m:Nat},m≤nd→Ql d nd m=lZ ((d.take nd).drop (nd-m))
 | 0,_=>by
  rw[Nat.sub_zero,List.drop_eq_nil_of_le (by rw[List.length_take];omega)];rfl
 | m+1,hm=>by
  have hl:(d.take nd).length=nd:=by rw[List.length_take];omega
  have h1:nd-(m+1)<(d.take nd).length:=om;have e:nd-(m+1)+1=nd-m:=om;rw[List.drop_eq_getElem_cons h1,e];have h2:(d.take nd)[nd-(m+1)]=dg d (nd-1-m):=by
   have:nd-(m+1)=nd-1-m:=om;have h3:=KI (l:=d) (j:=nd-(m+1)) om;rw[←this];rw[List.getElem_take];exact Option.some.inj ((List.getElem?_eq_getElem om).symm.trans h3)
  show (dg d (nd-1-m)-48)*10^m+Ql d nd m=(_-48)*10^((d.take nd).drop (nd-m)).length+lZ _
  rw[h2,l6 hn om,List.length_drop,hl];have:nd-(nd-m)=m:=om;rw[this]
theorem sM {d:List Nat} {nd:Nat} (hn:nd≤d.length):Ql d nd nd=lZ (d.take nd):=by
 rw[l6 hn (Nat.le_refl _),Nat.sub_self,List.drop_zero]
theorem sN {t:Dec} (ht:aY t):Dh (t.d.take t.nd):=by
 intro c hc;obtain ⟨i,hi,e⟩:=List.getElem_of_mem hc;rw[List.length_take] at hi;have h1:i<t.nd:=om;rw[List.getElem_take] at e;have h2:=KI (l:=t.d) (j:=i) om;rw[List.getElem?_eq_getElem om,e] at h2;rw[Option.some.inj h2];exact ht.bN i h1
theorem IE {t:Dec} (ht:aY t) (h0:0<t.nd):10^(t.nd-1)≤Ql t.d t.nd t.nd:=by
 obtain ⟨n,hn⟩:∃n,t.nd=n+1:=⟨t.nd-1,om⟩;rw[hn];show 10^(n+1-1)≤(dg t.d (n+1-1-n)-48)*10^n+_
 have h1:=ht.lead h0;have e:n+1-1-n=0:=om;rw[e,Nat.add_sub_cancel];have:1*10^n≤(dg t.d 0-48)*10^n:=Nat.mul_le_mul_right _ om;omega
theorem VJ {t:Dec} (ht:aY t):Ql t.d t.nd t.nd<10^t.nd:=by
 have hn:=ht.hn;have hl:=ht.len;rw[sM om];have h:=vwk (sN ht);rwa [List.length_take,Nat.min_eq_left om] at h
def cy (t:Dec) (k m:Nat):Nat:=Ql t.d t.nd m*2^k/10^m
theorem KL (t:Dec) (k m:Nat):cy t k (m+1)=(cy t k m+(dg t.d (t.nd-1-m)-48)*2^k)/10:=by
 unfold cy;show ((dg t.d (t.nd-1-m)-48)*10^m+Ql t.d t.nd m)*2^k/10^(m+1)=_
 generalize dg t.d (t.nd-1-m)-48=c
 generalize Ql t.d t.nd m=v
 have hp:0<10^m:=Nat.pow_pos de;rw[Nat.pow_succ,←Nat.div_div_eq_div_mul];congr 1
 have e:(c*10^m+v)*2^k=v*2^k+c*2^k*10^m:=by rw[Nat.add_mul,Nat.mul_right_comm];omega
 rw[e,Nat.add_mul_div_right _ _ hp]
def oC (k:Nat):Nat:=if k≤3 then 1 else if k=6 then 2 else if k=9 then 3 else if k=13 then 4 else if k=16 then 5 else if k=19 then 6 else if k=23 then 7 else if k=26 then 8 else if k=27 then 9 else 16
def aB3 (n:Nat):Nat→List Nat
 | 0=>[]
 | m+1=>(n/10^m%10+48)::aB3 n m
def lcL (k:Nat):Nat:=k+1-oC k
def sO (k:Nat):List Nat:=aB3 (5^k) (lcL k)
def yS (k:Nat):Prop:=k=1∨k=3∨k=6∨k=9∨k=13∨k=16∨k=19∨k=23∨k=26∨k=27∨k=53
structure aZ2 (k:Nat):Prop where
 k1:1≤k∧k≤60
 d1:1≤oC k∧oC k≤16
 up:2^k≤10^oC k
 lo:10^(oC k-1)≤2^k
 cut:10^(oC k-1)*10^(sO k).length=lZ (sO k)*2^k
 aS:Dh (sO k)
 tail:Tail (sO k)
instance (l:List Nat):Decidable (Dh l):=inferInstanceAs (Decidable (∀c∈l,48≤c∧c≤57))
theorem xK {k:Nat} (h:yS k):aZ2 k:=by
 rcases h with rfl | rfl | rfl | rfl | rfl | rfl | rfl | rfl | rfl | rfl | rfl<;>
 exact ⟨de,de,by decide +kernel,by decide +kernel,by decide +kernel,by decide +kernel,by simp[sO,lcL,oC,aB3,Tail]⟩
def qn (t:Dec) (k:Nat):Nat:=if ju (t.d.take t.nd) (sO k) then oC k-1 else oC k
theorem zwv (a b c:Nat):a*b*c=a*c*b:=Nat.mul_right_comm a b c
theorem vck {t:Dec} {k:Nat} (ht:aY t) (h0:0<t.nd) (hk:yS k) :
 qn t k≤16∧Ql t.d t.nd t.nd*2^k<10^(qn t k+t.nd)∧(0<qn t k→10^(qn t k-1+t.nd)≤Ql t.d t.nd t.nd*2^k):=by
 have q:=xK hk;have hn:=ht.hn;have hl:=ht.len;have hlen:(t.d.take t.nd).length=t.nd:=by rw[List.length_take];omega
 have hp:=Dk (sN ht) q.aS q.tail;rw[hlen,←sM om] at hp;have h1:=VJ ht;have h2:=IE ht h0;have hd1:=q.d1;have hP:0<2^k:=Nat.two_pow_pos k;generalize hN:Ql t.d t.nd t.nd=n at *
 have hL:0<10^(sO k).length:=Nat.pow_pos de;unfold qn;cases hb:ju (t.d.take t.nd) (sO k) with
 | true=>
  have h3:=hp.1 hb;rw[if_pos rfl];refine ⟨om,?_,fun hpos=>?_⟩
  · refine Nat.lt_of_mul_lt_mul_right (a:=10^(sO k).length) ?_;rw[Nat.pow_add,zwv n,zwv (10^(oC k-1)),q.cut,zwv (lZ (sO k))];exact Nat.mul_lt_mul_of_pos_right h3 hP
  · have e:oC k-1-1+t.nd=oC k-1+(t.nd-1):=om;rw[e,Nat.pow_add,Nat.mul_comm];exact Nat.mul_le_mul h2 q.lo
 | false=>
  have h3:=hp.2 hb;rw[if_neg de];refine ⟨om,?_,fun hpos=>?_⟩
  · rw[Nat.pow_add,Nat.mul_comm (10^oC k)];exact Nat.lt_of_lt_of_le (Nat.mul_lt_mul_of_pos_right h1 hP) (Nat.mul_le_mul_left _ q.up)
  · refine Nat.le_of_mul_le_mul_right (c:=10^(sO k).length) ?_ hL;rw[Nat.pow_add,zwv n,zwv (10^(oC k-1)),q.cut,zwv (lZ (sO k))];exact Nat.mul_le_mul_right _ h3
theorem aQ7 {t:Dec} {k:Nat} (ht:aY t) (h0:0<t.nd) (hk:yS k) :
 cy t k t.nd<10^qn t k∧(0<qn t k→10^(qn t k-1)≤cy t k t.nd):=by
 obtain ⟨_,h1,h2⟩:=vck ht h0 hk;have hp:0<10^t.nd:=Nat.pow_pos de;unfold cy;refine ⟨(Nat.div_lt_iff_lt_mul hp).2 (by rwa [←Nat.pow_add]),fun h=>(Nat.le_div_iff_mul_le hp).2 (by rw[←Nat.pow_add];exact h2 h)⟩
structure Dl where
 d:List Nat
 r:Nat
 w:Nat
 n:Nat
 tr:Bool
def sP (d:List Nat) (w x:Nat):List Nat:=if w<800 then d.set w (x+48) else d
def pQ (tr:Bool) (w x:Nat):Bool:=if w<800 then tr else if x≠0 then true else tr
def Qm (k:Nat) (s:Dl):Nat:=s.n+(dg s.d (s.r-1)-48)*2^k
def qiq (s:Dl):Bool:=decide (s.r=0)
def vuv (k:Nat) (s:Dl):Dl:=⟨sP s.d (s.w-1) (Qm k s%10),s.r-1,s.w-1,Qm k s/10,pQ s.tr (s.w-1) (Qm k s%10)⟩
def qiz (s:Dl):Bool:=decide (s.n=0)
def vuk (s:Dl):Dl:=⟨sP s.d (s.w-1) (s.n%10),s.r,s.w-1,s.n/10,pQ s.tr (s.w-1) (s.n%10)⟩
noncomputable def lsA (t:Dec) (k:Nat):Dl:=va qiq (vuv k) ⟨t.d,t.nd,t.nd+qn t k,0,t.tr⟩
noncomputable def lsB (t:Dec) (k:Nat):Dl:=va qiz vuk (lsA t k)
noncomputable def jf (t:Dec) (k:Nat):Dec:=qrx { t with d:=(lsB t k).d,nd:=if 800≤t.nd+qn t k then 800 else t.nd+qn t k,dp:=t.dp+((qn t k:Nat):Int),tr:=(lsB t k).tr }
theorem KM {d:List Nat} {w x:Nat} (h:d.length=800):(sP d w x).length=800:=by
 unfold sP;split
 · rw[List.length_set];exact h
 · exact h
theorem l7 {d:List Nat} {w x i:Nat} (h:d.length=800) (hi:i<800):dg (sP d w x) i=if i=w then x+48 else dg d i:=by
 unfold sP;split
 · rw[qdv om]
 · rw[if_neg om]
structure OG (t:Dec) (k:Nat) (s:Dl):Prop where
 len:s.d.length=800
 hw:s.w=s.r+qn t k
 hr:s.r≤t.nd
 old:∀i,i<s.r→dg s.d i=dg t.d i
 hn:s.n=cy t k (t.nd-s.r)
 small:s.n<2^k
 bN:∀i,s.w≤i→i<t.nd+qn t k→i<800→48≤dg s.d i∧dg s.d i≤57
 last:s.r<t.nd→s.w<800→dg s.d s.w=(cy t k (t.nd-s.r-1)+(dg t.d s.r-48)*2^k)%10+48
theorem sQ {t:Dec} {k:Nat} {s:Dl} (ht:aY t) (h:OG t k s) (hd:qiq s=false):OG t k (vuv k s)∧0<s.r∧Qm k s<10*2^k:=by
 have hd:s.r≠0:=of_decide_eq_false hd;have hr:=h.hr;have hn:=ht.hn;have hw:=h.hw;have ho:=h.old (s.r-1) om;have hg:=ht.bN (s.r-1) om;have hs:=h.small;have e1:t.nd-1-(t.nd-s.r)=s.r-1:=om;have e2:t.nd-(s.r-1)=t.nd-s.r+1:=om;have hN:Qm k s=cy t k (t.nd-s.r)+(dg t.d (t.nd-1-(t.nd-s.r))-48)*2^k:=by
  unfold Qm;rw[h.hn,ho,e1]
 have hlt:Qm k s<10*2^k:=by
  unfold Qm;rw[ho];have:(dg t.d (s.r-1)-48)*2^k≤9*2^k:=Nat.mul_le_mul_right _ om;omega
 refine ⟨⟨KM h.len,by show s.w-1=s.r-1+_;omega,by show s.r-1≤_;omega,fun i hi=>?_,?_,?_,fun i hi h1 h2=>?_,fun h1 h2=>?_⟩,om,hlt⟩
 · have hi:i<s.r-1:=hi;show dg (sP s.d (s.w-1) _) i=_
   rw[l7 h.len om,if_neg om];exact h.old i om
 · show Qm k s/10=cy t k (t.nd-(s.r-1))
   rw[e2,KL,hN]
 · show Qm k s/10<2^k
   exact (Nat.div_lt_iff_lt_mul de).2 om
 · have hi:s.w-1≤i:=hi;show 48≤dg (sP s.d (s.w-1) _) i∧dg (sP s.d (s.w-1) _) i≤57
   rw[l7 h.len h2];split
   · have:=Nat.mod_lt (Qm k s) (show 0<10 from de);omega
   · exact h.bN i om h1 h2
 · have h2:s.w-1<800:=h2;show dg (sP s.d (s.w-1) _) (s.w-1)=(cy t k (t.nd-(s.r-1)-1)+(dg t.d (s.r-1)-48)*2^k)%10+48
   rw[l7 h.len h2,if_pos rfl,hN,e1,e2,Nat.add_sub_cancel]
theorem sS {t:Dec} {k:Nat} (ht:aY t):OG t k ⟨t.d,t.nd,t.nd+qn t k,0,t.tr⟩:=by
 refine ⟨ht.len,rfl,Nat.le_refl _,fun _ _=>rfl,?_,Nat.two_pow_pos k,fun i hi h1=>absurd h1 (Nat.not_lt.2 hi),fun h1=>absurd h1 (Nat.lt_irrefl _)⟩;show 0=cy t k (t.nd-t.nd)
 rw[Nat.sub_self];show 0=0*2^k/10^0
 rw[Nat.zero_mul,Nat.zero_div]
theorem VK {t:Dec} (k:Nat) (ht:aY t):OG t k (lsA t k)∧qiq (lsA t k)=true:=by
 refine jh (OG t k) (fun s=>s.r) (fun s h hd=>?_) (sS ht);obtain ⟨h1,h2,_⟩:=sQ ht h hd;exact ⟨h1,by show s.r-1<s.r;omega⟩
structure OH (t:Dec) (k:Nat) (s:Dl):Prop where
 len:s.d.length=800
 hw:s.w≤qn t k
 hn:(s.w=0∧s.n=0)∨(0<s.w∧10^(s.w-1)≤s.n∧s.n<10^s.w)
 small:s.n<2^k
 bN:∀i,s.w≤i→i<t.nd+qn t k→i<800→48≤dg s.d i∧dg s.d i≤57
 lead:s.w=0→49≤dg s.d 0∧(qn t k=0→dg t.d 0<dg s.d 0)
theorem sU {t:Dec} {k:Nat} (ht:aY t) (h0:0<t.nd) (hk:yS k):OH t k (lsA t k):=by
 obtain ⟨h1,h2⟩:=VK k ht;have h2:(lsA t k).r=0:=of_decide_eq_true h2;obtain ⟨c1,c2⟩:=aQ7 ht h0 hk;have hw:=h1.hw;rw[h2,Nat.zero_add] at hw;have hn:=h1.hn;rw[h2,Nat.sub_zero] at hn;have q:=xK hk;refine ⟨h1.len,om,?_,h1.small,h1.bN,fun e=>?_⟩
 · rw[hn,hw];rcases Nat.eq_zero_or_pos (qn t k) with e | e
   · rw[e] at c1;exact .inl ⟨e,by simpa using c1⟩
   · exact .inr ⟨e,c2 e,c1⟩
 · have ed:qn t k=0:=om;have hl:=h1.last om om;rw[h2,Nat.sub_zero,e] at hl;rw[ed] at c1;obtain ⟨n,hnd⟩:∃n,t.nd=n+1:=⟨t.nd-1,om⟩;have hc:=KL t k n;rw[←hnd,show t.nd-1-n=0 from om] at hc;rw[show t.nd-1=n from om] at hl;have hz:cy t k t.nd=0:=by simpa using c1
   rw[hz] at hc;generalize hX:cy t k n+(dg t.d 0-48)*2^k=X at *
   have aZ3:X<10:=by
    rcases Nat.lt_or_ge X 10 with h | h
    · exact h
    · have:1≤X/10:=(Nat.le_div_iff_mul_le de).2 om;omega
   rw[Nat.mod_eq_of_lt aZ3] at hl;have hlead:=ht.lead h0;have h2k:2≤2^k:=by
    have:2^1≤2^k:=Nat.pow_le_pow_right de q.k1.1;simpa using this
   have hm:(dg t.d 0-48)*2≤(dg t.d 0-48)*2^k:=Nat.mul_le_mul_left _ h2k;rw[hl];exact ⟨om,fun _=>om⟩
theorem sV {t:Dec} {k:Nat} {s:Dl} (ht:aY t) (hk:yS k) (h0:0<t.nd) (h:OH t k s) (hd:qiz s=false):OH t k (vuk s)∧0<s.w∧s.w≤16:=by
 have hd:s.n≠0:=of_decide_eq_false hd;have aQ8:=(vck ht h0 hk).1;have hw:=h.hw;obtain ⟨h1,h2,h3⟩:=h.hn.resolve_left (fun e=>hd e.2);have hs:=h.small;have hq:s.n/10≤s.n:=Nat.div_le_self _ _;have hl:=h.len;refine ⟨⟨KM h.len,by show s.w-1≤_;omega,?_,by show s.n/10<_;omega,fun i hi h4 h5=>?_,fun e=>?_⟩,h1,om⟩
 · show (s.w-1=0∧s.n/10=0)∨(0<s.w-1∧10^(s.w-1-1)≤s.n/10∧s.n/10<10^(s.w-1))
   rcases Nat.eq_zero_or_pos (s.w-1) with e | e
   · have:s.w=1:=om;rw[this] at h3;exact .inl ⟨e,by simpa using h3⟩
   · refine .inr ⟨e,(Nat.le_div_iff_mul_le de).2 ?_,(Nat.div_lt_iff_lt_mul de).2 ?_⟩
     · rw[←Nat.pow_succ,show (s.w-1-1).succ=s.w-1 from om];exact h2
     · rw[←Nat.pow_succ,show (s.w-1).succ=s.w from om];exact h3
 · have hi:s.w-1≤i:=hi;show 48≤dg (sP s.d (s.w-1) _) i∧dg (sP s.d (s.w-1) _) i≤57
   rw[l7 hl h5];split
   · have:=Nat.mod_lt s.n (show 0<10 from de);omega
   · exact h.bN i om h4 h5
 · have e:s.w-1=0:=e;have e1:s.w=1:=om;rw[e1] at h2 h3;show 49≤dg (sP s.d (s.w-1) _) 0∧(_→dg t.d 0<dg (sP s.d (s.w-1) _) 0)
   rw[e,l7 hl de,if_pos rfl,Nat.mod_eq_of_lt (by simpa using h3)];have:1≤s.n:=by simpa using h2
   exact ⟨om,fun e2=>om⟩
theorem Dm {t:Dec} {k:Nat} (ht:aY t) (h0:0<t.nd) (hk:yS k):OH t k (lsB t k)∧qiz (lsB t k)=true:=by
 refine jh (OH t k) (fun s=>s.w) (fun s h hd=>?_) (sU ht h0 hk);obtain ⟨h1,h2,_⟩:=sV ht hk h0 h hd;exact ⟨h1,by show s.w-1<s.w;omega⟩
theorem yrq {t:Dec} {k:Nat} (ht:aY t) (h0:0<t.nd) (hk:yS k) :
 aY (jf t k)∧0<(jf t k).nd∧t.dp≤(jf t k).dp∧(jf t k).dp≤t.dp+16∧(t.dp<(jf t k).dp∨((jf t k).dp=t.dp∧dg t.d 0<dg (jf t k).d 0))∧(jf t k).neg=t.neg:=by
 obtain ⟨h1,h2⟩:=Dm ht h0 hk;have h2:(lsB t k).n=0:=of_decide_eq_true h2;have aQ8:=(vck ht h0 hk).1;have hw:(lsB t k).w=0:=by
  rcases h1.hn with h | h
  · exact h.1
  · have:0<10^((lsB t k).w-1):=Nat.pow_pos de;omega
 have hl:=h1.lead hw;have hI:aY { t with d:=(lsB t k).d,nd:=if 800≤t.nd+qn t k then 800 else t.nd+qn t k,dp:=t.dp+((qn t k:Nat):Int),tr:=(lsB t k).tr }:=by
  refine ⟨h1.len,?_,fun i hi=>?_,fun _=>hl.1⟩
  · show (if 800≤t.nd+qn t k then 800 else t.nd+qn t k)≤800
    by_cases e:800≤t.nd+qn t k
    · rw[if_pos e];exact Nat.le_refl _
    · rw[if_neg e];omega
  · have hi:i<(if 800≤t.nd+qn t k then 800 else t.nd+qn t k):=hi;refine h1.bN i om ?_ ?_
    · split at hi<;>omega
    · split at hi<;>omega
 have hpos:0<(if 800≤t.nd+qn t k then 800 else t.nd+qn t k):=by split<;>omega
 have hdp:(jf t k).dp=t.dp+((qn t k:Nat):Int):=Db hI hpos;refine ⟨vnk hI,vgx hI hpos,by rw[hdp];omega,by rw[hdp];omega,?_,rfl⟩;rw[hdp];rcases Nat.eq_zero_or_pos (qn t k) with e | e
 · exact .inr ⟨om,hl.2 e⟩
 · exact .inl om
def aL (s:ByteArray) (i:Nat):Nat:=((s.data[i]?).map (·.toNat)).getD 0
theorem vr {s:ByteArray} {i:Nat} (h:i<s.size):(s.data[i]?).map (·.toNat)=some (aL s i):=by
 have h1:s.data[i]? =some s.data[i]:=Array.getElem?_eq_getElem h;unfold aL;rw[h1];rfl
theorem II (s:ByteArray) (i:Nat):aL s i<256:=by
 unfold aL;cases h:s.data[i]? with
 | none=>decide
 | some c=>exact c.toNat_lt
structure Qn where
 i:Nat
 m:Nat
 nd:Nat
 nm:Nat
 dp:Int
 dot:Bool
 bN:Bool
 tr:Bool
def Dt (c:Nat):Bool:=decide (48≤c∧c≤57)
def KS (s:ByteArray) (t:Qn):Bool:=
 decide (s.size≤t.i) || (if aL s t.i=46 then t.dot else !Dt (aL s t.i))
def kq (s:ByteArray) (t:Qn):Qn:=
 if aL s t.i=46 then { t with i:=t.i+1,dot:=true,dp:=t.nd }
 else if aL s t.i=48∧t.nd=0 then { t with i:=t.i+1,bN:=true,dp:=t.dp-1 }
 else if t.nm<19 then { t with i:=t.i+1,bN:=true,nd:=t.nd+1,nm:=t.nm+1,m:=t.m*10+(aL s t.i-48) }
 else { t with i:=t.i+1,bN:=true,nd:=t.nd+1,tr:=t.tr || decide (aL s t.i≠48) }
structure RdI (s:ByteArray) (t:Qn):Prop where
 hi:t.i≤s.size
 hm:t.m<10^t.nm
 hn:t.nm≤19
 hd:t.nd≤t.i
 hp:-(t.i:Int)≤t.dp∧t.dp≤(t.i:Int)
theorem VX {s:ByteArray} {t:Qn} (h:RdI s t) (hd:KS s t=false):RdI s (kq s t):=by
 obtain ⟨h1,h2,h3,h4,h5⟩:=h;unfold KS at hd;rw[Bool.or_eq_false_iff] at hd;have hi:=of_decide_eq_false hd.1;have hd2:=hd.2;unfold kq;split
 · exact ⟨by show t.i+1≤s.size;omega,h2,h3,by show t.nd≤t.i+1;omega,by show -((t.i+1:Nat):Int)≤(t.nd:Int)∧(t.nd:Int)≤((t.i+1:Nat):Int);omega⟩
 · rename_i hc
   rw[if_neg hc] at hd2;have hg:Dt (aL s t.i)=true:=by simpa using hd2
   have hg:=of_decide_eq_true hg;split
   · exact ⟨by show t.i+1≤s.size;omega,h2,h3,by show t.nd≤t.i+1;omega,by show -((t.i+1:Nat):Int)≤t.dp-1∧t.dp-1≤((t.i+1:Nat):Int);omega⟩
   · split
     · refine ⟨by show t.i+1≤s.size;omega,?_,by show t.nm+1≤19;omega,by show t.nd+1≤t.i+1;omega,by show -((t.i+1:Nat):Int)≤t.dp∧t.dp≤((t.i+1:Nat):Int);omega⟩;show t.m*10+(aL s t.i-48)<10^(t.nm+1)
       rw[Nat.pow_succ];omega
     · exact ⟨by show t.i+1≤s.size;omega,h2,h3,by show t.nd+1≤t.i+1;omega,by show -((t.i+1:Nat):Int)≤t.dp∧t.dp≤((t.i+1:Nat):Int);omega⟩
def pt (i:Nat):Nat:=if i≥9 then 27 else ([1,3,6,9,13,16,19,23,26]:List Nat).getD i 0
theorem IJ (i:Nat):yS (pt i):=by
 unfold pt;split
 · exact .inr (.inr (.inr (.inr (.inr (.inr (.inr (.inr (.inr (.inl rfl)))))))))
 · rename_i h
   have hi:i<9:=om;have key:∀j:Fin 9,yS (([1,3,6,9,13,16,19,23,26]:List Nat).getD j.val 0):=by
    intro j;match j with
    | ⟨0,_⟩=>exact .inl rfl
    | ⟨1,_⟩=>exact .inr (.inl rfl)
    | ⟨2,_⟩=>exact .inr (.inr (.inl rfl))
    | ⟨3,_⟩=>exact .inr (.inr (.inr (.inl rfl)))
    | ⟨4,_⟩=>exact .inr (.inr (.inr (.inr (.inl rfl))))
    | ⟨5,_⟩=>exact .inr (.inr (.inr (.inr (.inr (.inl rfl)))))
    | ⟨6,_⟩=>exact .inr (.inr (.inr (.inr (.inr (.inr (.inl rfl))))))
    | ⟨7,_⟩=>exact .inr (.inr (.inr (.inr (.inr (.inr (.inr (.inl rfl)))))))
    | ⟨8,_⟩=>exact .inr (.inr (.inr (.inr (.inr (.inr (.inr (.inr (.inl rfl))))))))
   exact key ⟨i,hi⟩
theorem Du (i:Nat):1≤pt i∧pt i≤27:=by
 unfold pt;split
 · exact ⟨de,de⟩
 · rename_i h
   have key:∀j:Fin 9,1≤([1,3,6,9,13,16,19,23,26]:List Nat).getD j.val 0∧([1,3,6,9,13,16,19,23,26]:List Nat).getD j.val 0≤27:=de;exact key ⟨i,om⟩
structure yT where
 t:Dec
 e:Int
def yfk (s:yT):Bool:=decide (s.t.dp≤0)
noncomputable def yfz (s:yT):yT:=⟨go s.t (pt s.t.dp.toNat),s.e+((pt s.t.dp.toNat:Nat):Int)⟩
def ysq (s:yT):Bool:=decide (¬(s.t.dp<0∨(s.t.dp=0∧dg s.t.d 0<53)))
noncomputable def yfq (s:yT):yT:=⟨jf s.t (pt (-s.t.dp).toNat),s.e-((pt (-s.t.dp).toNat:Nat):Int)⟩
structure FbI (s:yT):Prop where
 dec:aY s.t
 pos:0<s.t.nd
def VY (t:Dec):Nat:=10*t.dp.toNat+(dg t.d 0-48)
structure Dv (s:yT):Prop extends FbI s where
 dp:-830≤s.t.dp∧s.t.dp≤310
 e:0≤s.e∧s.e+27*((VY s.t:Nat):Int)≤84000
theorem vlk {s:yT} (h:Dv s) (hd:yfk s=false):Dv (yfz s)∧VY (yfz s).t<VY s.t:=by
 have hd:¬s.t.dp≤0:=of_decide_eq_false hd;have hp:=Du s.t.dp.toNat;obtain ⟨h1,h2,h3,h4,h5⟩:=zcv (k:=pt s.t.dp.toNat) h.dec hp.1 h.pos;have h6:=h.dp;have h7:=h.e;have h8:=(h1.bN 0 h2);have h9:=(h.dec.bN 0 h.pos);have ha:=h.dec.lead h.pos;have hb:=h1.lead h2;have hm:VY (yfz s).t<VY s.t:=by
  show 10*(go s.t (pt s.t.dp.toNat)).dp.toNat+(dg (go s.t (pt s.t.dp.toNat)).d 0-48)<10*s.t.dp.toNat+(dg s.t.d 0-48)
  rcases h4 with h4 | ⟨h4,h4'⟩<;>omega
 refine ⟨⟨⟨h1,h2⟩,?_,?_⟩,hm⟩
 · show -830≤(go s.t (pt s.t.dp.toNat)).dp∧(go s.t (pt s.t.dp.toNat)).dp≤310
   omega
 · show 0≤s.e+((pt s.t.dp.toNat:Nat):Int)∧s.e+((pt s.t.dp.toNat:Nat):Int)+27*((VY (yfz s).t:Nat):Int)≤84000
   omega
theorem vlq {t:Dec} (h:aY t) (h0:0<t.nd) (hd:-330≤t.dp∧t.dp≤310):Dv ⟨t,0⟩:=by
 have h9:=(h.bN 0 h0);refine ⟨⟨h,h0⟩,by show -830≤t.dp∧t.dp≤310;omega,Int.le_refl 0,?_⟩;show (0:Int)+27*((VY t:Nat):Int)≤84000
 unfold VY;omega
noncomputable def fbR (t:Dec):yT:=va yfk yfz ⟨t,0⟩
theorem mh {t:Dec} (h:aY t) (h0:0<t.nd) (hd:-330≤t.dp∧t.dp≤310):Dv (fbR t)∧yfk (fbR t)=true:=
 jh Dv (fun s=>VY s.t) (fun _ h hd=>vlk h hd) (vlq h h0 hd)
def VZ (t:Dec):Nat:=10*(1-t.dp).toNat+(57-dg t.d 0)
structure IK (s:yT):Prop extends FbI s where
 dp:-830≤s.t.dp∧s.t.dp≤16
 e:s.e≤84000∧27*((VZ s.t:Nat):Int)-225000≤s.e
theorem vmx {s:yT} (h:IK s) (hd:ysq s=false):IK (yfq s)∧VZ (yfq s).t<VZ s.t:=by
 have hd:s.t.dp<0∨(s.t.dp=0∧dg s.t.d 0<53):=Classical.byContradiction fun e=>(of_decide_eq_false hd) e;have hp:=Du (-s.t.dp).toNat;obtain ⟨h1,h2,h3,h3',h4,h5⟩:=yrq (k:=pt (-s.t.dp).toNat) h.dec h.pos (IJ _);have h6:=h.dp;have h7:=h.e;have h8:=(h1.bN 0 h2);have h9:=(h.dec.bN 0 h.pos);have ha:=h.dec.lead h.pos;have hb:=h1.lead h2;have hm:VZ (yfq s).t<VZ s.t:=by
  show 10*(1-(jf s.t (pt (-s.t.dp).toNat)).dp).toNat+(57-dg (jf s.t (pt (-s.t.dp).toNat)).d 0)<10*(1-s.t.dp).toNat+(57-dg s.t.d 0)
  rcases h4 with h4 | ⟨h4,h4'⟩<;>omega
 refine ⟨⟨⟨h1,h2⟩,?_,?_⟩,hm⟩
 · show -830≤(jf s.t (pt (-s.t.dp).toNat)).dp∧(jf s.t (pt (-s.t.dp).toNat)).dp≤16
   omega
 · show s.e-((pt (-s.t.dp).toNat:Nat):Int)≤84000∧27*((VZ (yfq s).t:Nat):Int)-225000≤s.e-((pt (-s.t.dp).toNat:Nat):Int)
   omega
theorem vlv {s:yT} (h:Dv s) (hd:yfk s=true):IK s:=by
 have hd:s.t.dp≤0:=of_decide_eq_true hd;have h1:=h.dp;have h2:=h.e;have h3:=h.dec.bN 0 h.pos;refine ⟨h.toFbI,om,om,?_⟩;unfold VZ;omega
noncomputable def fbL (t:Dec):yT:=va ysq yfq (fbR t)
theorem V3 {t:Dec} (h:aY t) (h0:0<t.nd) (hd:-330≤t.dp∧t.dp≤310):IK (fbL t)∧ysq (fbL t)=true:=by
 obtain ⟨h1,h2⟩:=mh h h0 hd;exact jh IK (fun s=>VZ s.t) (fun _ h hd=>vmx h hd) (vlv h1 h2)
structure ShS where
 t:Dec
 k:Nat
def yyz (s:ShS):Bool:=decide (s.k≤60)
noncomputable def qnv (s:ShS):ShS:=⟨go s.t 60,s.k-60⟩
noncomputable def Qo (t:Dec) (k:Nat):ShS:=va yyz qnv ⟨t,k⟩
noncomputable def fU (t:Dec) (k:Nat):Dec:=go (Qo t k).t (Qo t k).k
structure Qp (s:ShS):Prop where
 dec:aY s.t
 pos:0<s.t.nd
 k1:1≤s.k∧s.k≤300000
 dp:-10000000+15*(s.k:Int)≤s.t.dp∧s.t.dp≤1000000
theorem mo {s:ShS} (h:Qp s) (hd:yyz s=false):Qp (qnv s)∧(qnv s).k<s.k:=by
 have hd:¬s.k≤60:=of_decide_eq_false hd;obtain ⟨h1,h2,h3,h4,h5⟩:=zcv (k:=60) h.dec de h.pos;have h6:=h.dp;have h7:=h.k1;refine ⟨⟨h1,h2,by show 1≤s.k-60∧s.k-60≤300000;omega,?_⟩,by show s.k-60<s.k;omega⟩;show -10000000+15*((s.k-60:Nat):Int)≤(go s.t 60).dp∧(go s.t 60).dp≤1000000
 omega
theorem KT {t:Dec} {k:Nat} (h:Qp ⟨t,k⟩):Qp (Qo t k)∧yyz (Qo t k)=true:=
 jh Qp (fun s=>s.k) (fun _ h hd=>mo h hd) h
theorem IL {t:Dec} {k:Nat} (h:Qp ⟨t,k⟩):aY (fU t k)∧0<(fU t k).nd∧ -11000000≤(fU t k).dp∧(fU t k).dp≤1000000:=by
 obtain ⟨h1,h2⟩:=KT h;have h2:(Qo t k).k≤60:=of_decide_eq_true h2;obtain ⟨h3,h4,h5,h6,_⟩:=zcv (k:=(Qo t k).k) h1.dec h1.k1.1 h1.pos;have h7:=h1.dp;refine ⟨h3,h4,?_,?_⟩<;>unfold fU<;>omega
def rup (t:Dec) (p:Int):Bool:=
 if p<0∨(t.nd:Int)≤p then false
 else if dg t.d p.toNat=53∧p+1=(t.nd:Int) then (if t.tr then true else if 0<p then decide ((dg t.d (p.toNat-1)-48)%2≠0) else false)
 else decide (53≤dg t.d p.toNat)
def qfk (t:Dec) (s:eu):Bool:=decide (¬((s.r:Int)<t.dp∧s.r<t.nd))
def qwk (t:Dec) (s:eu):eu:=⟨s.r+1,(s.n*10%18446744073709551616+(dg t.d s.r-48))%18446744073709551616⟩
def qwv (t:Dec) (s:eu):Bool:=decide (¬(s.r:Int)<t.dp)
def qwq (s:eu):eu:=⟨s.r+1,s.n*10%18446744073709551616⟩
noncomputable def riA (t:Dec):eu:=va (qfk t) (qwk t) ⟨0,0⟩
noncomputable def riB (t:Dec):eu:=va (qwv t) qwq (riA t)
noncomputable def KU (t:Dec):Nat:=if 20<t.dp then 18446744073709551615 else if rup t t.dp then ((riB t).n+1)%18446744073709551616 else (riB t).n
structure Zt (s:eu):Prop where
 hr:s.r≤20
 hn:s.n<18446744073709551616
theorem vhq {t:Dec} {s:eu} (hp:t.dp≤20) (_:Zt s) (hd:qfk t s=false):Zt (qwk t s):=by
 have hd:(s.r:Int)<t.dp∧s.r<t.nd:=Classical.byContradiction fun e=>(of_decide_eq_false hd) e;exact ⟨by show s.r+1≤20;omega,Nat.mod_lt _ de⟩
theorem vhz {t:Dec} {s:eu} (hp:t.dp≤20) (_:Zt s) (hd:qwv t s=false):Zt (qwq s):=by
 have hd:(s.r:Int)<t.dp:=Classical.byContradiction fun e=>(of_decide_eq_false hd) e;exact ⟨by show s.r+1≤20;omega,Nat.mod_lt _ de⟩
theorem Dw {t:Dec} (hp:t.dp≤20):Zt (riA t):=by
 refine (jh Zt (fun s=>20-s.r) (fun s h hd=>⟨vhq hp h hd,?_⟩) ⟨Nat.zero_le _,de⟩).1;have:=(vhq hp h hd).hr;have e:(qwk t s).r=s.r+1:=rfl;omega
theorem Dx {t:Dec} (hp:t.dp≤20):Zt (riB t):=by
 refine (jh Zt (fun s=>20-s.r) (fun s h hd=>⟨vhz hp h hd,?_⟩) (Dw hp)).1;have:=(vhz hp h hd).hr;have e:(qwq s).r=s.r+1:=rfl;omega
theorem OM (t:Dec):KU t<18446744073709551616:=by
 unfold KU;split
 · decide
 · rename_i h
   split
   · exact Nat.mod_lt _ de
   · exact (Dx om).hn
def sZ (m e:Nat) (neg:Bool):Nat:=if neg then ((m &&& 4503599627370495) ||| (e*4503599627370496)) ||| 9223372036854775808 else (m &&& 4503599627370495) ||| (e*4503599627370496)
noncomputable def vqq (t:Dec) (e:Int):Nat×Nat×Bool:=
 if KU t=9007199254740992 then (if 1023≤e then (0,2047,true) else (4503599627370496,(e+1+1023).toNat,false))
 else (KU t,if KU t &&& 4503599627370496=0 then 0 else (e+1023).toNat,false)
noncomputable def tu (t:Dec) (e:Int):Nat×Nat×Bool:=
 if e< -1022 then vqq (jf (fU t (-1022-e).toNat) 53) (-1022)
 else if 1024≤e then (0,2047,true)
 else vqq (jf t 53) e
noncomputable def xP (t:Dec):Nat×Nat×Bool:=
 if t.nd=0 then (0,0,false)
 else if 310<t.dp then (0,2047,true)
 else if t.dp< -330 then (0,0,false)
 else tu (fbL t).t ((fbL t).e-1)
noncomputable def KV (t:Dec):Nat:=sZ (xP t).1 (xP t).2.1 t.neg
theorem V4 {P:Prop} (h:P:=by
 have h2:=(hs.exp om).1;rw[e,h2,if_neg de] at hd;exact absurd hd.2 de):P:=h
theorem xQ {P:Prop} (h:P:=by
 split
 · rfl
 · split
   · rfl
   · split<;>rfl):P:=h
theorem ar6 {P:Prop} (h:P:=by
 rw[Bool.or_eq_false_iff];refine ⟨decide_eq_false om,?_⟩;rcases hs.at_ h.fi hi with ⟨_,h1⟩ | ⟨h1,h2⟩
 · rw[if_neg om,vvk h1];rfl
 · rw[if_pos h2];cases hd:t.dot with
   | false=>rfl
   | true=>have:=h.dt hd;omega):P:=h
structure Nm (s:ByteArray) (f p E q:Nat):Prop where
 fp:f<p
 pE:p≤E
 hE:E≤s.size
 aQq:∀i,f≤i→i<p→48≤aL s i∧aL s i≤57
 dot:p<E→aL s p=46∧p+1<E
 aZ4:∀i,p<i→i<E→48≤aL s i∧aL s i≤57
 exp:E<s.size→aL s E=101∧((q=E+1∧aL s (E+1)≠43∧aL s (E+1)≠45)∨(q=E+2∧(aL s (E+1)=43∨aL s (E+1)=45)))∧q<s.size∧ ∀i,q≤i→i<s.size→48≤aL s i∧aL s i≤57
theorem vvk {c:Nat} (h:48≤c∧c≤57):Dt c=true:=decide_eq_true h
theorem Nm.at_ {s:ByteArray} {f p E q i:Nat} (h:Nm s f p E q) (h1:f≤i) (h2:i<E):(i≠p∧48≤aL s i∧aL s i≤57)∨(i=p∧aL s i=46):=by
 rcases Nat.lt_trichotomy i p with h3 | h3 | h3
 · exact .inl ⟨om,h.aQq i h1 h3⟩
 · subst h3;exact .inr ⟨rfl,(h.dot h2).1⟩
 · exact .inl ⟨om,h.aZ4 i h3 h2⟩
structure RdN (s:ByteArray) (f p E q:Nat) (t:Qn):Prop extends RdI s t where
 fi:f≤t.i
 iE:t.i≤E
 dt:t.dot=true→p<t.i
 dg:f<t.i→t.bN=true
theorem Dy {s:ByteArray} {f p E q:Nat} {t:Qn} (hs:Nm s f p E q) (h:RdN s f p E q t) (hi:t.i<E):KS s t=false:=by
 have hE:=hs.hE;unfold KS;exact ar6
theorem tC {s:ByteArray} {f p E q:Nat} {t:Qn} (hs:Nm s f p E q) (h:RdN s f p E q t) (hd:KS s t=false):RdN s f p E q (kq s t)∧t.i<E:=by
 have hi:t.i<E:=by
  refine Nat.lt_of_not_le fun hge=>?_;have e:t.i=E:=by have:=h.iE;omega
  unfold KS at hd;rw[Bool.or_eq_false_iff] at hd;have h1:¬s.size≤t.i:=of_decide_eq_false hd.1;exact V4
 have hstep:(kq s t).i=t.i+1:=by
  unfold kq;exact xQ
 have hk:=VX h.toRdI hd;have hfi:=h.fi;refine ⟨⟨hk,by rw[hstep];omega,by rw[hstep];omega,?_,?_⟩,hi⟩
 · rw[hstep];rcases hs.at_ h.fi hi with ⟨_,h1⟩ | ⟨h1,h2⟩
   · intro e;have hdt:(kq s t).dot=t.dot:=by
      unfold kq;rw[if_neg om];split
      · rfl
      · split<;>rfl
     rw[hdt] at e;have:=h.dt e;omega
   · intro _;omega
 · intro _;rcases hs.at_ h.fi hi with ⟨_,h1⟩ | ⟨h1,h2⟩
   · unfold kq;rw[if_neg om];split
     · rfl
     · split<;>rfl
   · have hp:=hs.fp;unfold kq;rw[if_pos h2];exact h.dg om
theorem tF {s:ByteArray} {f p E q:Nat} (hs:Nm s f p E q):RdN s f p E q ⟨f,0,0,0,0,false,false,false⟩:=by
 have h1:=hs.fp;have h2:=hs.pE;have h3:=hs.hE;exact ⟨⟨by show f≤s.size;omega,by show 0<10^0;decide,Nat.zero_le _,Nat.zero_le _,by show -((f:Nat):Int)≤0∧0≤((f:Nat):Int);omega⟩,Nat.le_refl _,by show f≤E;omega,fun e=>(by cases e),fun e=>absurd e (Nat.lt_irrefl _)⟩
noncomputable def OO (s:ByteArray) (f:Nat):Qn:=va (KS s) (kq s) ⟨f,0,0,0,0,false,false,false⟩
theorem aB6 {s:ByteArray} {f p E q:Nat} {t:Qn} (hs:Nm s f p E q) (h:RdN s f p E q t) (hd:KS s t=true):t.i=E:=by
 rcases Nat.lt_or_ge t.i E with h1 | h1
 · rw[Dy hs h h1] at hd;cases hd
 · have:=h.iE;omega
theorem Dz {s:ByteArray} {f p E q:Nat} (hs:Nm s f p E q):RdN s f p E q (OO s f)∧(OO s f).i=E:=by
 have h:=jh (done:=KS s) (step:=kq s) (RdN s f p E q) (fun t=>E-t.i) (fun t h hd=>?_) (tF hs)
 · exact ⟨h.1,aB6 hs h.1 h.2⟩
 · obtain ⟨h1,h2⟩:=tC hs h hd;refine ⟨h1,?_⟩;have hstep:(kq s t).i=t.i+1:=by
    unfold kq;exact xQ
   omega
structure V5 where
 i:Nat
 e:Nat
def Fj (s:ByteArray) (t:V5):Bool:=decide (s.size≤t.i) || !Dt (aL s t.i)
def Qq (s:ByteArray) (t:V5):V5:=⟨t.i+1,if t.e<10000 then t.e*10+(aL s t.i-48) else t.e⟩
structure ExI (s:ByteArray) (q:Nat) (t:V5):Prop where
 hi:q≤t.i∧t.i≤s.size
 he:t.e<100000
theorem mq {s:ByteArray} {q:Nat} {t:V5} (h:ExI s q t) (hd:Fj s t=false):ExI s q (Qq s t)∧t.i<s.size∧Dt (aL s t.i)=true:=by
 unfold Fj at hd;rw[Bool.or_eq_false_iff] at hd;have h1:¬s.size≤t.i:=of_decide_eq_false hd.1;have h2:Dt (aL s t.i)=true:=by simpa using hd.2
 have h3:=of_decide_eq_true h2;have h4:=h.hi;have h5:=h.he;refine ⟨⟨by show q≤t.i+1∧t.i+1≤s.size;omega,?_⟩,om,h2⟩;show (if t.e<10000 then t.e*10+(aL s t.i-48) else t.e)<100000
 split<;>omega
noncomputable def exA (s:ByteArray) (q:Nat):V5:=va (Fj s) (Qq s) ⟨q,0⟩
theorem qdx {s:ByteArray} {q:Nat} (hq:q≤s.size):ExI s q (exA s q)∧Fj s (exA s q)=true:=
 jh (ExI s q) (fun t=>s.size-t.i) (fun t h hd=>by
  obtain ⟨h1,h2,_⟩:=mq h hd;exact ⟨h1,by show s.size-(t.i+1)<s.size-t.i;omega⟩) ⟨⟨Nat.le_refl _,hq⟩,by show 0<100000;decide⟩
theorem V6 {s:ByteArray} {q:Nat} {t:V5} (hs:∀i,q≤i→i<s.size→48≤aL s i∧aL s i≤57) (h:ExI s q t) (hd:Fj s t=true):t.i=s.size:=by
 rcases Nat.lt_or_ge t.i s.size with h1 | h1
 · have h2:=hs t.i h.hi.1 h1;unfold Fj at hd;rw[vvk h2,decide_eq_false om] at hd;cases hd
 · have:=h.hi;omega
noncomputable def oF (s:ByteArray) (E:Nat):Int:=
 if s.size≤E then 0
 else if aL s (E+1)=45 then -(((exA s (E+2)).e:Nat):Int)
 else if aL s (E+1)=43 then (((exA s (E+2)).e:Nat):Int)
 else (((exA s (E+1)).e:Nat):Int)
theorem vbq {s:ByteArray} {f p E q:Nat} (hs:Nm s f p E q):-100000≤oF s E∧oF s E≤100000:=by
 unfold oF;split
 · omega
 · rename_i h
   obtain ⟨_,h2,h3,_⟩:=hs.exp om;split
   · have:=(qdx (s:=s) (q:=E+2) om).1.he;omega
   · split
     · have:=(qdx (s:=s) (q:=E+2) om).1.he;omega
     · have:=(qdx (s:=s) (q:=E+1) om).1.he;omega
noncomputable def rdP (s:ByteArray) (f:Nat):Int:=(if (OO s f).dot then (OO s f).dp else (((OO s f).nd:Nat):Int))+oF s (OO s f).i
noncomputable def DC (s:ByteArray) (f:Nat):Int:=if (OO s f).m≠0 then rdP s f-(((OO s f).nm:Nat):Int) else 0
structure KW where
 i:Nat
 dot:Bool
 bN:Bool
 t:Dec
def OP (s:ByteArray) (t:KW):Bool:=decide (s.size≤t.i) || (if aL s t.i=46 then t.dot else !Dt (aL s t.i))
def xu (s:ByteArray) (a:KW):KW:=
 if aL s a.i=46 then { a with i:=a.i+1,dot:=true,t:={ a.t with dp:=(a.t.nd:Int) } }
 else if aL s a.i=48∧a.t.nd=0 then { a with i:=a.i+1,bN:=true,t:={ a.t with dp:=a.t.dp-1 } }
 else if a.t.nd<800 then { a with i:=a.i+1,bN:=true,t:={ a.t with d:=a.t.d.set a.t.nd (aL s a.i),nd:=a.t.nd+1 } }
 else { a with i:=a.i+1,bN:=true,t:={ a.t with tr:=if aL s a.i≠48 then true else a.t.tr } }
structure StN (s:ByteArray) (f p E q:Nat) (a:KW):Prop where
 fi:f≤a.i
 iE:a.i≤E
 dt:a.dot=true→p<a.i
 dg:f<a.i→a.bN=true
 dec:aY a.t
 hp:-(a.i:Int)≤a.t.dp∧a.t.dp≤800
theorem DF {s:ByteArray} {f p E q:Nat} {t:KW} (hs:Nm s f p E q) (h:StN s f p E q t) (hi:t.i<E):OP s t=false:=by
 have hE:=hs.hE;unfold OP;exact ar6
theorem aQz (s:ByteArray) (a:KW):(xu s a).i=a.i+1:=by
 unfold xu;exact xQ
theorem vgq {s:ByteArray} {f p E q:Nat} {a:KW} (hs:Nm s f p E q) (h:StN s f p E q a) (hd:OP s a=false):StN s f p E q (xu s a)∧a.i<E:=by
 have hi:a.i<E:=by
  refine Nat.lt_of_not_le fun hge=>?_;have e:a.i=E:=by have:=h.iE;omega
  unfold OP at hd;rw[Bool.or_eq_false_iff] at hd;have h1:¬s.size≤a.i:=of_decide_eq_false hd.1;exact V4
 have hfi:=h.fi;have hp:=h.hp;have hdec:=h.dec;have hn:=hdec.hn;refine ⟨?_,hi⟩;rcases hs.at_ h.fi hi with ⟨hne,h1⟩ | ⟨h1,h2⟩
 · have hno:aL s a.i≠46:=om;have hdt:a.dot=true→p<a.i+1:=fun e=>by have:=h.dt e;omega
   unfold xu;rw[if_neg hno];split
   · exact ⟨by show f≤a.i+1;omega,by show a.i+1≤E;omega,hdt,fun _=>rfl,⟨hdec.len,hdec.hn,hdec.bN,hdec.lead⟩,by show -((a.i+1:Nat):Int)≤a.t.dp-1∧a.t.dp-1≤800;omega⟩
   · rename_i hz
     split
     · rename_i hlt
       refine ⟨by show f≤a.i+1;omega,by show a.i+1≤E;omega,hdt,fun _=>rfl,⟨?_,by show a.t.nd+1≤800;omega,fun i hi=>?_,fun _=>?_⟩,by show -((a.i+1:Nat):Int)≤a.t.dp∧a.t.dp≤800;omega⟩
       · show (a.t.d.set _ _).length=800
         rw[List.length_set];exact hdec.len
       · have hi:i<a.t.nd+1:=hi;show 48≤dg (a.t.d.set a.t.nd (aL s a.i)) i∧dg (a.t.d.set a.t.nd (aL s a.i)) i≤57
         rw[qdv (by rw[hdec.len];exact hlt)];split
         · exact h1
         · exact hdec.bN i om
       · show 49≤dg (a.t.d.set a.t.nd (aL s a.i)) 0
         rw[qdv (by rw[hdec.len];exact hlt)];split
         · rename_i e
           have:aL s a.i≠48:=fun e2=>hz ⟨e2,e.symm⟩;omega
         · exact hdec.lead om
     · exact ⟨by show f≤a.i+1;omega,by show a.i+1≤E;omega,hdt,fun _=>rfl,⟨hdec.len,hdec.hn,hdec.bN,hdec.lead⟩,by show -((a.i+1:Nat):Int)≤a.t.dp∧a.t.dp≤800;omega⟩
 · have hpp:=hs.fp;unfold xu;rw[if_pos h2];exact ⟨by show f≤a.i+1;omega,by show a.i+1≤E;omega,fun _=>by show p<a.i+1;omega,fun _=>h.dg om,⟨hdec.len,hdec.hn,hdec.bN,hdec.lead⟩,by show -((a.i+1:Nat):Int)≤(a.t.nd:Int)∧(a.t.nd:Int)≤800;omega⟩
def xR (neg:Bool):Dec:=⟨List.replicate 800 0,0,0,neg,false⟩
theorem KX (neg:Bool):aY (xR neg):=⟨List.length_replicate,Nat.zero_le _,fun _ hi=>absurd hi (Nat.not_lt_zero _),fun hi=>absurd hi (Nat.lt_irrefl _)⟩
theorem vgz {s:ByteArray} {f p E q:Nat} (neg:Bool) (hs:Nm s f p E q):StN s f p E q ⟨f,false,false,xR neg⟩:=by
 have h1:=hs.fp;have h2:=hs.pE;exact ⟨Nat.le_refl _,by show f≤E;omega,fun e=>(by cases e),fun e=>absurd e (Nat.lt_irrefl _),KX neg,by show -((f:Nat):Int)≤0∧(0:Int)≤800;omega⟩
noncomputable def stA (s:ByteArray) (f:Nat) (neg:Bool):KW:=va (OP s) (xu s) ⟨f,false,false,xR neg⟩
theorem aB7 {s:ByteArray} {f p E q:Nat} {t:KW} (hs:Nm s f p E q) (h:StN s f p E q t) (hd:OP s t=true):t.i=E:=by
 rcases Nat.lt_or_ge t.i E with h1 | h1
 · rw[DF hs h h1] at hd;cases hd
 · have:=h.iE;omega
theorem mD {s:ByteArray} {f p E q:Nat} (neg:Bool) (hs:Nm s f p E q):StN s f p E q (stA s f neg)∧(stA s f neg).i=E:=by
 have h:=jh (done:=OP s) (step:=xu s) (StN s f p E q) (fun t=>E-t.i) (fun t h hd=>?_) (vgz neg hs)
 · exact ⟨h.1,aB7 hs h.1 h.2⟩
 · obtain ⟨h1,h2⟩:=vgq hs h hd;refine ⟨h1,?_⟩;rw[aQz];omega
noncomputable def fq (s:ByteArray) (f:Nat) (neg:Bool):Dec:=
 { (stA s f neg).t with dp:=(if (stA s f neg).dot then (stA s f neg).t.dp else (((stA s f neg).t.nd:Nat):Int))+oF s (stA s f neg).i }
theorem ah7 {s:ByteArray} {f p E q:Nat} (neg:Bool) (hs:Nm s f p E q):aY (fq s f neg):=
 let h:=(mD neg hs).1.dec
 ⟨h.len,h.hn,h.bN,h.lead⟩
def aB8 (s:ByteArray) (i:Nat):Bool:=decide (s.size≤i) || !Dt (aL s i)
noncomputable def ah8 (s:ByteArray) (a:Nat):Nat:=va (aB8 s) (fun i=>i+1) a
structure RuI (s:ByteArray) (a i:Nat):Prop where
 lo:a≤i
 hi:i≤s.size
 bN:∀j,a≤j→j<i→48≤aL s j∧aL s j≤57
theorem ah9 {s:ByteArray} {i:Nat} (h:s.size≤i):aL s i=0:=by
 unfold aL;have h1:s.data[i]? =none:=Array.getElem?_eq_none h;rw[h1];rfl
theorem IQ {s:ByteArray} {i:Nat} (h:aL s i≠0):i<s.size:=by
 rcases Nat.lt_or_ge i s.size with h1 | h1
 · exact h1
 · exact absurd (ah9 h1) h
noncomputable def nB (s:ByteArray) (a:Nat):Nat:=if aL s a=46 then ah8 s (a+1) else a
def nQ (s:ByteArray) (b:Nat):Nat:=if aL s (b+1)=43∨aL s (b+1)=45 then b+2 else b+1
noncomputable def nC (s:ByteArray) (b:Nat):Nat:=if aL s b=101 then ah8 s (nQ s b) else b
def aZ5 (s:ByteArray) (b:Nat):Prop:=nC s b=s.size∧(aL s b=101→nQ s b<nC s b)
def aZ6 (s:ByteArray) (a:Nat):Prop:=(aL s a=46→a+1<nB s a)∧aZ5 s (nB s a)
def aZ7 (s:ByteArray) (f:Nat):Prop:=f<ah8 s f∧aZ6 s (ah8 s f)
noncomputable def aQx (s:ByteArray) (f:Nat):Bool:=@decide (aZ7 s f) (Classical.propDecidable _)
section
variable {P:Program} {N:Nat} {Q:Exit→Act→World→Prop} {σ:Env} {w:World} {body:Code} {n:Nat}
theorem IZ:∀(n:Nat) (e:Exit) (a:Act) (w:World),ob P body Q 0 e a w→ob P body Q n e a w
 | 0,_,_,_,h=>h
 | n+1,e,_,_,h=>by
  cases e<;>first | exact h | exact .inl h
theorem KZ {l:Nat} {rest:Code} {ι:Type} (s:ι→Env) (R:ι→World→Prop) (_:findLabel body l=some rest)
 (hb:(∀i w,R i w→CW P N rest (ob P body Q 0) (s i) w)→CW P N body (ob P body Q n) σ w) (ht:∀i w,R i w→CW P N rest (ob P body Q 0) (s i) w):CW P N body (ob P body Q n) σ w:=hb ht
theorem qjq {l k:Nat} {rest:Code} {ι:Type} {s:ι→Env} {R:ι→World→Prop} (hl:findLabel body l=some rest) (ht:∀i w,R i w→CW P N rest (ob P body Q 0) (s i) w) (i:ι) (hs:Sub σ (s i)) (hr:R i w):EW N (ob P body Q (k+1)) (.goto l) σ w:=
 oM hl (fun a ha=>Code.wp_mono (fun e a w q=>IZ k e a w q) (ht i w hr a (ha.weak (vkq hs))))
end
section
attribute [local irreducible] OW RS CW EW
def aU6 (W:World) (base:Nat) (key:Option Nat) (n:Nat) (xs:List Value) (e:Ending) (w':World):Prop:=
 ∃A c,e= .returned (.slice A n c)∧w'.ownsRow base 5 1 (.slice A n c) n xs∧Ext (aj [key]) W w'∧ ∀q,(Value.slice A n c).ownBlock=some q→key=some q∨W.heap.size≤q
section
variable (w:World) (base:Nat) (A:Option Addr) (c:Nat) (HB:base≤w.heap.size) (ho:w.ownsRow base 5 1 (.slice A 0 c) 0 [])
include HB ho
end
section
variable (w:World)
end
def bdq (w:World):Prop:=w.cell? ⟨13,728,none⟩=some (.int .u64 10240000000000000000)∧w.cell? ⟨13,729,none⟩=some (.int .u64 0)
section
variable (w:World)
end
end
end Go.Proofs.YtmnmebdmpigddaaGreatDoor
