/- Texts of this claim. -/
import Derived.Test.YtdofcnodhgaedaaGreatDoorG8
import Derived.Test.YtdofcnodhgaedaaGreatDoorProg
import Derived.Lib.ConvBytes
import Derived.Lib.SmallJoins
set_option maxRecDepth 100000
set_option maxHeartbeats 20000000
namespace Go.Proofs.YtdofcnodhgaedaaGreatDoor
open Go.RowKit Proofs.Tryz
def UF (P:Program) (c:Code) (Q:Exit→Act→World→Prop) (a:Act) (w:World):Prop:=∀b k cs,∃e a' w',Q e a' w'∧Arrives P (lone (b.at a (.inLoop c::k)) cs w) b k cs e a' w'
theorem Ku {P:Program} {c:Code} {Q:Exit→Act→World→Prop} {a:Act} {w:World} (h:c.wp P (Exit.then (UF P c Q) Q) a w) (b:Frame) (k:List Item) (cs:List Frame) :
 ∃e a' w',Q e a' w'∧Arrives P (lone (b.at a (.code c:: .inLoop c::k)) cs w) b k cs e a' w':=by
 obtain ⟨e,a₁,w₁,hq,harr⟩:=h b (.inLoop c::k) cs;cases e with
 | normal=>
  obtain ⟨e₂,a₂,w₂,hq₂,harr₂⟩:=hq b k cs;exact ⟨e₂,a₂,w₂,hq₂,.of_steps harr harr₂⟩
 | exit id=>exact ⟨_,a₁,w₁,hq,.pass (x:=.inLoop c) rfl (fun _ _=>.inl (by simp)) harr⟩
 | goto l=>exact ⟨_,a₁,w₁,hq,.pass (x:=.inLoop c) rfl (fun _ _=>.inl (by simp)) harr⟩
 | ret=>exact ⟨_,a₁,w₁,hq,.pass (x:=.inLoop c) rfl (fun _ _=>.inl (by simp)) harr⟩
 | panic ch=>exact ⟨_,a₁,w₁,hq,.pass (x:=.inLoop c) rfl (fun _ _=>.inl (by simp)) harr⟩
 | outgrown=>exact ⟨_,a₁,w₁,hq,.pass (x:=.inLoop c) rfl (fun _ _=>.inl (by simp)) harr⟩
section
variable {P:Program} {N:Nat} {ops:Array Oper} {Q:Exit→Act→World→Prop} {σ:Env} {w:World} {ty:TypeId} {pos:String} {af:Array Edge} {dst:Option Nat} {Post:Value→World→Prop}
theorem znz {c:Code} (h:CW P N c (Exit.then (UF P c Q) Q) σ w):CW P N (.loop c) Q σ w:=fun a ha b k cs=>by
 obtain ⟨e,a',w',hq,harr⟩:=Ku (h a ha) b k cs;exact ⟨e,a',w',hq,.of_steps (.one step_loop) harr⟩
theorem uq (b:Nat) (w:World):(Extern.MathFloatBits.float64bits #[.float .f64 b]).run P w= .ok (.int .u64 ((b:Nat):Int)) w:=rfl
theorem qG (b:Nat) (w:World):(Extern.MathFloatBits.float64frombits #[.int .u64 ((b:Nat):Int)]).run P w= .ok (.float .f64 b) w:=rfl
theorem Et {f:FuncId} {ts:Array TypeId} {x:Operand} {b:Nat} (hf:mO P f Extern.MathFloatBits.float64bits) (hx:ev σ x=some (.float .f64 b)) (k:Post (.int .u64 ((b:Nat):Int)) w):OW P N ops Q ⟨dst,.call ⟨.value (.func f),#[x],ts⟩,ty,pos,af,none⟩ σ w Post:=
 iR (xs:=[x]) (args:=[.float .f64 b]) hf (by simp[evs,hx]) (uq b w) k
theorem gf {f:FuncId} {ts:Array TypeId} {x:Operand} {b:Nat} (hf:mO P f Extern.MathFloatBits.float64frombits) (hx:ev σ x=some (.int .u64 ((b:Nat):Int))) (k:Post (.float .f64 b) w):OW P N ops Q ⟨dst,.call ⟨.value (.func f),#[x],ts⟩,ty,pos,af,none⟩ σ w Post:=
 iR (xs:=[x]) (args:=[.int .u64 ((b:Nat):Int)]) hf (by simp[evs,hx]) (qG b w) k
def oo (way:Ieee.Toward) (b:Nat):Nat:=FloatKind.f64.encode ((FloatKind.f64.decode b).integral way)
theorem Kv {f:FuncId} {ts:Array TypeId} {x:Operand} {b:Nat} {name:String} {way:Ieee.Toward} (hf:mO P f (Extern.MathFloor.toIntegral name way)) (hx:ev σ x=some (.float .f64 b)) (hn:(FloatKind.f64.decode b).isNaN=false) (k:Post (.float .f64 (oo way b)) w):OW P N ops Q ⟨dst,.call ⟨.value (.func f),#[x],ts⟩,ty,pos,af,none⟩ σ w Post:=
 iR (xs:=[x]) (args:=[.float .f64 b]) (v:=.float .f64 (oo way b)) (w':=w) hf (by simp[evs,hx]) (by
  have e:Extern.MathFloor.toIntegral name way #[.float .f64 b]=(match FloatKind.f64.decode b with
   | .nan s t=>if FloatKind.f64.format.quiet t=t then pure (.float .f64 b) else do
    let kept←choose (.extern "math.Floor,Ceil,Trunc,RoundToEven.signallingNaN kept" 2)
    pure (.float .f64 (if kept==1 then b else FloatKind.f64.encode (.nan s (FloatKind.f64.format.quiet t))))
   | d=>pure (.float .f64 (FloatKind.f64.encode (d.integral way)))):=rfl
  rw[e];unfold oo;cases h:FloatKind.f64.decode b with
  | nan s t=>rw[h] at hn;cases hn
  | infinity s=>rfl
  | number s m e=>rfl) k
theorem zrz (a:Array UInt8):(⟨a⟩:ByteArray).toList=a.toList:=by rw[ByteArray.toList_eq]
theorem qH {x y:Operand} {t1 t2:TypeId} {q q2:IntKind} {m n:Int} (hx:ev σ x=some (.int q m)) (hy:ev σ y=some (.int q2 n))
 (k:Post (.int q (if n<m then n else m)) w):OW P N ops Q ⟨dst,.call ⟨.builtin .min,#[x,y],#[t1,t2]⟩,ty,pos,af,none⟩ σ w Post:=
 zt (fun ρ ha=>by simp[execOp,resolve,invoke,builtin,Builtin.min_,Builtin.min2,ha hx,ha hy,go_sem]) k
theorem qm {x i:Operand} {T:TypeId} {s:ByteArray} {q:IntKind} {m:Int} {j:Nat} {b:Nat} (hd:P.underlying T=some .string) (hx:ev σ x=some (.string s)) (hi:ev σ i=some (.int q m)) (hm:m=(j:Int)) (hb:(s.data[j]?).map (·.toNat)=some b)
 (k:Post (.int .u8 (b:Int)) w):OW P N ops Q ⟨dst,.index T x i,ty,pos,af,none⟩ σ w Post:=by
 obtain ⟨c,h1,rfl⟩:=Option.map_eq_some_iff.1 hb;exact ytx hd hx hi hm (show s[j]? =some c by
  have h2:s[j]? =s.data[j]? :=rfl;rw[h2,h1]) k
theorem ydq {x i:Operand} {T e:TypeId} {g o n s:Nat} {q:IntKind} {m:Int} {j:Nat} (hd:P.underlying T=some (.array n e)) (hs:yv P e s) (hx:ev σ x=some (.pointer (some ⟨g,o,none⟩))) (hi:ev σ i=some (.int q m)) (hm:m=(j:Int)) (hj:j<n)
 (k:Post (.pointer (some ⟨g,o+j*s,none⟩)) w):OW P N ops Q ⟨dst,.indexAddr T x i,ty,pos,af,none⟩ σ w Post:=
 zt (fun ρ ha=>by
  subst hm;have h1:¬n≤j:=om;simp[execOp,ha hx,ha hi,Instr.indexAt,Instr.sureAddr,asIntOf,run_underlying hd,ja hs,h1,hj,Addr.add_eq,go_sem]) k
theorem BD {T:TypeId} {ms:Array (String×TypeId)} (hd:P.underlying T=some (.interface ms)):(Op.equal T .nilIface .nilIface).run P w= .ok true w:=by
 have e:Op.maxDepth=9999+1:=rfl;have key:∀d:Nat,(Op.equalIn (d+1) T .nilIface .nilIface).run P w= .ok true w:=by
  exact J5
 unfold Op.equal;rw[e];exact key 9999
theorem Ql {T U:TypeId} {x:Operand} {ms:Array (String×TypeId)} (hd:P.underlying T=some (.interface ms)) (hx:ev σ x=some .nilIface) (k:Post (.bool false) w):OW P N ops Q ⟨dst,.binOp .neq T x (.const .nilIface) U,ty,pos,af,none⟩ σ w Post:=
 zt (fun ρ ha=>by
  have e:=BD (P:=P) (w:=w) hd;have hc:ρ (.const .nilIface)= .nilIface:=ha rfl;simp only[execOp,ha hx,hc,eqGuard,binOp]
  simp[e,go_sem]) k
def Xz (w:World) (g:Nat) (xs:List Value):Prop:=∀j v,xs[j]? =some v→w.cell? ⟨g,j,none⟩=some v
theorem Per.ab5 {w:World} {g:Nat} {xs:List Value} (h:Xz w g xs):Per No w (fun b=>Xz b g xs):=fun b hb j v hj=>by
 have h1:=h j v hj;rw[hb.cell (p:=⟨g,j,none⟩) (World.block_lt_of_cell? w _ h1) (fun e=>e.elim)];exact h1
theorem zvv {S D e:TypeId} {x:Operand} {s:ByteArray} {n:Nat} {xs:List Value} (hS:P.underlying S=some .string) (hD:P.underlying D=some (.slice e)) (he:P.underlying e=some (.int .u8)) (hx:ev σ x=some (.string s)) (hn:s.size=n) (hl:s.data.toList.map (fun b=>Value.int .u8 (b.toNat:Int))=xs)
 (k:∀g c w',Xz w' g xs→Ext No w w'→w.heap.size≤g→Post (.slice (some ⟨g,0,none⟩) n c) w'):OW P N ops Q ⟨dst,.convert S D x,ty,pos,af,none⟩ σ w Post:=
 zt (v:=.slice (some ⟨w.heap.size,0,none⟩) s.size (grownCap w s.size 0 e)) (w':=Lib.bytesWorld w e s) (fun ρ ha=>by
  simp only[execOp,ha hx,Sem.run_bind,Lib.run_convert_string_bytes w S D e s hS hD he,Result.andThen_ok,Sem.run_pure]) (by
  subst hn;refine k _ _ _ (fun j v hj=>?_) (Ext.of_below (Joins.below_bytesWorld _ _ _ _ (Nat.le_refl _)) No) (Nat.le_refl _);rw[←hl,List.getElem?_map] at hj;obtain ⟨b,hb,rfl⟩:=Option.map_eq_some_iff.1 hj;have hlt:j<s.size:=by
   have h1:=(List.getElem?_eq_some_iff.1 hb).1;have h2:s.data.toList.length=s.size:=Array.length_toList;omega
  rw[Lib.bytesWorld_cell w e s j hlt,List.getD_eq_getElem?_getD,hb];rfl)
end
abbrev Gives (f:FuncId) (args:Array Value) (v:Value):Prop:=∀w,Calls prog f args w fun e w'=>e= .returned v∧Below w.heap.size w w'
theorem UG {P:Prop} (h:P:=by
 refine ⟨a.eval x,.inl ⟨by simp[Region.wanted],fun w=>by simp[execOp,go_sem]⟩,?_⟩;rcases h with h | ⟨h,_⟩
 · simpa [Oper.wp,execOp,go_sem,Oper.upon] using h
 · exact absurd h (by simp[Oper.asks,execOp,Sem.runT,Sem.events,pure,bind])):P:=h
section
variable {P:Program} {N:Nat} {Q:Exit→Act→World→Prop} {σ:Env} {w:World} {l:List Oper}
def nM (k n:Nat):Array Bool:=(List.replicate k true++List.replicate (n-k) false).toArray
def AK (P:Program) (N k:Nat) (l:List Oper) (Q:Exit→Act→World→Prop) (σ:Env) (w:World):Prop:=∀a,At N σ a→wpAny P .any l.toArray Q (l.length-k) (nM k l.length) a w
theorem qI {id:Nat} (hm:P.follows .mixedOrders=true) (h:AK P N 0 l Q σ w.drew):CW P N (.region id l.toArray true) Q σ w:=fun a ha=>by
 refine wp_region_any hm ?_;have:=h a ha;unfold nM at this;simpa using this
theorem Qm {k n j:Nat} {d:Bool} (hj:j<n) (hk:k≤n):(nM k n).getD j d=decide (j<k):=by
 unfold nM;by_cases h:j<k
 · simp[Array.getD_eq_getD_getElem?,List.getElem?_append,h]
 · have h2:j-k<n-k:=om;simp[Array.getD_eq_getD_getElem?,List.getElem?_append,h,List.getElem?_replicate,h2]
theorem Qn {k n:Nat} (h:k<n):(nM k n).setIfInBounds k true=nM (k+1) n:=by
 unfold nM;apply Array.toList_inj.1
 rw[Array.toList_setIfInBounds];have e:n-k=(n-(k+1))+1:=om;rw[e,List.replicate_succ,List.replicate_succ',List.append_assoc];simp
def quiet (o:Oper):Bool:=match o.guard with
 | some _=>false
 | none=>match o.op with
  | .move _=>true
  | .assign _=>true
  | .extract _ _=>true
  | _=>false
theorem qJ {ops:Array Oper} {o:Oper} {a:Act} {w:World} {K:Act→World→Prop} (hq:quiet o=true) (h:o.wp P a w K Q∨(o.asks P a w∧LetsOut Q)):∃v,Yields P ops o v a∧K (a.put o.dst v) w:=by
 obtain ⟨dst,op,type,pos,after,guard⟩:=o;cases guard with
 | some g=>simp[quiet] at hq
 | none=>
  cases op<;>first | (simp[quiet] at hq;done) | skip
  case move x=>
   exact UG
  case assign x=>
   exact UG
  case extract x i=>
   rcases h with h | ⟨h,_⟩
   · unfold Oper.wp at h;simp only[execOp,Instr.extract] at h
     split at h
     · rename_i vs hx
       split at h
       · rename_i v hv
         refine ⟨v,.inl ⟨by simp[Region.wanted],fun w=>by simp only[execOp,hx,Instr.extract,hv];rfl⟩,?_⟩;simpa [go_sem,Oper.upon] using h
       · simp[go_sem,Oper.upon,stuck] at h
     · simp[go_sem,Oper.upon,stuck] at h
   · exfalso
     unfold Oper.asks at h;simp only[execOp,Instr.extract] at h
     split at h
     · split at h
       · simp[Sem.runT,Sem.events,Sem.bind,pure,bind] at h
       · simp[Sem.runT,Sem.events,Sem.bind,pure,bind,stuck] at h
     · simp[Sem.runT,Sem.events,Sem.bind,pure,bind,stuck] at h
def yzv (l:List Oper):Nat→Nat→Bool
 | _,0=>true
 | k,m+1=>(match Region.ready .any l.toArray (nM k l.length) with
  | []=>false
  | [j]=>Nat.beq j k
  | r=>fB k r&&(match l.toArray[k]? with
   | some o=>quiet o
   | none=>false)&&Region.free .any l.toArray (nM k l.length) k)&&yzv l (k+1) m
theorem uw (hn:Region.noSelect l.toArray=true) (hQ:∀c (a:Act) d v w,Q (.panic c) (a.put d v) w→Q (.panic c) a w) :
 ∀(m k:Nat),k+m=l.length→yzv l k m=true→ ∀a w,wpList P l.toArray Q (l.drop k) a w→wpAny P .any l.toArray Q m (nM k l.length) a w:=by
 intro m;induction m with
 | zero=>
  intro k hk _ a w h;have hk:k=l.length:=om;subst hk;rw[List.drop_length] at h;refine ⟨List.eq_nil_iff_forall_not_mem.2 fun j hj=>?_,h⟩;obtain ⟨h0,o,ho,_⟩:=mem_ready.1 hj;have hlt:j<l.length:=by simpa using (Array.getElem?_eq_some_iff.1 ho).1
  rw[Qm hlt (Nat.le_refl _)] at h0;simp[hlt] at h0
 | succ m ih=>
  intro k hk hs a w h;have hkl:k<l.length:=om;simp only[yzv,Bool.and_eq_true] at hs
  rw[List.drop_eq_getElem_cons hkl] at h;have hok:l.toArray[k]? =some l[k]:=by simp[hkl]
  have hnext:=fun a w h=>ih (k+1) om hs.2 a w h;rw[←Qn hkl] at hnext;have hone:wpOp P l.toArray Q k (wpAny P .any l.toArray Q m ((nM k l.length).setIfInBounds k true)) a w:=by
   unfold wpOp;rw[hok];simp only[]
   unfold wpList at h;split
   · rename_i hw
     rw[if_pos hw] at h;exact h.imp (Oper.wp_mono hnext) id
   · rename_i hw
     rw[if_neg hw] at h;exact hnext _ _ h
  have h1:=hs.1;split at h1
  · cases h1
  · rename_i j hr
    have hj:j=k:=Nat.eq_of_beq_eq_true h1;subst hj;exact wpAny_all hr (by simp) fun i hi=>by rw[List.mem_singleton.1 hi];exact hone
  · rename_i hr hr1
    rw[hok] at h1;simp only[Bool.and_eq_true] at h1
    have hq:=h1.1.2;unfold wpList at h;have hg:Region.wanted l[k] (yielded l.toArray a.tmps)=true:=by
     unfold quiet at hq;split at hq
     · cases hq
     · rename_i hg;simp[Region.wanted,hg]
    rw[if_pos hg] at h;obtain ⟨v,hy,hv⟩:=qJ (ops:=l.toArray) hq h;exact wpAny_take hok hn h1.2 (by simpa using jh.1 h1.1.1) (fun c a w h=>hQ c a _ _ w h) hy (hnext _ _ hv)
theorem iU {k:Nat} (hs:(yzv l k (l.length-k)&&Region.noSelect l.toArray&&Nat.ble k l.length)=true) (hQ:∀c (a:Act) d v w,Q (.panic c) (a.put d v) w→Q (.panic c) a w)
 (h:RS P N l.toArray Q (l.drop k) σ w):AK P N k l Q σ w:=fun a ha=>by
 simp only[Bool.and_eq_true] at hs
 have:=Nat.le_of_ble_eq_true hs.2;exact uw hs.1.2 hQ _ k om hs.1.1 a w (h a ha)
def covers (ops:Array Oper):Nat→List Nat→Bool
 | 0,_=>true
 | j+1,S=>fB j S&&covers ops j (S++qg ops j)
def qK (l:List Oper) (m:Nat):Bool:=Nat.ble m l.length&&Em 0 (l.take m) []&&((l.take m).all fun o=>match o.guard with
 | some (g,_)=>Nat.blt g m
 | none=>true)&&(List.range (l.length-m)).all fun t=>(qg l.toArray (m+t)).any (fun d=>Nat.ble m d) || covers l.toArray m (qg l.toArray (m+t))
theorem BF {ops:Array Oper} {L:Nat→Prop} (hd:∀i,L i→ ∀j∈qg ops i,L j):∀(m:Nat) (S:List Nat),covers ops m S=true→(∀j∈S,L j)→ ∀j,j<m→L j:=by
 intro m;induction m with
 | zero=>intro S _ _ j hj;omega
 | succ m ih=>
  intro S hc hS j hj;simp only[covers,Bool.and_eq_true] at hc
  have hm:=hS m (jh.1 hc.1);rcases Nat.lt_or_ge j m with h | h
  · refine ih _ hc.2 (fun j hj=>?_) j h;rcases List.mem_append.1 hj with h | h
    · exact hS j h
    · exact hd m hm j h
  · have:j=m:=om;subst this;exact hm
theorem Gu {o:Oper} {a:Act} {K K' Z:Act→World→Prop} (h:∀a w,K a w→K' a w):∀ {r:Result Next},o.upon P a K (Exit.then Z Q) r→o.upon P a K' Q r:=by
 intro r hh;cases r with
 | ok n w'=>
  cases n<;>simp only[Oper.upon] at hh ⊢ <;>
   first
    | exact h _ _ hh
    | exact Calls.mono hh (fun e w'' he=>by cases e<;>first | exact h _ _ he | exact he)
    | exact Rows.mono hh (fun _ _ he=>h _ _ he)
    | exact hh
 | halt x w'=>cases x<;>simp only[Oper.upon] at hh ⊢ <;>exact hh
end
section
variable {P:Program} {N:Nat} {Q:Exit→Act→World→Prop} {σ:Env} {l:List Oper}
theorem yok {w:World} (Y:Nat→Prop) (hY:∀k,Y k→k<w.heap.size) (bs:List Bx) (os:List Ox) (F:Nat→Fx) (hok:(Em 0 l []&&iy bs&&Gs l bs bs&&nK N l&&pQ bs os)=true) (hos:Xx Y w os) (hin:∀o∈os,l[o.st]? ≠none)
 (hsteps:ypq P N l.toArray Q σ bs os F w 0 l)
 (hend:∀vs w',Ext (ah (oj os)) w w'→pU σ l.toArray vs w' os→qdx Y bs F vs w' 0 l→zox P σ l.toArray vs w w' bs→yqx vs bs→EW N Q .normal (Ko σ l vs) w'):AK P N 0 l Q σ w:=by
 simp only[Bool.and_eq_true] at hok
 obtain ⟨⟨⟨⟨hrow,hbx⟩,hwf⟩,hdl⟩,hox⟩:=hok;have Kq:∀ {r:List Ox},Xx Y w r→ ∀o∈r,Y o.g∧aA w o.g o.T o.cs:=by
  intro r;induction r with
  | nil=>intro _ o ho;cases ho
  | cons x r ih=>
   exact Ui
 have Xy:∀ {r:List Ox},Xx Y w r→pQ bs r=true→ ∀a∈r,∀b∈r,a≠b→a.g≠b.g∧a.st≠b.st:=by
  intro r;induction r with
  | nil=>intro _ _ a ha;cases ha
  | cons x r ih=>
   exact Uu
 have Kr:∀ {r:List Ox},pQ bs r=true→ ∀o∈r,xm bs o.st=none∧ka bs o.st=none:=by
  intro r;induction r with
  | nil=>intro _ o ho;cases ho
  | cons x r ih=>
   exact Un
 intro a ha;rw[show nM 0 l.length=Array.replicate l.toArray.size false by simp[nM]];have m0:Mid P N Y l σ w bs os F (Array.replicate l.toArray.size false) a w (fun _=>undef) Y:=by
  have hno:∀i,¬Ran (Array.replicate l.toArray.size false) i:=fun i h=>by
   unfold Ran at h;by_cases hi:i<l.length<;>simp[hi] at h
  exact ⟨by simp,ha.defers,ha.size,fun t v h=>ha.get t v (ymz h).1,fun i d h=>absurd h (hno i),fun i d v _ _ h=>ha.get d v h,fun i h=>absurd h (hno i),Ext.refl _ _,hY,fun _ h=>h,hY,
   fun i h=>absurd h (hno i),fun b _ h=>absurd h (hno _),fun o ho=>⟨fun _=>(Kq hos o ho).2,fun h=>absurd h (hno _)⟩,fun o ho=>(Kq hos o ho).1,fun b _ c _ h=>absurd h (hno _)⟩
 refine nJ (l:=l) hrow hbx hwf (iP hdl) (fun o ho h=>by rw[(Kr hox o ho).1] at h;cases h) (fun o ho h=>by rw[(Kr hox o ho).2] at h;cases h) (Xy hos hox) hsteps ?_ _ _ _ _ _ _ ?_ m0
 · intro listed a w' vs X hall m;have hlen:∀i (o:Oper),l[i]? =some o→Ran listed i:=fun i o h=>hall i (List.getElem?_eq_some_iff.1 h).1;refine hend vs w' m.ext ?_ ?_ ?_ ?_ a ?_
   · exact Uw
   · exact Uv
   · have key:∀r:List Bx,(∀b∈r,b∈bs)→zox P σ l.toArray vs w w' r:=by
      intro r;induction r with
      | nil=>intro _;trivial
      | cons b r ih=>
       exact Ut
     exact key bs (fun _ h=>h)
   · exact Ux
   · refine ⟨m.defers,m.tmps,fun t v h=>?_⟩;exact Um
 · simp
end
section
variable {P:Program} {N:Nat} {Q:Exit→Act→World→Prop} {σ:Env} {w:World} {l:List Oper}
theorem BG {m:Nat} (hg:qK l m=true):∀(f:Nat) (ls:List Bool) (a:Act) (w:World),ls.length=m→ls.count false=f→
 (∀i,Ran ls.toArray i→ ∀j∈qg l.toArray i,Ran ls.toArray j)→
 wpAny P .any (l.take m).toArray (Exit.then (fun a w=>wpAny P .any l.toArray Q (l.length-m) (nM m l.length) a w) Q) f ls.toArray a w→
 wpAny P .any l.toArray Q (f+(l.length-m)) (ls++List.replicate (l.length-m) false).toArray a w:=by
 unfold qK at hg;simp only[Bool.and_eq_true] at hg
 obtain ⟨⟨⟨hml,hrow⟩,hgd⟩,ao3⟩:=hg;have hml:=Nat.le_of_ble_eq_true hml;have htk:∀i,i<m→(l.take m).toArray[i]? =l.toArray[i]? :=fun i hi=>by simp[List.getElem?_take,hi]
 have hget:∀(ls:List Bool) (i:Nat) (d:Bool),ls.length=m→i<m→(ls++List.replicate (l.length-m) false).toArray.getD i d=ls.toArray.getD i d:=by
  intro ls i d hl hi;simp[Array.getD_eq_getD_getElem?,List.getElem?_append,hl,hi]
 have UH:∀(ls:List Bool) (i:Nat),ls.length=m→m≤i→(ls++List.replicate (l.length-m) false).toArray.getD i false=false:=by
  intro ls i hl hi;have hni:¬i<m:=om;simp only[Array.getD_eq_getD_getElem?,List.getElem?_toArray,List.getElem?_append,hl,hni,if_false,List.getElem?_replicate]
  split<;>rfl
 have hfull:∀ls:List Bool,ls.length=m→(∀i,i<m→Ran ls.toArray i)→ls.count false=0:=by
  intro ls hl h;refine List.count_eq_zero.2 fun hf=>?_;obtain ⟨i,hi,he⟩:=List.getElem_of_mem hf;have:=h i om;unfold Ran at this;simp[hi,he] at this
 intro f;induction f with
 | zero=>
  intro ls a w hl hc hd h;have hall:ls=List.replicate m true:=by
   refine List.eq_replicate_iff.2 ⟨hl,fun b hb=>?_⟩;cases b with
   | true=>rfl
   | false=>exact absurd hb (List.count_eq_zero.1 hc)
  have h2:=h.2;rw[Nat.zero_add,hall];exact h2
 | succ f ih=>
  intro ls a w hl hc hd h;rw[Nat.succ_add];refine ⟨fun hr=>?_,fun i hi=>?_⟩
  · exfalso
    have hall:∀i,i<m→Ran ls.toArray i:=by
     intro i;induction i using Nat.strongRecOn with
     | _ i ihi=>
      intro him;rcases Classical.em (Ran ls.toArray i) with h' | h'
      · exact h'
      · exfalso
        have:i∈Region.ready .any l.toArray (ls++List.replicate (l.length-m) false).toArray:=by
         have hil:i<l.length:=om;refine mem_ready.2 ⟨?_,l[i],by simp[hil],fun e he hb=>?_⟩
         · rw[hget ls i true hl him];unfold Ran at h';have:i<ls.length:=om;simp[this] at h' ⊢
           exact h'
         · have hlt:=(Xr hrow (i:=i) (o:=l[i]) (by simp[List.getElem?_take,him,hil])).1 e.on (ybx (by simpa using he) hb);have hei:e.on<i:=om;rw[hget ls e.on false hl om];exact ihi e.on hei om
        rw[hr] at this;cases this
    have:=hfull ls hl hall;omega
  · obtain ⟨h0,o,ho,Xg⟩:=mem_ready.1 hi;rcases Nat.lt_or_ge i m with him | him
    · have hdl:∀j∈qg l.toArray i,Ran ls.toArray j:=by
       intro j hj;have ho':l[i]? =some o:=by simpa using ho
       unfold qg at hj;rw[ho] at hj;obtain ⟨e,he,hb,rfl⟩:=ylk hj;have hlt:=(Xr hrow (i:=i) (o:=o) (by simp[List.getElem?_take,him,ho'])).1 e.on (ybx he hb);have:=Xg e (by simpa using he) hb;rwa [hget ls e.on false hl om] at this
      rw[hget ls i true hl him] at h0;have hi1:i∈Region.ready .any (l.take m).toArray ls.toArray:=by
       refine mem_ready.2 ⟨h0,o,by rw[htk i him];exact ho,fun e he hb=>?_⟩;refine hdl e.on ?_;unfold qg;rw[ho];exact ybx (by simpa using he) hb
      have h1:=h.2 i hi1;have hset:((ls++List.replicate (l.length-m) false).toArray.setIfInBounds i true)=(ls.set i true++List.replicate (l.length-m) false).toArray:=by
       apply Array.toList_inj.1
       rw[Array.toList_setIfInBounds];simp[List.set_append,hl,him]
      have Kw:ls.toArray.setIfInBounds i true=(ls.set i true).toArray:=by
       apply Array.toList_inj.1
       rw[Array.toList_setIfInBounds]
      rw[Kw] at h1;rw[hset];have ao4:ls[i]? =some false:=by
       have hil:i<ls.length:=om;have e:ls[i]=false:=by simpa [hil] using h0
       simp[hil,e]
      have hK:∀a w,wpAny P .any (l.take m).toArray (Exit.then (fun a w=>wpAny P .any l.toArray Q (l.length-m) (nM m l.length) a w) Q) f (ls.set i true).toArray a w→
       wpAny P .any l.toArray Q (f+(l.length-m)) (ls.set i true++List.replicate (l.length-m) false).toArray a w:=by
       intro a w h;refine ih (ls.set i true) a w (by simpa using hl) (by have:=yuk ls i ao4;omega) ?_ h;have hup:∀j,Ran ls.toArray j→Ran (ls.set i true).toArray j:=by
        intro j hj;unfold Ran at hj ⊢;rw[←Kw];exact getD_set_true hj
       intro j hj k hk;rcases Classical.em (j=i) with rfl | hji
       · exact hup k (hdl k hk)
       · refine hup k (hd j ?_ k hk);unfold Ran at hj ⊢;rw[←Kw,getD_set_ne false (Ne.symm hji)] at hj;exact hj
      unfold wpOp at h1 ⊢;rw[htk i him,ho] at h1;rw[ho];simp only[] at h1 ⊢
      have hy:Region.wanted o (yielded (l.take m).toArray a.tmps)=Region.wanted o (yielded l.toArray a.tmps):=by
       unfold Region.wanted;cases hgo:o.guard with
       | none=>rfl
       | some gw=>
        obtain ⟨g,want⟩:=gw;have hmem:o∈l.take m:=by
         have ho':l[i]? =some o:=by simpa using ho
         exact List.mem_of_getElem? (i:=i) (by simp[List.getElem?_take,him,ho'])
        have:=(List.all_eq_true.1 hgd) o hmem;rw[hgo] at this;have hgm:g<m:=Nat.le_of_ble_eq_true this;simp only[yielded,htk g hgm]
      rw[←hy];split
      · rename_i hw
        rw[if_pos hw] at h1;rcases h1 with h1 | ⟨h1,h2⟩
        · exact .inl (Gu hK h1)
        · exact .inr ⟨h1,h2⟩
      · rename_i hw
        rw[if_neg hw] at h1;exact hK _ _ h1
    · exfalso
      have hil:i<l.length:=by simpa using (Array.getElem?_eq_some_iff.1 ho).1
      have hdl:∀j∈qg l.toArray i,(ls++List.replicate (l.length-m) false).toArray.getD j false=true:=by
       intro j hj;unfold qg at hj;rw[ho] at hj;exact J4
      have hc2:=(List.all_eq_true.1 ao3) (i-m) (List.mem_range.2 om);rw[show m+(i-m)=i from om,Bool.or_eq_true] at hc2;rcases hc2 with hc2 | hc2
      · obtain ⟨j,hj,hmj⟩:=List.any_eq_true.1 hc2;have:=hdl j hj;rw[UH ls j hl (Nat.le_of_ble_eq_true hmj)] at this;cases this
      · have hall:=BF (L:=fun j=>(Ran ls.toArray j)) hd m _ hc2 (fun j hj=>by
         have:=hdl j hj;rcases Nat.lt_or_ge j m with h' | h'
         · rwa [hget ls j false hl h'] at this
         · rw[UH ls j hl h'] at this;cases this)
        have:=hfull ls hl hall;omega
theorem qL (m:Nat) (hg:qK l m=true) (h:AK P N 0 (l.take m) (Exit.then (fun a w=>wpAny P .any l.toArray Q (l.length-m) (nM m l.length) a w) Q) σ w):AK P N 0 l Q σ w:=fun a ha=>by
 have hml:m≤l.length:=by
  unfold qK at hg;simp only[Bool.and_eq_true] at hg
  exact Nat.le_of_ble_eq_true hg.1.1.1
 have hlen:(l.take m).length=m:=by simp[hml]
 have h1:=h a ha;have:=BG hg m (List.replicate m false) a w (by simp) (by simp) (fun i hi=>by
  unfold Ran at hi;by_cases h':i<m<;>simp[h'] at hi) (by
   unfold nM at h1;rw[hlen] at h1;simpa [nM] using h1)
 rw[List.replicate_append_replicate] at this;have e:m+(l.length-m)=l.length:=om;rw[e] at this;unfold nM;simpa using this
theorem Ky {m:Nat} (h:AK P N m l Q σ w):EW N (Exit.then (fun a w=>wpAny P .any l.toArray Q (l.length-m) (nM m l.length) a w) Q) .normal σ w:=fun a ha=>h a ha
end
section
variable {P:Program} {N:Nat} {ops:Array Oper} {Q:Exit→Act→World→Prop} {σ:Env} {w:World} {ty:TypeId} {pos:String} {af:Array Edge} {dst:Option Nat} {Post:Value→World→Prop}
theorem zwx {T e:TypeId} {x:Operand} {g n s:Nat} (hd:P.underlying T=some (.array n e)) (hs:yv P e s) (hx:ev σ x=some (.pointer (some ⟨g,0,none⟩)))
 (k:Post (.slice (some ⟨g,0,none⟩) n n) w):OW P N ops Q ⟨dst,.slice T x none none none,ty,pos,af,none⟩ σ w Post:=
 zt (fun ρ ha=>by
  simp only[execOp,Instr.sliceAt,Option.map_none,ha hx,Sem.run_bind,run_underlying hd,Result.andThen_ok,Instr.sureAddr,Instr.sliceBounds,Sem.run_pure,ja hs,Option.isSome_none,Bool.false_eq_true,if_false]
  simp[Addr.add]) k
theorem nN {T e:TypeId} {x y:Operand} {g n c s h:Nat} {q:IntKind} {m:Int} (hd:P.underlying T=some (.slice e)) (hs:yv P e s) (hx:ev σ x=some (.slice (some ⟨g,0,none⟩) n c)) (hy:ev σ y=some (.int q m)) (hm:m=(h:Int)) (hc:h≤c)
 (k:Post (.slice (some ⟨g,0,none⟩) h c) w):OW P N ops Q ⟨dst,.slice T x none (some y) none,ty,pos,af,none⟩ σ w Post:=
 uf (l:=0) (h:=h) hd hs hx rfl ⟨q,by rw[hy,hm]⟩ (Nat.zero_le _) hc (by
  rw[Nat.sub_zero,Nat.sub_zero,Nat.zero_mul];split
  · exact k
  · exact k)
end
section
variable {P:Program} {N:Nat} {ops:Array Oper} {Q:Exit→Act→World→Prop} {σ:Env} {w:World} {ty:TypeId} {pos:String} {af:Array Edge} {dst:Option Nat} {Post:Value→World→Prop}
theorem jA {T U:TypeId} {x:Operand} {b:Nat} {q:IntKind} {z:Int} (hd:P.underlying U=some (.int q)) (hs:(P.underlying T).isSome=true) (hx:ev σ x=some (.float .f64 b)) (hz:floatToIntVal .f64 b q=some z) (k:Post (.int q z) w):OW P N ops Q ⟨dst,.convert T U x,ty,pos,af,none⟩ σ w Post:=
 zt (fun ρ ha=>by
  have h:=run_convert_float_int (P:=P) w T U .f64 q b z hs hd hz;simp only[execOp,ha hx,Sem.run_bind,h,Result.andThen_ok,Sem.run_pure]) k
theorem KJ (b:Nat):(FloatKind.f64.decode b).isNaN=aY b:=by
 show (Ieee.double.read b).isNaN=aY b
 rcases Nat.lt_trichotomy (rg b) 9218868437227405312 with h | h | h
 · rw[xw h,aY,decide_eq_false om];rfl
 · rw[zlz h,aY,decide_eq_false om];rfl
 · rw[iX h,aY,decide_eq_true h];rfl
structure ax2 (r:Nat) (w w':World):Prop where
 isn:aY r=true
 ext:Ext No w w'
 lt:r<18446744073709551616
end
section
variable {P:Program} {N:Nat} {ops:Array Oper} {Q:Exit→Act→World→Prop} {σ:Env} {w:World} {ty:TypeId} {pos:String} {af:Array Edge} {dst:Option Nat} {Post:Value→World→Prop}
end
inductive Ends {α:Type} (done:α→Bool) (step:α→α):α→α→Prop
 | stop {s:α}:done s=true→Ends done step s s
 | next {s t:α}:done s=false→Ends done step (step s) t→Ends done step s t
noncomputable def xe {α:Type} (done:α→Bool) (step:α→α) (s:α):α:=@Classical.epsilon α ⟨s⟩ (Ends done step s)
section
variable {P:Program} {Q:Exit→Act→World→Prop} {a:Act} {w:World} {body:Code}
def Qz (P:Program) (body:Code) (Q:Exit→Act→World→Prop):Nat→Exit→Act→World→Prop
 | 0,.goto l,a,w=>findLabel body l=none∧Q (.goto l) a w
 | n+1,.goto l,a,w=>(findLabel body l=none∧Q (.goto l) a w)∨ ∃rest,findLabel body l=some rest∧rest.wp P (Qz P body Q n) a w
 | _,e,a,w=>Q e a w
end
section
variable {P:Program} {N:Nat} {Q:Exit→Act→World→Prop} {σ:Env} {w:World} {body:Code} {n:Nat}
theorem QA {l:Nat} (h:EW N Q (.goto l) σ w):CW P N (.goto l) Q σ w:=fun a ha=>wp_goto (h a ha)
theorem qP {K:Act→World→Prop} {l:Nat} (h:EW N Q (.goto l) σ w):EW N (Exit.then K Q) (.goto l) σ w:=h
end
section
variable {P:Program} {N:Nat} {ops:Array Oper} {Q:Exit→Act→World→Prop} {σ:Env} {w:World} {ty:TypeId} {pos:String} {af:Array Edge} {dst:Option Nat} {Post:Value→World→Prop}
theorem ysk {T T':TypeId} {x y:Operand} {g o:Nat} {cs cs':Array Value} {v:Value} (hs:yv P T 1) (hx:ev σ x=some (.pointer (some ⟨g,o,none⟩))) (hy:ev σ y=some v) (hb:aA w g T' cs) (hv:v.cells= #[v]) (h1:oa [v]=true) (hle:o<cs.size) (he:cs.setIfInBounds o v=cs')
 (k:∀w',aA w' g T' cs'→Ext (ah [some g]) w w'→Post undef w'):OW P N ops Q ⟨dst,.store T x y,ty,pos,af,none⟩ σ w Post:=by
 refine qd hs hx hy hb (by rw[hv];rfl) (by rw[hv];exact h1) om (fun w' hb' he'=>k w' ?_ he');rw[hv] at hb';rw[←he];exact hb'
end
section
variable {P:Program} {N:Nat} {ops:Array Oper} {Q:Exit→Act→World→Prop} {σ:Env} {w:World} {ty:TypeId} {pos:String} {af:Array Edge} {dst:Option Nat} {Post:Value→World→Prop}
theorem ou {x i:Operand} {T e:TypeId} {g n c:Nat} {q:IntKind} {m:Int} {j:Nat} (hd:P.underlying T=some (.slice e)) (hs:yv P e 1) (hx:ev σ x=some (.slice (some ⟨g,0,none⟩) n c)) (hi:ev σ i=some (.int q m)) (hm:m=(j:Int)) (hj:j<n)
 (k:Post (.pointer (some ⟨g,j,none⟩)) w):OW P N ops Q ⟨dst,.indexAddr T x i,ty,pos,af,none⟩ σ w Post:=
 ylz hd hs hx hi hm hj (by rw[Nat.mul_one,Nat.zero_add];exact k)
end
section
variable {P:Program} {N:Nat} {ops:Array Oper} {Q:Exit→Act→World→Prop} {σ:Env} {w:World} {ty:TypeId} {pos:String} {af:Array Edge} {dst:Option Nat} {Post:Value→World→Prop}
end
section
variable {P:Program} {N:Nat} {ops:Array Oper} {Q:Exit→Act→World→Prop} {σ:Env} {w:World} {ty:TypeId} {pos:String} {af:Array Edge} {dst:Option Nat} {Post:Value→World→Prop}
theorem yjv:∀(l:List Value) (cs:Array Value) (o j:Nat),(putCells cs o l)[j]? =if o≤j∧j<o+l.length∧j<cs.size then l[j-o]? else cs[j]?
 | [],cs,o,j=>by
  simp only[putCells,List.length_nil,Nat.add_zero]
  rw[if_neg om]
 | v::l,cs,o,j=>by
  rw[putCells,yjv l];simp only[Array.size_setIfInBounds,List.length_cons]
  by_cases h1:j=o
  · subst h1;rw[if_neg om];by_cases h2:j<cs.size
    · rw[if_pos ⟨Nat.le_refl _,om,h2⟩,Nat.sub_self];simp[h2]
    · rw[if_neg om];simp[h2]
  · by_cases h2:o+1≤j∧j<o+1+l.length∧j<cs.size
    · rw[if_pos h2,if_pos om,show j-o=(j-(o+1))+1 from om];simp
    · rw[if_neg h2,if_neg om,Array.getElem?_setIfInBounds_ne om]
theorem mQ (cs:Array Value) (l:List Value) (h:l.length=cs.size):putCells cs 0 l=l.toArray:=by
 apply Array.ext_getElem?
 intro j;rw[yjv];by_cases hj:j<cs.size
 · rw[if_pos ⟨Nat.zero_le _,om,hj⟩];simp
 · rw[if_neg om,Array.getElem?_eq_none om,List.getElem?_toArray,List.getElem?_eq_none om]
theorem qz {T T':TypeId} {x y:Operand} {g:Nat} {cs:Array Value} {v:Value} {n:Nat} (hs:yv P T n) (hx:ev σ x=some (.pointer (some ⟨g,0,none⟩))) (hy:ev σ y=some v) (hb:aA w g T' cs) (hn:v.cells.size=n) (h1:oa v.cells.toList=true) (hle:n=cs.size)
 (k:∀w',aA w' g T' v.cells→Ext (ah [some g]) w w'→Post undef w'):OW P N ops Q ⟨dst,.store T x y,ty,pos,af,none⟩ σ w Post:=
 qd hs hx hy hb hn h1 om (fun w' hb' he=>k w' (by
  rw[mQ _ _ (by rw[Array.length_toList];omega)] at hb';simpa using hb') he)
theorem zwz {T:TypeId} {d:TypeDesc} {x:Operand} {g o:Nat} {cs:Array Value} {n:Nat} (hd:P.underlying T=some d) (hp:TypeDesc.plain d=false) (hs:yv P T n) (hx:ev σ x=some (.pointer (some ⟨g,o,none⟩))) (hn:cs.size=n)
 (hc:∀j v,cs[j]? =some v→w.cell? ⟨g,o+j,none⟩=some v) (k:Post (.agg cs) w):OW P N ops Q ⟨dst,.load T x,ty,pos,af,none⟩ σ w Post:=
 iG hd hp hs hx hn (fun j v hj=>by rw[Addr.add_eq];exact hc j v hj) k
end
class mJ (P:Program) (T:TypeId) (d:outParam TypeDesc):Prop where h:P.underlying T=some d
class Szc (P:Program) (T:TypeId) (n:outParam Nat):Prop where h:yv P T n
class PL (P:Program) (T:TypeId) (l:outParam (List (Nat×Nat))):Prop where h:JQ P T l
theorem uJ {α β:Type} {g:α→Option β}:∀ {l:List α} {pl:List β} {i:Nat} {y:β},l.mapM g=some pl→pl[i]? =some y→ ∃x,l[i]? =some x∧g x=some y
 | [],pl,i,y,h,hi=>by
  rw[List.mapM_nil] at h;cases h
  cases hi
 | a::l,pl,i,y,h,hi=>by
  rw[List.mapM_cons] at h;cases ha:g a with
  | none=>rw[ha] at h;cases h
  | some b=>
   cases hl:l.mapM g with
   | none=>rw[ha,hl] at h;cases h
   | some bs=>
    rw[ha,hl] at h;cases h
    cases i with
    | zero=>exact ⟨a,rfl,ha.trans hi⟩
    | succ i=>exact uJ (i:=i) hl hi
theorem Gz {P:Program} {N:Nat} {ops:Array Oper} {Q:Exit→Act→World→Prop} {dst:Option Nat} {ty:TypeId} {pos:String} {af:Array Edge} {σ:Env} {w:World} {Post:Value→World→Prop} {S:TypeId} {x:Operand} {i g o n q:Nat} {pl:List (Nat×Nat)} (hp:JQ P S pl) (hf:pl[i]? =some (q,n)) (hn:n≠0) (hx:ev σ x=some (.pointer (some ⟨g,o,none⟩)))
 (k:Post (.pointer (some ⟨g,o+q,none⟩)) w):OW P N ops Q ⟨dst,.fieldAddr S x i,ty,pos,af,none⟩ σ w Post:=by
 obtain ⟨fs,hd,hm⟩:=hp;obtain ⟨f,h1,h2⟩:=uJ hm hf;cases hi:P.info? f.type with
 | none=>rw[hi] at h2;cases h2
 | some j=>
  rw[hi] at h2;cases h2
  exact qA hd ((Array.getElem?_toList ..).symm.trans h1) (show (P.info? f.type).map (·.size)=some j.size by rw[hi];rfl) hn hx k
theorem bfd {P:Prop} (h:P:=by
 first | assumption | (have H:=(HF.on E).here;repeat first | exact H.2 | replace H:=H.1)):P:=h
def U8 (p q:IntKind):Bool:=if p=q then true else false
def U9 (o:BinOp) (m n:Int):Option Value:=match o with
 | .eql=>some (.bool (m==n))
 | .neq=>some (.bool (m !=n))
 | .lss=>some (.bool (decide (m<n)))
 | .leq=>some (.bool (decide (m≤n)))
 | .gtr=>some (.bool (decide (n<m)))
 | .geq=>some (.bool (decide (n≤m)))
 | _=>none
def Va (o:BinOp) (m n:ByteArray):Option Value:=match o with
 | .eql=>some (.bool (m.toList==n.toList))
 | .neq=>some (.bool (!(m.toList==n.toList)))
 | _=>none
def uK (σ:Env):Op→Option Value
 | .move x=>ev σ x
 | .assign x=>ev σ x
 | .pick c x y=>match ev σ c with
  | some (.bool true)=>ev σ x
  | some (.bool false)=>ev σ y
  | _=>none
 | .extract x i=>match ev σ x with
  | some (.tuple vs)=>vs[i]?
  | _=>none
 | .nilCheck x=>match ev σ x with
  | some (.pointer (some a))=>some (.pointer (some a))
  | _=>none
 | .unOp .not _ x=>match ev σ x with
  | some (.bool b)=>some (.bool (!b))
  | _=>none
 | .binOp o _ x y _=>match ev σ x,ev σ y with
  | some (.int q m),some (.int q' n)=>match U8 q q' with
   | true=>U9 o m n
   | false=>none
  | some (.string m),some (.string n)=>Va o m n
  | _,_=>none
 | _=>none
def KL (ops:Array Oper) (σ:Env) (op:Op):Option (Nat×Bool)→Option Value
 | none=>uK σ op
 | some (j,b)=>match gv ops σ j with
  | some v=>match isB v with
   | some true=>match b with
    | true=>uK σ op
    | false=>some undef
   | some false=>match b with
    | true=>some undef
    | false=>uK σ op
   | none=>some undef
  | none=>none
section
variable {P:Program} {N:Nat} {ops:Array Oper} {Q:Exit→Act→World→Prop} {dst:Option Nat} {ty:TypeId} {pos:String} {af:Array Edge} {σ:Env} {w:World} {Post:Value→World→Prop}
theorem qQ {op:Op} {v:Value} (h:uK σ op=some v) (k:Post v w):OW P N ops Q ⟨dst,op,ty,pos,af,none⟩ σ w Post:=by
 unfold uK at h;split at h
 · exact ykk h k
 · exact ytz h k
 · split at h
   · exact Kg (by assumption) h k
   · exact Kh (by assumption) h k
   · cases h
 · split at h
   · exact xf (by assumption) h k
   · cases h
 · split at h
   · cases h;exact tZ (by assumption) k
   · cases h
 · split at h
   · cases h;exact Xi (by assumption) k
   · cases h
 · rename_i o T x y U
   split at h
   · rename_i q m q' n hx hy
     unfold U8 at h;by_cases hq:q=q'
     · subst hq;rw[if_pos rfl] at h;cases o<;>simp only[U9] at h<;>first | (cases h;done) | (cases h;first | exact Bn hx hy k | exact Xj hx hy k | exact Xk hx hy k | exact Xl hx hy k | exact Ki hx hy k | exact Xm hx hy k)
     · rw[if_neg hq] at h;cases h
   · rename_i m n hx hy
     cases o<;>simp only[Va] at h<;>first | (cases h;done) | (cases h;first | exact qC hx hy k | exact zzv hx hy k)
   · cases h
 · cases h
theorem qR {j:Nat} {v:Value} {b:Bool} (h:gv ops σ j=some v) (hb:isB v=some b):gd ops σ j=some b:=by
 unfold gv at h;unfold gd;cases ho:(ops[j]?).bind (·.dst) with
 | none=>rw[ho] at h;cases h
 | some t=>
  simp only[ho] at h ⊢
  rw[h];cases v<;>first | (cases hb;done) | (cases hb;rfl)
theorem uL {op:Op} {g:Option (Nat×Bool)} {v:Value} (h:KL ops σ op g=some v) (k:Post v w):OW P N ops Q ⟨dst,op,ty,pos,af,g⟩ σ w Post:=by
 cases g with
 | none=>exact qQ h k
 | some jb=>
  obtain ⟨j,b⟩:=jb;unfold KL at h;dsimp only at h
  cases hu:gv ops σ j with
  | none=>rw[hu] at h;cases h
  | some u=>
   rw[hu] at h;cases hb:isB u with
   | none=>simp only[hb] at h;cases h;exact Qf hu hb k
   | some c=>
    simp only[hb] at h
    cases c<;>cases b
    · exact vt (qR hu hb) (qQ h k)
    · cases h;exact Ke (qR hu hb) k
    · cases h;exact Ke (qR hu hb) k
    · exact vt (qR hu hb) (qQ h k)
theorem QB {d:Nat} {op:Op} {g:Option (Nat×Bool)} {rest:List Oper} {v:Value} (h:KL ops σ op g=some v) (hd:Nat.blt d N=true) (k:RS P N ops Q rest ((d,v)::σ) w):RS P N ops Q (⟨some d,op,ty,pos,af,g⟩::rest) σ w:=za hd (uL h k)
theorem QC {fn:Func} {a:Tmp} {v:Value} {R:Ending→World→Prop} (hr:fn.results= #[.tmp a]) (ha:lk a σ=some v) (k:R (.returned (Bv [v])) w):EW N (bodyPost P fn R) .ret σ w:=oq (rs:=[.tmp a]) (vs:=[v]) hr ⟨ha,trivial⟩ k
theorem QD {fn:Func} {a b:Tmp} {v u:Value} {R:Ending→World→Prop} (hr:fn.results= #[.tmp a,.tmp b]) (ha:lk a σ=some v) (hb:lk b σ=some u) (k:R (.returned (Bv [v,u])) w):EW N (bodyPost P fn R) .ret σ w:=oq (rs:=[.tmp a,.tmp b]) (vs:=[v,u]) hr ⟨ha,hb,trivial⟩ k
theorem QE {fn:Func} {a b:Tmp} {T T':TypeId} {d:TypeDesc} {g n:Nat} {cs:Array Value} {u:Value} {R:Ending→World→Prop} (hr:fn.results= #[.cell a T,.tmp b]) (ha:lk a σ=some (.pointer (some ⟨g,0,none⟩))) (hd:P.underlying T=some d) (hp:TypeDesc.plain d=false) (hs:yv P T n) (hk:aA w g T' cs) (hn:cs.size=n) (hb:lk b σ=some u) (k:R (.returned (Bv [.agg cs,u])) w):EW N (bodyPost P fn R) .ret σ w:=oq (rs:=[.cell a T,.tmp b]) (vs:=[.agg cs,u]) hr ⟨⟨_,ha,zzq hd hp hs hk hn⟩,hb,trivial⟩ k
theorem qw {t:Tmp} {x y:Code} {b:Bool} (hc:lk t σ=some (.bool b)) (ht:b=true→CW P N x Q ((t,.bool true)::σ) w) (hf:b=false→CW P N y Q ((t,.bool false)::σ) w):CW P N (.cond (.tmp t) x y) Q σ w:=zg hc (fun h=>zy t _ hc (congrArg Value.bool h) (ht h)) (fun h=>zy t _ hc (congrArg Value.bool h) (hf h))
def OWD (P:Program) (N:Nat) (ops:Array Oper) (Q:Exit→Act→World→Prop) (o:Oper) (τ:Env) (w:World) (Post:Value→World→Prop) (F:Nat→Fx) (vs:Nat→Value) (X:Nat→Prop) (l:List Nat):Prop:=(∀j∈l,Left X w (F j) (vs j))→OW P N ops Q o τ w Post
theorem KM {o:Oper} {F:Nat→Fx} {vs:Nat→Value} {X:Nat→Prop} {l:List Nat} {τ:Env} (h:∀j∈l,Left X w (F j) (vs j)) (k:OWD P N ops Q o τ w Post F vs X l):OW P N ops Q o τ w Post:=k h
theorem Ey {o:Oper} {F:Nat→Fx} {vs:Nat→Value} {X:Nat→Prop} {τ:Env} (k:OW P N ops Q o τ w Post):OWD P N ops Q o τ w Post F vs X []:=fun _=>k
theorem uM {o:Oper} {F:Nat→Fx} {vs:Nat→Value} {X:Nat→Prop} {l:List Nat} {j:Nat} {τ:Env} (k:OWD P N ops Q o τ w Post F vs X l):OWD P N ops Q o τ w Post F vs X (j::l):=fun h=>k fun i hi=>h i (List.mem_cons_of_mem _ hi)
theorem uN {o:Oper} {F:Nat→Fx} {vs:Nat→Value} {X:Nat→Prop} {l:List Nat} {j:Nat} {τ:Env} {u:Value} {t:Tmp} (he:F j=Fx.of u) (_:ug ops j=some t) (hl:lk t τ=some (vs j)) (k:OWD P N ops Q o ((t,u)::τ) w Post F vs X l):OWD P N ops Q o τ w Post F vs X (j::l):=fun h=>by
 have hj:=h j (List.mem_cons_self ..);rw[he] at hj;obtain ⟨_,e,_⟩:=hj;exact jc t u hl e (k fun i hi=>h i (List.mem_cons_of_mem _ hi))
theorem Known.all {bs:List Bx} {os:List Ox} {F:Nat→Fx} {w0:World} {vs:Nat→Value} {X:Nat→Prop} {i:Nat} (K:Known ops bs os F w0 vs X w i):∀j∈(qg ops i).filter fun j=>(xm bs j).isNone&&(ka bs j).isNone,Left X w (F j) (vs j):=fun j hj=>by
 obtain ⟨h1,h2⟩:=List.mem_filter.1 hj;rw[Bool.and_eq_true,Option.isNone_iff_eq_none,Option.isNone_iff_eq_none] at h2;exact K.2.2 j h1 h2.1 h2.2
@[reducible] def aD (w:World) (v:Value) (e:Ending) (w':World):Prop:=e= .returned v∧Below w.heap.size w w'
theorem wk0 (w:World):Per (No) w (fun _=>True)∧Ext No w w∧(∀q9,(No) q9→(No) q9∨w.heap.size≤q9)∧Ext No w w:=⟨Per.dS,Ext.refl _ _,fun _ h=>Or.inl h,Ext.refl _ _⟩
theorem frz {Y:Nat→Prop} {F:World→Prop} {w0 a w':World} {g:Nat} {T:TypeId} {cs:Array Value} (HF:Per No a F) (LW:Ext Y w0 a) (E:Ext No a w) (X:∀i,No i→Y i∨w0.heap.size≤i) (B:aA w' g T cs) (e:Ext No w w'):Per No w' (fun b=>F b∧aA b g T cs)∧Ext Y w0 w'∧Ext No w' w':=⟨(HF.on (E.trans e)).and (Per.aQ B aj.nil),LW.step (E.trans e) X,Ext.refl _ _⟩
theorem GA {l:List (Option Nat)} {Y:Nat→Prop} {F:World→Prop} {w0 a w':World} {g:Nat} (HF:Per (ah l) a F) (LW:Ext Y w0 a) (E:Ext (ah l) a w) (X:∀i,ah l i→Y i∨w0.heap.size≤i) (e:Ext No w w') (G:w.heap.size≤g):a.heap.size≤g∧Per (ah (some g::l)) a F∧Ext (ah (some g::l)) a w'∧ ∀k,ah (some g::l) k→Y k∨w0.heap.size≤k:=by
 have h:=Nat.le_trans E.size G;exact ⟨h,HF.cons (zf h),(E.trans e.no).cons (some g),ah.grow X (fun k q=>Or.inr (Nat.le_trans LW.size ((zf h) k q)))⟩
theorem dL {X Y Z:Nat→Prop} {F G:World→Prop} {w0 a:World} (HF:Per X a F) (LW:Ext Z w0 a) (E:Ext X a w) (XL:∀i,X i→Z i∨w0.heap.size≤i) (SB:∀i,Y i→X i) (f:Per Y w G):Per Y w (fun b=>F b∧G b)∧Ext Z w0 w∧(∀i,Y i→Z i∨w0.heap.size≤i)∧Ext Y w w:=⟨((HF.on E).less SB).and f,LW.step E XL,fun k h=>XL k (SB k h),Ext.refl _ _⟩
theorem qU {X Z:Nat→Prop} {F G:World→Prop} {w0 a:World} (HF:Per X a F) (LW:Ext Z w0 a) (E:Ext X a w) (XL:∀i,X i→Z i∨w0.heap.size≤i) (f:Per X w G):Per X w (fun b=>F b∧G b)∧Ext Z w0 w∧Ext X w w:=⟨(HF.on E).and f,LW.step E XL,Ext.refl _ _⟩
def XM (ops:Array Oper) (σ:Env):Option (Nat×Bool)→Bool
 | none=>true
 | some (j,b)=>match gd ops σ j with
  | some true=>b
  | some false=>!b
  | none=>false
theorem jB {op:Op} {g:Option (Nat×Bool)} (hg:XM ops σ g=true) (h:OW P N ops Q ⟨dst,op,ty,pos,af,none⟩ σ w Post):OW P N ops Q ⟨dst,op,ty,pos,af,g⟩ σ w Post:=by
 cases g with
 | none=>exact h
 | some jb=>
  obtain ⟨j,b⟩:=jb;unfold XM at hg;dsimp only at hg
  cases hd:gd ops σ j with
  | none=>rw[hd] at hg;cases hg
  | some c=>
   rw[hd] at hg;refine vt ?_ h;rw[hd];cases c<;>cases b<;>first | rfl | cases hg
section
variable {d:Nat} {f:FuncId} {xs:List Operand} {ts:Array TypeId} {args:List Value} {PN:Option (Nat×Bool)} {rest:List Oper} {X Y:Nat→Prop} {F:World→Prop} {w0 a:World}
theorem zb {v:Value} (hf:zz P f) (h:Calls P f args.toArray w fun e w'=>e= .returned v∧Below w.heap.size w w') (E:Ext X a w) (k:∀w',Ext X a w'→RS P N ops Q rest ((d,v)::σ) w') (hd:Nat.blt d N=true:=by exact rfl) (ha:evs σ xs=some args:=by exact rfl) (hg:XM ops σ PN=true:=by exact rfl):RS P N ops Q (⟨some d,.call ⟨.value (.func f),xs.toArray,ts⟩,ty,pos,af,PN⟩::rest) σ w:=za hd (jB hg (zc hf ha (h.mono fun _ w' ⟨e,hb⟩=>⟨v,e,k w' (Qh E hb)⟩)))
theorem vr {v:Value} {g:Nat} {T:TypeId} {cs:Array Value} (hf:zz P f) (h:Calls P f args.toArray w fun e w'=>e= .returned v∧Below w.heap.size w w') (E:Ext X a w) (B:aA w g T cs) (k:∀w',Ext X a w'→aA w' g T cs→RS P N ops Q rest ((d,v)::σ) w') (hd:Nat.blt d N=true:=by exact rfl) (ha:evs σ xs=some args:=by exact rfl) (hg:XM ops σ PN=true:=by exact rfl):RS P N ops Q (⟨some d,.call ⟨.value (.func f),xs.toArray,ts⟩,ty,pos,af,PN⟩::rest) σ w:=za hd (jB hg (zc hf ha (h.mono fun _ w' ⟨e,hb⟩=>⟨v,e,k w' (Qh E hb) (B.aH (Ext.of_below hb No) aj.nil)⟩)))
theorem zlx {v:Option Addr→Nat→Value} {O G:Option Addr→Nat→World→Prop} (hf:zz P f) (h:Calls P f args.toArray w fun e w'=>∃A c,e= .returned (v A c)∧O A c w'∧Below w.heap.size w w') (HF:Per X a F) (LW:Ext Y w0 a) (E:Ext X a w) (XL:∀i,X i→Y i∨w0.heap.size≤i) (p:∀ {A c w'},O A c w'→Per X w' (G A c)) (k:∀A c w',Per X w' (fun b=>F b∧G A c b)→Ext Y w0 w'→Ext X w' w'→RS P N ops Q rest ((d,v A c)::σ) w') (hd:Nat.blt d N=true:=by exact rfl) (ha:evs σ xs=some args:=by exact rfl) (hg:XM ops σ PN=true:=by exact rfl):RS P N ops Q (⟨some d,.call ⟨.value (.func f),xs.toArray,ts⟩,ty,pos,af,PN⟩::rest) σ w:=za hd (jB hg (zc hf ha (h.mono fun _ w' ⟨A,c,e,o,hb⟩=>⟨v A c,e,k A c w' ((HF.on (Qh E hb)).and (p o)) (LW.step (Qh E hb) XL) (Ext.refl _ _)⟩)))
theorem yjq {v:Option Addr→Nat→Value} {O G:Option Addr→Nat→World→Prop} {g:Nat} {T:TypeId} {cs:Array Value} (hf:zz P f) (h:Calls P f args.toArray w fun e w'=>∃A c,e= .returned (v A c)∧O A c w'∧Below w.heap.size w w') (HF:Per X a F) (LW:Ext Y w0 a) (E:Ext X a w) (XL:∀i,X i→Y i∨w0.heap.size≤i) (p:∀ {A c w'},O A c w'→Per X w' (G A c)) (B:aA w g T cs) (k:∀A c w',Per X w' (fun b=>F b∧G A c b)→Ext Y w0 w'→Ext X w' w'→aA w' g T cs→RS P N ops Q rest ((d,v A c)::σ) w') (hd:Nat.blt d N=true:=by exact rfl) (ha:evs σ xs=some args:=by exact rfl) (hg:XM ops σ PN=true:=by exact rfl):RS P N ops Q (⟨some d,.call ⟨.value (.func f),xs.toArray,ts⟩,ty,pos,af,PN⟩::rest) σ w:=za hd (jB hg (zc hf ha (h.mono fun _ w' ⟨A,c,e,o,hb⟩=>⟨v A c,e,k A c w' ((HF.on (Qh E hb)).and (p o)) (LW.step (Qh E hb) XL) (Ext.refl _ _) (B.aH (Ext.of_below hb No) aj.nil)⟩)))
theorem uO {v:Option Addr→Nat→Value} {O G:Option Addr→Nat→World→Prop} {g g':Nat} {T T':TypeId} {cs cs':Array Value} (hf:zz P f) (h:Calls P f args.toArray w fun e w'=>∃A c,e= .returned (v A c)∧O A c w'∧Below w.heap.size w w') (HF:Per X a F) (LW:Ext Y w0 a) (E:Ext X a w) (XL:∀i,X i→Y i∨w0.heap.size≤i) (p:∀ {A c w'},O A c w'→Per X w' (G A c)) (B:aA w g T cs) (B':aA w g' T' cs') (k:∀A c w',Per X w' (fun b=>F b∧G A c b)→Ext Y w0 w'→Ext X w' w'→aA w' g T cs→aA w' g' T' cs'→RS P N ops Q rest ((d,v A c)::σ) w') (hd:Nat.blt d N=true:=by exact rfl) (ha:evs σ xs=some args:=by exact rfl) (hg:XM ops σ PN=true:=by exact rfl):RS P N ops Q (⟨some d,.call ⟨.value (.func f),xs.toArray,ts⟩,ty,pos,af,PN⟩::rest) σ w:=za hd (jB hg (zc hf ha (h.mono fun _ w' ⟨A,c,e,o,hb⟩=>⟨v A c,e,k A c w' ((HF.on (Qh E hb)).and (p o)) (LW.step (Qh E hb) XL) (Ext.refl _ _) (B.aH (Ext.of_below hb No) aj.nil) (B'.aH (Ext.of_below hb No) aj.nil)⟩)))
theorem zl {T:TypeId} {x:Operand} {v:Value} (HF:Per No a F) (LW:Ext Y w0 a) (E:Ext No a w) (XL:∀i,No i→Y i∨w0.heap.size≤i) (k:∀g w',Per No w' (fun b=>F b∧aA b g T v.cells)→Ext Y w0 w'→Ext No w' w'→RS P N ops Q rest ((d,.pointer (some ⟨g,0,none⟩))::σ) w') (hd:Nat.blt d N=true:=by exact rfl) (hx:ev σ x=some v:=by exact rfl):RS P N ops Q (⟨some d,.box T x,ty,pos,af,none⟩::rest) σ w:=za hd (yax hx fun g w' B e _=>by
 obtain ⟨h1,h2,h3⟩:=frz HF LW E XL B e;exact k g w' h1 h2 h3)
theorem km {l:List (Option Nat)} {T:TypeId} {z:Value} (hz:kj P T z) (HF:Per (ah l) a F) (LW:Ext Y w0 a) (E:Ext (ah l) a w) (XL:∀i,ah l i→Y i∨w0.heap.size≤i) (k:∀g w',aA w' g T z.cells→a.heap.size≤g→Per (ah (some g::l)) a F→Ext (ah (some g::l)) a w'→(∀i,ah (some g::l) i→Y i∨w0.heap.size≤i)→RS P N ops Q rest ((d,.pointer (some ⟨g,0,none⟩))::σ) w') (hd:Nat.blt d N=true:=by exact rfl):RS P N ops Q (⟨some d,.alloc T,ty,pos,af,none⟩::rest) σ w:=za hd (xi hz fun g w' B e G=>by
 obtain ⟨h1,h2,h3,h4⟩:=GA HF LW E XL e G;exact k g w' B h1 h2 h3 h4)
theorem zh {f:FuncId} {fn:Func} {c:Code} {args:List Value} {R:Ending→World→Prop} (hf:P.funcs[f]? =some fn) (hN:fn.ntmps=N) (k:Per No w (fun _=>True)→Ext No w w→(∀q9,No q9→No q9∨w.heap.size≤q9)→Ext No w w→CW P N c (bodyPost P fn R) (ynx 0 args) w) (hb:fn.body=some c:=by exact rfl) (hl:Nat.ble args.length N=true:=by exact rfl):Calls P f args.toArray w R:=zd hf hb hN hl (k (wk0 w).1 (wk0 w).2.1 (wk0 w).2.2.1 (wk0 w).2.2.2)
theorem aT {Z:Nat→Prop} (LW:Ext No w0 a) (E:Ext Z a w) (XL:∀i,Z i→No i∨w0.heap.size≤i):Below w0.heap.size w0 w:=(LW.step E XL).toBelow
theorem qk {c:Code} (t:Nat) {b:Bool} (h:lk t σ=some (.bool b)) (e:Value.bool b= .bool true) (k:CW P N c Q ((t,.bool true)::σ) w):CW P N c Q σ w:=zy t _ h e k
theorem yn {c:Code} (t:Nat) {b:Bool} (h:lk t σ=some (.bool b)) (e:Value.bool b= .bool false) (k:CW P N c Q ((t,.bool false)::σ) w):CW P N c Q σ w:=zy t _ h e k
theorem xv {l:List Oper} (t:Nat) {b:Bool} (h:lk t σ=some (.bool b)) (e:Value.bool b= .bool true) (k:RS P N ops Q l ((t,.bool true)::σ) w):RS P N ops Q l σ w:=ze t _ h e k
theorem gy {l:List Oper} (t:Nat) {b:Bool} (h:lk t σ=some (.bool b)) (e:Value.bool b= .bool false) (k:RS P N ops Q l ((t,.bool false)::σ) w):RS P N ops Q l σ w:=ze t _ h e k
end
theorem QF {l:List Oper} (k:RS P N ops Q l σ w):RS P N ops Q l σ w:=k
theorem QG {c:Code} (k:CW P N c Q σ w):CW P N c Q σ w:=k
end
theorem sw {A B:Prop} (q:A) (h:A→B:=by intro q;simp[q]):B:=h q
theorem XO {P Q:Prop} (k:Q) (h:(Unit→Q)→P:=by
 intro k;first
 | (refine' Gz ?KO ?KP ?zgd ?zge (k ());(case KO=>exact PL.h);(case KP=>rfl);(case zgd=>decide);case zge=>rfl)
 | (refine' UA ?KO ?XP ?KP ?XQ ?zgd (k ());(case KO=>exact mJ.h);(case XP=>rfl);(case KP=>rfl);(case XQ=>exact bfd);case zgd=>rfl)
 | (refine' ykv ?KO ?XP ?zgs ?KP ?XQ ?zgd (k ());(case KO=>exact mJ.h);(case XP=>rfl);(case zgs=>exact Szc.h);(case KP=>rfl);(case XQ=>exact bfd);case zgd=>rfl)
 | (refine' jm ?KO ?XP ?KP ?XQ (k ());(case KO=>exact mJ.h);(case XP=>rfl);(case KP=>rfl);case XQ=>exact bfd)
 | (refine' Xo ?KO ?KP (k ());(case KO=>exact mJ.h);case KP=>rfl)):P:=h fun _=>k
theorem arm {P:Prop} (h:P:=by
 intro vs X wq K;refine KM K.all ?_;(repeat first | refine uN rfl rfl rfl ?_ | refine uM ?_)
 refine Ey ?_;first
 | exact uL rfl ⟨Below.refl _ _,Left.of rfl⟩
 | ((try have E:=E.drew.trans (K.1.mono OY));(try refine vt rfl ?_);refine XO ?_;exact ⟨Below.refl _ _,Left.of rfl⟩)):P:=h
theorem yt {Kn Q:(Nat→Value)→(Nat→Prop)→World→Prop} {P:Prop} (k:∀vs X w,Kn vs X w→Q vs X w) (h:(Unit→ ∀vs X w,Kn vs X w→Q vs X w)→P:=by
 intro zK vs X wq K;refine KM K.all ?_;(repeat first | refine uN rfl rfl rfl ?_ | refine uM ?_)
 refine Ey ?_;exact zK () vs X wq K):P:=h fun _=>k
theorem aN {P Q:Prop} (k:Q) (h:(Unit→Q)→P:=by
 intro k;first
 | (refine QF ?_;first | exact Bl (k ()) | exact QB rfl rfl (k ()) | (refine za rfl ?_;first | exact XO (k ()) | (refine vt rfl ?_;exact XO (k ()))))
 | (refine QG ?_;first | exact Ka (k ()) | exact nG (k ()) | exact Qc rfl (k ()) | exact Qd rfl (k ()) | exact Qa (k ()) | exact Xh (k ()) | exact Kc (k ()) | exact Qb (k ()) | exact QA (k ()))
 | exact pV (k ())
 | exact QC rfl rfl (k ())
 | exact QD rfl rfl rfl (k ())
 | (refine' QE rfl rfl ?KO ?XP ?zgs ?XQ ?zgn ?KP (k ());(case KO=>exact mJ.h);(case XP=>rfl);(case zgs=>exact Szc.h);(case XQ=>exact bfd);(case zgn=>rfl);case KP=>rfl)
 | exact tV (k ())
 | exact pW (k ())
 | exact qP (k ())
 | exact pX (k ())
 | exact gG (k ())
 | exact mM (k ())):P:=h fun _=>k
section
variable {P Q:Prop} (k:Q)
include k
theorem zo (h:(Unit→Q)→P:=by intro k;(iterate 2 refine aN ?_);exact k ()):P:=h fun _=>k
theorem yl (h:(Unit→Q)→P:=by intro k;(iterate 3 refine aN ?_);exact k ()):P:=h fun _=>k
theorem yf (h:(Unit→Q)→P:=by intro k;(iterate 4 refine aN ?_);exact k ()):P:=h fun _=>k
theorem ya (h:(Unit→Q)→P:=by intro k;(iterate 5 refine aN ?_);exact k ()):P:=h fun _=>k
theorem zq (h:(Unit→Q)→P:=by intro k;(iterate 6 refine aN ?_);exact k ()):P:=h fun _=>k
theorem zn (h:(Unit→Q)→P:=by intro k;(iterate 7 refine aN ?_);exact k ()):P:=h fun _=>k
theorem yu (h:(Unit→Q)→P:=by intro k;(iterate 8 refine aN ?_);exact k ()):P:=h fun _=>k
theorem qu (h:(Unit→Q)→P:=by intro k;(iterate 9 refine aN ?_);exact k ()):P:=h fun _=>k
theorem yd (h:(Unit→Q)→P:=by intro k;(iterate 10 refine aN ?_);exact k ()):P:=h fun _=>k
theorem qa (h:(Unit→Q)→P:=by intro k;(iterate 11 refine aN ?_);exact k ()):P:=h fun _=>k
theorem vc (h:(Unit→Q)→P:=by intro k;(iterate 12 refine aN ?_);exact k ()):P:=h fun _=>k
theorem kb (h:(Unit→Q)→P:=by intro k;(iterate 13 refine aN ?_);exact k ()):P:=h fun _=>k
theorem uP (h:(Unit→Q)→P:=by intro k;(iterate 14 refine aN ?_);exact k ()):P:=h fun _=>k
theorem oe (h:(Unit→Q)→P:=by intro k;(iterate 15 refine aN ?_);exact k ()):P:=h fun _=>k
theorem od (h:(Unit→Q)→P:=by intro k;(iterate 16 refine aN ?_);exact k ()):P:=h fun _=>k
theorem KQ (h:(Unit→Q)→P:=by intro k;(iterate 17 refine aN ?_);exact k ()):P:=h fun _=>k
theorem Ez (h:(Unit→Q)→P:=by intro k;(iterate 18 refine aN ?_);exact k ()):P:=h fun _=>k
theorem EA (h:(Unit→Q)→P:=by intro k;(iterate 19 refine aN ?_);exact k ()):P:=h fun _=>k
theorem JR (h:(Unit→Q)→P:=by intro k;(iterate 20 refine aN ?_);exact k ()):P:=h fun _=>k
theorem EB (h:(Unit→Q)→P:=by intro k;(iterate 21 refine aN ?_);exact k ()):P:=h fun _=>k
theorem Vb (h:(Unit→Q)→P:=by intro k;(iterate 22 refine aN ?_);exact k ()):P:=h fun _=>k
theorem jC (h:(Unit→Q)→P:=by intro k;(iterate 23 refine aN ?_);exact k ()):P:=h fun _=>k
theorem Vd (h:(Unit→Q)→P:=by intro k;(iterate 24 refine aN ?_);exact k ()):P:=h fun _=>k
theorem ae2 (h:(Unit→Q)→P:=by intro k;(iterate 25 refine aN ?_);exact k ()):P:=h fun _=>k
theorem uQ (h:(Unit→Q)→P:=by intro k;(iterate 26 refine aN ?_);exact k ()):P:=h fun _=>k
theorem ae3 (h:(Unit→Q)→P:=by intro k;(iterate 27 refine aN ?_);exact k ()):P:=h fun _=>k
theorem uR (h:(Unit→Q)→P:=by intro k;(iterate 30 refine aN ?_);exact k ()):P:=h fun _=>k
theorem ae4 (h:(Unit→Q)→P:=by intro k;(iterate 31 refine aN ?_);exact k ()):P:=h fun _=>k
theorem ae5 (h:(Unit→Q)→P:=by intro k;(iterate 34 refine aN ?_);exact k ()):P:=h fun _=>k
theorem Ve (h:(Unit→Q)→P:=by intro k;(iterate 36 refine aN ?_);exact k ()):P:=h fun _=>k
theorem ae6 (h:(Unit→Q)→P:=by intro k;(iterate 38 refine aN ?_);exact k ()):P:=h fun _=>k
theorem Vf (h:(Unit→Q)→P:=by intro k;(iterate 40 refine aN ?_);exact k ()):P:=h fun _=>k
end
end Go.Proofs.YtdofcnodhgaedaaGreatDoor
namespace Go.Proofs.YtdofcnodhgaedaaGreatDoor
open Proofs.Tryz
instance :type_of% (mJ.mk underlying3):=⟨underlying3⟩
instance :type_of% (mJ.mk underlying4):=⟨underlying4⟩
instance :type_of% (mJ.mk underlying5):=⟨underlying5⟩
instance :type_of% (mJ.mk u9):=⟨u9⟩
instance :type_of% (mJ.mk u22):=⟨u22⟩
instance :type_of% (mJ.mk u24):=⟨u24⟩
instance :type_of% (mJ.mk u25):=⟨u25⟩
instance :type_of% (mJ.mk underlying26):=⟨underlying26⟩
instance :type_of% (mJ.mk u28):=⟨u28⟩
instance :type_of% (mJ.mk u46):=⟨u46⟩
instance :type_of% (mJ.mk u48):=⟨u48⟩
instance :type_of% (mJ.mk u53):=⟨u53⟩
instance :type_of% (mJ.mk u59):=⟨u59⟩
instance :type_of% (mJ.mk UJ):=⟨UJ⟩
instance :type_of% (mJ.mk underlying223):=⟨underlying223⟩
instance :type_of% (mJ.mk underlying251):=⟨underlying251⟩
instance :type_of% (mJ.mk underlying252):=⟨underlying252⟩
instance :type_of% (Szc.mk xn):=⟨xn⟩
instance :type_of% (Szc.mk tL):=⟨tL⟩
instance :type_of% (Szc.mk uD):=⟨uD⟩
instance :type_of% (PL.mk XD):=⟨XD⟩
instance :type_of% (PL.mk uE):=⟨uE⟩
instance :type_of% (PL.mk ab9):=⟨ab9⟩
instance :type_of% (PL.mk abq):=⟨abq⟩
instance :type_of% (PL.mk UM):=⟨UM⟩
instance :type_of% (PL.mk UN):=⟨UN⟩
instance :type_of% (PL.mk UO):=⟨UO⟩
instance :type_of% (PL.mk UQ):=⟨UQ⟩
instance :type_of% (PL.mk UR):=⟨UR⟩
theorem uS:mO prog 60 Extern.MathFloatBits.float64frombits:=⟨_,func60,kr,kr,kr,kr⟩
theorem ae7:mO prog 100 Extern.MathFloatBits.float64bits:=⟨_,func100,kr,kr,kr,kr⟩
theorem ae8:mO prog 127 (Extern.MathFloor.toIntegral "math.archTrunc" .zero):=⟨_,func127,kr,kr,kr,kr⟩
theorem ae9:mO prog 172 Extern.MathFloatBits.float64bits:=⟨_,func172,kr,kr,kr,kr⟩
end Go.Proofs.YtdofcnodhgaedaaGreatDoor
namespace Go.Proofs.YtdofcnodhgaedaaGreatDoor
open Go.RowKit Proofs.Tryz
section
attribute [local irreducible] OW RS CW EW
theorem jD {P Q:Prop} (k:Q) (h:(Unit→Q)→P:=by
 intro zK;refine yu ?_;refine za rfl (gm rfl rfl (EC ha) (zq ?_));exact zK ()):P:=h fun _=>k
theorem XR {P Q:Prop} (k:Q) (h:(Unit→Q)→P:=by
 intro zK;refine za rfl (Et ae7 rfl ?_);exact zK ()):P:=h fun _=>k
theorem kz {P Q:Prop} (k:Q) (h:(Unit→Q)→P:=by
 intro zK;refine za rfl (Qk rfl rfl ?_);exact zK ()):P:=h fun _=>k
theorem zkv {P Q:Prop} (k:Q) (h:(Unit→Q)→P:=by
 intro zK;refine za rfl (gf (b:=a) uS rfl ?_);exact zK ()):P:=h fun _=>k
theorem GD {P:Prop} (h:P:=by
 refine ya ?_;exact gi):P:=h
theorem gi {P:Prop} (h:P:=by
 exact ⟨rfl,aT LW E ak⟩):P:=h
def BK (m:Nat):Nat:=if aY m then 9221120237041090560 else m
def fE (z:Option Nat):Nat:=z.getD 9221120237041090560
theorem gI.bare {op:BinOp} {a b r:Nat} {w w':World} (h:gI (fq op a b) r w w'):BK r=fE (fq op a b):=by
 rcases h with ⟨hz,_⟩ | ⟨hz,hn,_⟩
 · rw[hz];unfold BK fE;rw[(Qy hz).1];rfl
 · rw[hz];unfold BK fE;rw[Eu hn];rfl
theorem jy (m:Nat):(kd m m !=some .eq)=aY m:=by
 cases h:aY m with
 | true=>rw[U7 (.inl h)];rfl
 | false=>rw[zmq h h,ycz];rfl
theorem gr (m:Nat) (h:m<18446744073709551616):(BitVec.ofInt 64 (m:Int)).toNat=m:=by
 rw[BitVec.toNat_ofInt];omega
theorem zjv {m:Nat} (h:m<18446744073709551616):IntKind.u64.wrap (m:Int)=(m:Int):=wrap_u64 om
theorem znv {m n:Nat} (hm:m<18446744073709551616) (hn:n<18446744073709551616):IntKind.u64.wrap (BitVec.ofInt IntKind.u64.bits (m:Int) &&& BitVec.ofInt IntKind.u64.bits (n:Int)).toNat=((m &&& n:Nat):Int):=by
 have h1:=gr m hm;have h2:=gr n hn;show IntKind.u64.wrap (((BitVec.ofInt 64 (m:Int) &&& BitVec.ofInt 64 (n:Int)).toNat:Nat):Int)=_
 rw[BitVec.toNat_and,h1,h2];exact zjv (Nat.lt_of_le_of_lt Nat.and_le_left hm)
theorem EC {m:Nat} (hm:m<18446744073709551616):IntKind.u64.wrap (BitVec.ofInt IntKind.u64.bits (m:Int) &&& BitVec.ofInt IntKind.u64.bits 9223372036854775807).toNat=((rg m:Nat):Int):=by
 have:=znv (n:=9223372036854775807) hm de;rw[show m &&& 9223372036854775807=rg m from Nat.and_two_pow_sub_one_eq_mod m 63] at this;exact this
def tN (b:Nat):Bool:=decide (rg b=0)
theorem zmz (b:Nat):(kd b 0==some .eq)=tN b:=by
 cases h:aY b with
 | true=>
  rw[U7 (.inl h)];have:tN b=false:=by unfold aY at h;unfold tN;simp at h ⊢;omega
  rw[this];rfl
 | false=>
  rw[zmq h de];have h0:pc 0=0:=de;rw[h0,mP,tN];by_cases hz:rg b=0
  · have:pc b=0:=by unfold pc;split<;>omega
    rw[this];simp[hz]
  · have:pc b≠0:=by unfold pc;split<;>omega
    rw[if_neg this];split<;>simp[hz]<;>decide
def ax3 (a b:Nat):Nat:=if tN b then 0 else fE (fq .quo a b)
def ax4 (b:Nat):Int:=if tN b then 6 else 0
def KR (x y:Int):Int:=if x<y then -1 else if x>y then 1 else 0
def ko (a b:Nat):Bool:=!(aY a)&& !(aY b)
def jE (a b:Nat):Int:=if ko a b then KR (pc a) (pc b) else 0
theorem zck {a b:Nat} {o:Ordering} (h:(kd a b==some o)=true):ko a b=true:=by
 unfold ko;cases ha:aY a with
 | true=>rw[U7 (.inl ha)] at h;cases h
 | false=>
  cases hbq:aY b with
  | true=>rw[U7 (.inr hbq)] at h;cases h
  | false=>rfl
theorem zwk {a b:Nat} (h:ko a b=true):kd a b=some (mP (pc a) (pc b)):=by
 unfold ko at h;simp at h
 exact zmq h.1 h.2
theorem QH {a b:Nat} (h:(kd a b==some .lt)=true):jE a b= -1:=by
 have ho:=zck h;rw[zwk ho] at h;rw[jE,if_pos ho,KR];unfold mP at h;split at h
 · rename_i h1;rw[if_pos h1]
 · split at h<;>cases h
theorem QI {a b:Nat} (h:(kd a b==some .gt)=true):jE a b=1:=by
 have ho:=zck h;rw[zwk ho] at h;rw[jE,if_pos ho,KR];unfold mP at h;split at h
 · cases h
 · split at h
   · cases h
   · rename_i h1 h2;rw[if_neg h1,if_pos om]
theorem ED {a b:Nat} (h:(kd a b==some .lt)=false) (h2:(kd a b==some .gt)=false):jE a b=0∧ko a b=(kd a b==some .eq):=by
 cases ho:ko a b with
 | true=>
  rw[zwk ho] at h h2 ⊢;rw[jE,if_pos ho,KR];rcases Int.lt_trichotomy (pc a) (pc b) with h1 | h1 | h1
  · rw[ycq h1] at h;cases h
  · rw[h1,ycz];exact ⟨by rw[if_neg om,if_neg om],rfl⟩
  · rw[yoz h1] at h2;cases h2
 | false=>
  refine ⟨by rw[jE,if_neg (by rw[ho];decide)],?_⟩;unfold ko at ho;cases ha:aY a with
  | true=>rw[U7 (.inl ha)];rfl
  | false=>
   cases hbq:aY b with
   | true=>rw[U7 (.inr hbq)];rfl
   | false=>rw[ha,hbq] at ho;cases ho
theorem EF {m n:Nat}:decide (m=n)=(((m:Nat):Int)==((n:Nat):Int)):=by
 by_cases h:m=n
 · subst h;simp
 · have:((m:Nat):Int)≠((n:Nat):Int):=om;simp[h,this]
section
variable (w:World)
theorem KS (m:Nat):Calls prog 88 #[.float .f64 m] w (aD w (.int .u64 ((BK m:Nat):Int))):=by
 refine zd func88 rfl ntmps88 rfl ?_;have LW:=aB (No) w;have ak:=aP (No) w;have E:=aB (No) w;refine yd ?_;refine kz ?_;refine zo ?_;refine zy 5 (.bool (aY m)) rfl (by rw[jy]<;>rfl) (zg rfl (fun h=>?_) (fun h=>?_))
 ·
  refine yu ?_;exact ⟨by rw[BK,if_pos h];rfl,aT LW E ak⟩
 ·
  refine ya ?_;refine XR ?_;refine ya ?_;exact ⟨by rw[BK,if_neg (by rw[h];decide)];rfl,aT LW E ak⟩
section
variable (a b:Nat)
theorem nP:Calls prog 95 #[.int .u64 ((a:Nat):Int),.int .u64 ((b:Nat):Int)] w (aD w (.tuple #[.int .i64 (jE a b),.bool (ko a b)])):=by
 refine zd func95 rfl ntmps95 rfl ?_;have LW:=aB (No) w;have ak:=aP (No) w;have E:=aB (No) w;refine qu ?_;refine zkv ?_;refine aN ?_;refine za rfl (gf (b:=b) uS rfl (yd ?_));refine za rfl (qbx rfl rfl (yl ?_));refine zg rfl (fun h=>?_) (fun h=>?_)
 ·
  refine yd ?_;exact ⟨by rw[QH h,zck h];rfl,aT LW E ak⟩
 ·
  refine yf ?_;refine za rfl (Es rfl rfl (yl ?_));refine zg rfl (fun h2=>?_) (fun h2=>?_)
  ·
   refine yd ?_;exact ⟨by rw[QI h2,zck h2];rfl,aT LW E ak⟩
  ·
   refine zn ?_;refine za rfl (Er rfl rfl (zq ?_));exact ⟨by rw[(ED h h2).1,(ED h h2).2];rfl,aT LW E ak⟩
end
end
section
variable (w:World)
section
variable (a:Nat) (ha:a<18446744073709551616)
include ha
theorem xl:Calls prog 59 #[.int .u64 ((a:Nat):Int)] w (aD w (.bool (aY a))):=by
 refine zd func59 rfl ntmps59 rfl ?_;have LW:=aB (No) w;have ak:=aP (No) w;have E:=aB (No) w;refine jD ?_;exact ⟨by rw[show aY a=decide (((rg a:Nat):Int)>9218868437227405312) from by unfold aY;congr 1;apply propext;omega];rfl,aT LW E ak⟩
theorem ybv:Calls prog 76 #[.int .u64 ((a:Nat):Int)] w (aD w (.bool (decide (rg a=9218868437227405312)))):=by
 refine zd func76 rfl ntmps76 rfl ?_;have LW:=aB (No) w;have ak:=aP (No) w;have E:=aB (No) w;refine jD ?_;exact ⟨by rw[EF (n:=9218868437227405312)];rfl,aT LW E ak⟩
theorem BL:Calls prog 39 #[.int .u64 ((a:Nat):Int)] w (aD w (.bool (tN a))):=by
 refine zd func39 rfl ntmps39 rfl ?_;have LW:=aB (No) w;have ak:=aP (No) w;have E:=aB (No) w;refine jD ?_;exact ⟨by rw[tN,EF (n:=0)];rfl,aT LW E ak⟩
theorem zik:Calls prog 75 #[.int .u64 ((a:Nat):Int)] w (aD w (.bool (ng a))):=by
 refine zd func75 rfl ntmps75 rfl ?_;have LW:=aB (No) w;have ak:=aP (No) w;have E:=aB (No) w;refine uP ?_;exact ⟨by rw[Ew ha,show decide (9223372036854775808≤a)=decide (((a:Nat):Int)≥9223372036854775808) from by congr 1;apply propext;omega];rfl,aT LW E ak⟩
omit ha in
theorem GH:Calls prog 111 #[.int .u64 ((a:Nat):Int)] w (aD w (.float .f64 a)):=by
 refine zd func111 rfl ntmps111 rfl ?_;have LW:=aB (No) w;have ak:=aP (No) w;have E:=aB (No) w;refine yu ?_;refine zkv ?_;exact GD
end
section
variable (a b:Nat) (ha:a<18446744073709551616) (hbq:b<18446744073709551616)
include ha hbq
end
end
theorem zqx (m:Nat):BitVec.ofInt 64 ((m:Nat):Int)=BitVec.ofNat 64 m:=BitVec.ofInt_natCast 64 m
theorem yzq {a:Nat} (ha:a<18446744073709551616):IntKind.u64.wrap (BitVec.ofInt IntKind.u64.bits ((a:Nat):Int) &&& ~~~BitVec.ofInt IntKind.u64.bits 9223372036854775808).toNat=((rg a:Nat):Int):=by
 have h:=gJ ha;show IntKind.u64.wrap (((BitVec.ofInt 64 ((a:Nat):Int) &&& ~~~BitVec.ofInt 64 ((9223372036854775808:Nat):Int)).toNat:Nat):Int)=_
 rw[zqx,zqx,h];exact zjv (Nat.lt_trans (U6 a) de)
theorem jH {a:Nat} (ha:a<18446744073709551616):IntKind.u64.wrap (BitVec.ofInt IntKind.u64.bits ((a:Nat):Int) &&& ~~~BitVec.ofInt IntKind.u64.bits 9218868437227405312).toNat=((a/9223372036854775808*9223372036854775808+a%4503599627370496:Nat):Int):=by
 have h:=jF ha;show IntKind.u64.wrap (((BitVec.ofInt 64 ((a:Nat):Int) &&& ~~~BitVec.ofInt 64 ((9218868437227405312:Nat):Int)).toNat:Nat):Int)=_
 rw[zqx,zqx,h];exact zjv om
theorem Vh {m n:Nat} (hm:m<18446744073709551616) (hn:n<18446744073709551616):IntKind.u64.wrap (BitVec.ofInt IntKind.u64.bits (m:Int) ||| BitVec.ofInt IntKind.u64.bits (n:Int)).toNat=((m ||| n:Nat):Int):=by
 have h1:=gr m hm;have h2:=gr n hn;show IntKind.u64.wrap (((BitVec.ofInt 64 (m:Int) ||| BitVec.ofInt 64 (n:Int)).toNat:Nat):Int)=_
 rw[BitVec.toNat_or,h1,h2];exact zjv (Nat.or_lt_two_pow (n:=64) om om)
theorem KW {a:Nat} (ha:a<18446744073709551616):IntKind.u64.wrap (BitVec.ofInt IntKind.u64.bits ((a:Nat):Int) &&& BitVec.ofInt IntKind.u64.bits 9223372036854775808).toNat=((if ng a then 9223372036854775808 else 0:Nat):Int):=by
 have:=znv (n:=9223372036854775808) ha de;rw[qX a ha] at this;exact this
theorem BM (a:Nat):aY (rg a)=aY a:=by unfold aY rg;rw[Nat.mod_mod]
theorem jI (a:Nat):rg (rg a)=rg a:=Nat.mod_mod _ _
theorem aez (a:Nat):ng (rg a)=false:=by
 have:=U6 a;unfold ng;rw[Nat.div_eq_of_lt this];rfl
theorem Vi (a:Nat):pc (rg a)=((rg a:Nat):Int):=by rw[pc,aez,jI];rfl
theorem EH {a c:Nat} (ha:aY a=false) (hc:aY c=false):kd (rg a) (rg c)=some (mP ((rg a:Nat):Int) ((rg c:Nat):Int)):=by
 rw[zmq (by rw[BM];exact ha) (by rw[BM];exact hc),Vi,Vi]
theorem BN (a:Nat):(kd (rg a) 9218868437227405311==some .gt)=decide (rg a=9218868437227405312):=by
 cases h:aY a with
 | true=>
  rw[U7 (.inl (by rw[BM];exact h))];have:¬rg a=9218868437227405312:=by have:=of_decide_eq_true h;omega
  rw[decide_eq_false this];rfl
 | false=>
  have h2:=EH (c:=9218868437227405311) h de;rw[show rg 9218868437227405311=9218868437227405311 from de] at h2;have h3:¬9218868437227405312<rg a:=of_decide_eq_false h;rw[h2];by_cases h4:rg a=9218868437227405312
  · rw[h4];decide
  · rw[decide_eq_false h4,mP];split
    · rfl
    · split
      · rfl
      · omega
theorem KX {a:Nat} (h:aY a=false):(kd (rg a) 4503599627370496==some .lt)=decide (rg a<4503599627370496):=by
 have h2:=EH (c:=4503599627370496) h de;rw[show rg 4503599627370496=4503599627370496 from de] at h2;rw[h2];by_cases h4:rg a<4503599627370496
 · rw[decide_eq_true h4,ycq om];rfl
 · rw[decide_eq_false h4,mP,if_neg om];split<;>rfl
section
variable (w:World) (a:Nat) (ha:a<18446744073709551616)
include ha
theorem ypz:Calls prog 63 #[.float .f64 a] w (aD w (.float .f64 (rg a))):=by
 refine zd func63 rfl ntmps63 rfl ?_;have LW:=aB (No) w;have ak:=aP (No) w;have E:=aB (No) w;refine yu ?_;refine XR ?_;refine za rfl (yaz rfl rfl (yzq ha) (za rfl (gf (b:=rg a) uS rfl ?_)));exact GD
theorem vb:Calls prog 61 #[.float .f64 a,.int .i64 0] w (aD w (.bool (decide (rg a=9218868437227405312)))):=by
 refine zd func61 rfl ntmps61 rfl ?_;have LW:=aB (No) w;have ak:=aP (No) w;have E:=aB (No) w;refine oe ?_;refine zb KA (ypz _ a ha) E fun w1 E=>(zq ?_);refine za rfl (Es rfl rfl (ya ?_));exact ⟨by rw[←BN];rfl,aT LW E ak⟩
omit ha in
theorem ygq:Calls prog 136 #[.float .f64 a] w (aD w (.bool (aY a))):=by
 refine zd func136 rfl ntmps136 rfl ?_;have LW:=aB (No) w;have ak:=aP (No) w;have E:=aB (No) w;refine qu ?_;refine kz ?_;refine ya ?_;exact ⟨by rw[←jy];rfl,aT LW E ak⟩
theorem qY (b:Nat) (hb:b<18446744073709551616):Calls prog 134 #[.float .f64 a,.float .f64 b] w (aD w (.float .f64 (Ieee.double.word (ng b) (rg a)))):=by
 have hr:=U6 a;have ho:(rg a ||| (if ng b then 9223372036854775808 else 0:Nat))=Ieee.double.word (ng b) (rg a):=by
  unfold Ieee.Format.word;rw[c1];split
  · rw[Nat.or_comm];exact jG 63 hr rfl
  · exact Nat.or_zero _
 have hs:(if ng b then 9223372036854775808 else 0:Nat)<18446744073709551616:=by split<;>decide
 refine zd func134 rfl ntmps134 rfl ?_;have LW:=aB (No) w;have ak:=aP (No) w;have E:=aB (No) w;refine yu ?_;refine XR ?_;refine za rfl (yaz rfl rfl (yzq ha) (aN ?_));refine XR ?_;refine za rfl (gm rfl rfl (KW hb) (za rfl (Uz rfl rfl (Vh (Nat.lt_trans hr de) hs) (za rfl (gf (b:=rg a ||| (if ng b then 9223372036854775808 else 0:Nat)) uS rfl (ya ?_))))));exact ⟨by rw[←ho];rfl,aT LW E ak⟩
end
theorem zuz {P Q:Prop} (k:Q) (h:(Unit→Q)→P:=by
 intro zK;refine za rfl (Er rfl rfl (yl ?_));exact zK ()):P:=h fun _=>k
theorem XW {P Q:Prop} (k:Q) (h:(Unit→Q)→P:=by
 intro zK;refine za rfl (jd underlying3 u25 rfl (yj om) ?_);exact zK ()):P:=h fun _=>k
theorem zx {P Q:Prop} (k:Q) (h:(Unit→Q)→P:=by
 intro zK;refine za rfl (vq rfl rfl (yj om) ?_);exact zK ()):P:=h fun _=>k
theorem yc {P Q:Prop} (k:Q) (h:(Unit→Q)→P:=by
 intro zK;refine za rfl (vu rfl rfl (yj om) ?_);exact zK ()):P:=h fun _=>k
theorem GK {a:Nat} (ha:a<18446744073709551616):Ieee.double.word (ng a) (rg a)=a:=by
 obtain ⟨h1,h2,h3⟩:=ji (ng a) (rg a) (U6 a);exact Gy h3 ha h1 h2
def JV (a:Nat):Nat:=Ieee.double.word (ng a) (nr (rg a))
def JW (a:Nat):Int:=if rg a<4503599627370496 then -52 else 0
theorem QJ {a:Nat} (ha:a<18446744073709551616) (h:¬rg a<4503599627370496):JV a=a:=by
 rw[JV,nr,if_neg h];exact GK ha
theorem BO {a:Nat} (h0:rg a≠0) (hf:rg a<9218868437227405312):JV a<18446744073709551616:=(ji (ng a) (nr (rg a)) (Nat.lt_trans (yak h0 hf) de)).2.2
theorem gI.some {z:Option Nat} {r q:Nat} {w w':World} (h:gI z r w w') (hz:z=some q):r=q:=by
 rcases h with ⟨h1,_⟩ | ⟨h1,_⟩
 · rw[hz] at h1;exact (Option.some.inj h1).symm
 · rw[hz] at h1;cases h1
theorem qcx {a:Nat} (hf:rg a<9218868437227405312):aY a=false:=decide_eq_false om
theorem KY (m:Nat):((m:Nat):Int).fdiv (2^(min (52:Int).toNat IntKind.u64.bits))=((m/4503599627370496:Nat):Int):=by
 show ((m:Nat):Int).fdiv (2^52)=_
 rw[show (2:Int)^52=((4503599627370496:Nat):Int) from rfl,Int.fdiv_eq_ediv_of_nonneg _ om];rfl
theorem uU {m:Nat} (hm:m<18446744073709551616):IntKind.u64.wrap (BitVec.ofInt IntKind.u64.bits ((m:Nat):Int) &&& BitVec.ofInt IntKind.u64.bits 2047).toNat=((m%2048:Nat):Int):=by
 have:=znv (n:=2047) hm de;rw[show m &&& 2047=m%2048 from Nat.and_two_pow_sub_one_eq_mod m 11] at this;exact this
theorem yez (s:Bool) {r:Nat} (hr:r<9218868437227405312):Ieee.double.word s r/4503599627370496%2048=r/4503599627370496∧Ieee.double.word s r/9223372036854775808*9223372036854775808+Ieee.double.word s r%4503599627370496=Ieee.double.word s (r%4503599627370496):=by
 unfold Ieee.Format.word;rw[c1];cases s
 · simp only[Bool.false_eq_true,if_false];omega
 · simp only[if_true];omega
theorem QK {f x:Nat} (hf:f<4503599627370496) (hx:x%4503599627370496=0):f ||| x=x+f:=by
 rw[Nat.or_comm];exact jG 52 hf hx
theorem ytv (s:Bool) {f x:Nat} (hf:f<4503599627370496) (hx:x%4503599627370496=0) (hl:x+f<9223372036854775808):Ieee.double.word s f ||| x=Ieee.double.word s (x+f):=by
 have h1:=QK hf hx;unfold Ieee.Format.word;rw[c1];cases s
 · exact h1
 · show (9223372036854775808+f) ||| x=9223372036854775808+(x+f)
   rw[←jG 63 (a:=9223372036854775808) (b:=f) (Nat.lt_trans hf de) rfl,Nat.or_assoc,h1];exact jG 63 hl rfl
section
variable (w:World) (a:Nat) (ha:a<18446744073709551616) (h0:rg a≠0) (hf:rg a<9218868437227405312)
include ha h0 hf
theorem zjx:Calls prog 137 #[.float .f64 a] w (aD w (.tuple #[.float .f64 (JV a),.int .i64 (JW a)])):=by
 refine zd func137 rfl ntmps137 rfl ?_;have LW:=aB (No) w;have ak:=aP (No) w;have E:=aB (No) w;refine yd ?_;refine zb KA (ypz _ a ha) E fun w1 E=>(za rfl (qbx rfl rfl (zo ?_)));refine zy 6 (.bool (decide (rg a<4503599627370496))) rfl (by rw[KX (qcx hf)]<;>rfl) (zg rfl (fun h=>?_) (fun h=>?_))
 ·
  refine yl ?_;refine za rfl (iT (m:=a) (n:=4841369599423283200) (.inr (.inr (.inl rfl))) rfl rfl ?_);intro r w2 hr;have Ec:=hr.ext;replace E:=E.trans Ec.no;refine zn ?_;exact ⟨by rw[hr.some (mR h0 (of_decide_eq_true h)),JW,if_pos (of_decide_eq_true h)];rfl,aT LW E ak⟩
 ·
  refine qa ?_;exact ⟨by rw[QJ ha (of_decide_eq_false h),JW,if_neg (of_decide_eq_false h)];rfl,aT LW E ak⟩
theorem GL:Calls prog 99 #[.float .f64 a] w (aD w (.tuple #[.float .f64 (gW a),.int .i64 (mU a)])):=by
 have hz:tN a=false:=decide_eq_false h0;have jJ:decide (rg a=9218868437227405312)=false:=decide_eq_false om;have hn:=qcx hf;have hlt:=BO h0 hf;have hlow:=qV h0;have hhigh:=yak h0 hf;obtain ⟨hp1,hp2⟩:=yez (ng a) hhigh;have hex:nr (rg a)/4503599627370496=ex (nr (rg a))+1:=by unfold ex;rw[if_neg om];omega
 have hmg:mg (nr (rg a))=4503599627370496+nr (rg a)%4503599627370496:=by unfold mg;rw[if_neg om]
 have aex:ex (nr (rg a))≤2045:=om;have hfl:nr (rg a)%4503599627370496<4503599627370496:=Nat.mod_lt _ de;have aej:JW a=0∨JW a= -52:=by unfold JW;split<;>simp
 have hfw:Ieee.double.word (ng a) (nr (rg a)%4503599627370496)<18446744073709551616:=(ji _ _ om).2.2;have hor:=ytv (ng a) (x:=4602678819172646912) hfl de om;have aqj:Ieee.double.word (ng a) (4602678819172646912+nr (rg a)%4503599627370496)=gW a:=by rw[gW,hmg,Nat.add_sub_cancel_left]
 have ar0:JW a+(((ex (nr (rg a))+1:Nat):Int)-1023+1)=mU a:=by
  unfold JW mU;split<;>omega
 refine zd func99 rfl ntmps99 rfl ?_;have LW:=aB (No) w;have ak:=aP (No) w;have E:=aB (No) w;refine qa ?_;refine zuz ?_;refine yn 5 rfl (by rw[zmz,hz]<;>rfl) (yf ?_);refine zb fD (vb _ a ha) E fun w1 E=>(gy 11 rfl (by rw[jJ]<;>rfl) (zo ?_));refine zb KD (ygq _ a) E fun w2 E=>(gy 14 rfl (by rw[hn]<;>rfl) (qa ?_));refine zb KE (zjx _ a ha h0 hf) E fun w3 E=>(yd ?_);refine XR ?_;refine zn ?_;refine za rfl (va rfl rfl de (KY (JV a)) (za rfl (gm rfl rfl (uU om) (ze 27 (.int .u64 ((ex (nr (rg a))+1:Nat):Int)) rfl (by rw[show JV a/4503599627370496%2048=_ from hp1,hex]<;>rfl) (XW ?_)))));refine zx ?_;refine yc ?_;refine yc ?_;refine zq ?_;refine za rfl (yaz rfl rfl (jH hlt) (ze 33 (.int .u64 ((Ieee.double.word (ng a) (nr (rg a)%4503599627370496):Nat):Int)) rfl (by rw[show JV a/9223372036854775808*9223372036854775808+JV a%4503599627370496=_ from hp2]<;>rfl) (zq ?_)));refine za rfl (Uz rfl rfl (Vh (n:=4602678819172646912) hfw de) (ze 35 (.int .u64 ((gW a:Nat):Int)) rfl (by rw[show Ieee.double.word (ng a) (nr (rg a)%4503599627370496) ||| 4602678819172646912=gW a from hor.trans aqj]<;>rfl) (zq ?_)));refine za rfl (gf (b:=gW a) uS rfl (ya ?_));exact ⟨by rw[←ar0];rfl,aT LW E ak⟩
end
theorem uV {P Q:Prop} (k:Q) (h:(Unit→Q)→P:=by
 intro zK;refine za rfl (yaz rfl rfl (jH hlt) (ze 52 (.int .u64 ((Ieee.double.word (ng a) (nr (rg a)%4503599627370496):Nat):Int)) rfl (by rw[show JV a/9223372036854775808*9223372036854775808+JV a%4503599627370496=_ from hp2]<;>rfl) (zn ?_)));refine yc ?_;refine za rfl (jd u25 underlying3 rfl (wrap_u64 om) ?_);exact zK ()):P:=h fun _=>k
theorem uW {P Q:Prop} (k:Q) (h:(Unit→Q)→P:=by
 intro zK;refine za rfl (va rfl rfl de (KY (JV a)) (XW ?_));refine za rfl (gm rfl rfl (GN om) (ze 34 (.int .i64 ((ex (nr (rg a))+1:Nat):Int)) rfl (by rw[show JV a/4503599627370496%2048=_ from hp1,hex]<;>rfl) (zx ?_)));refine yc ?_;refine yd ?_;refine yn 38 rfl (by rw[hB,decide_eq_false om]<;>rfl) ?_;exact zK ()):P:=h fun _=>k
theorem GN {m:Nat} (hm:m<18446744073709551616):IntKind.i64.wrap (BitVec.ofInt IntKind.i64.bits ((m:Nat):Int) &&& BitVec.ofInt IntKind.i64.bits 2047).toNat=((m%2048:Nat):Int):=by
 have h1:=gr m hm;have h2:=gr 2047 de;show IntKind.i64.wrap (((BitVec.ofInt 64 (m:Int) &&& BitVec.ofInt 64 ((2047:Nat):Int)).toNat:Nat):Int)=_
 rw[BitVec.toNat_and,h1,h2,show m &&& 2047=m%2048 from Nat.and_two_pow_sub_one_eq_mod m 11];exact yj om
theorem uX {x m f q:Nat} (h1:x*4503599627370496+m=q) (h2:m=4503599627370496+f):(x+1)*4503599627370496+f=q:=by rw[←h1,h2,Nat.add_mul,Nat.one_mul,Nat.add_assoc]
theorem KZ (a:Nat):JW a= -((nd (rg a):Nat):Int):=by unfold JW nd;split<;>rfl
theorem GQ {s:Bool} {q:Nat} (hq:q<9218868437227405312):fq .mul 4607182418800017408 (Ieee.double.word s q)=some (Ieee.double.word s q):=by
 obtain ⟨h1,h2,_⟩:=ji s q (Nat.lt_trans hq de);have hc:rg 4607182418800017408=4607182418800017408∧ng 4607182418800017408=false∧vl 4607182418800017408=2^1074:=by decide +kernel
 have:=jK (a:=4607182418800017408) (b:=Ieee.double.word s q) (r:=q) (by rw[hc.1];decide) (by rw[h1];exact hq) hq (fun P hP=>by rewrite [hc.1,hc.2.2,←hP,h1];exact Nat.mul_comm P (vl q));rw[this,hc.2.1,h2,Bool.false_xor]
theorem QL {P i j n:Nat} (h:P=2^n) (hn:n=i+j):P=2^i*2^j:=by rw[h,hn,Nat.pow_add]
theorem QM {A B P q v1 v2:Nat} (h1:v1=A) (h2:v2=q*B) (h3:P=A*B):v1*v2=q*P:=by rw[h1,h2,h3,Nat.mul_left_comm]
theorem QN {s:Bool} {q:Nat} (h0:q≠0) (hq:q<4503599627370496):fq .mul 4368491638549381120 (Ieee.double.word s ((ex (nr q)+1)*4503599627370496+mg (nr q)))=some (Ieee.double.word s q):=by
 obtain ⟨hm1,hm2⟩:=jM h0;have he:ex (nr q)≤51:=by rw[(XV h0 hq).1];exact (zkz h0 hq).1
 obtain ⟨Q,hQ⟩:∃Q,Q=(ex (nr q)+1)*4503599627370496+mg (nr q):=⟨_,rfl⟩;obtain ⟨p1,p2⟩:=zpq (e:=ex (nr q)+1) hm1 hm2;rw[←hQ] at p1 p2 ⊢;have hQl:Q<9218868437227405312:=om;obtain ⟨h1,h2,_⟩:=ji s Q (Nat.lt_trans hQl de);have hc:rg 4368491638549381120=4368491638549381120∧ng 4368491638549381120=false∧vl 4368491638549381120=2^1021:=by decide +kernel
 have hvQ:vl Q=q*2^53:=by
  rw[vl,p1,p2,Nat.pow_succ,←Nat.mul_assoc];have:=KU h0 hq;unfold vl at this;rw[this,Nat.mul_assoc]
 have:=jK (a:=4368491638549381120) (b:=Ieee.double.word s Q) (r:=q) (by rw[hc.1];decide) (by rw[h1];exact hQl) om (fun P hP=>by
  rewrite [hc.1,h1,qW hq]
  exact QM hc.2.2 hvQ (QL (i:=1021) (j:=53) (n:=1074) hP de))
 rw[this,hc.2.1,h2,Bool.false_xor]
section
variable (w:World) (a k q:Nat) (ha:a<18446744073709551616) (h0:rg a≠0) (hf:rg a<9218868437227405312) (hk:k<4096) (hq:q<9218868437227405312) (hv:vl q=vl (rg a)*2^k)
include ha h0 hf hk hq hv
theorem BP (hn:4503599627370496≤q):Calls prog 102 #[.float .f64 a,.int .i64 ((k:Nat):Int)] w (aD w (.float .f64 (Ieee.double.word (ng a) q))):=by
 have hz:tN a=false:=decide_eq_false h0;have jJ:decide (rg a=9218868437227405312)=false:=decide_eq_false om;have hnn:=qcx hf;have hlt:=BO h0 hf;have hlow:=qV h0;have hhigh:=yak h0 hf;obtain ⟨hp1,hp2⟩:=yez (ng a) hhigh;have hex:nr (rg a)/4503599627370496=ex (nr (rg a))+1:=by unfold ex;rw[if_neg om];omega
 have hmg:mg (nr (rg a))=4503599627370496+nr (rg a)%4503599627370496:=by unfold mg;rw[if_neg om]
 have aex:ex (nr (rg a))≤2045:=om;have hfl:nr (rg a)%4503599627370496<4503599627370496:=Nat.mod_lt _ de;have aej:=KZ a;have ar1:nd (rg a)≤52:=by unfold nd;split<;>omega
 have hfw:Ieee.double.word (ng a) (nr (rg a)%4503599627370496)<18446744073709551616:=(ji _ _ om).2.2;obtain ⟨hM,hE⟩:=yxk h0 (q:=q) om hv;have hnq:nr q=q:=by rw[nr,if_neg om]
 have XY:nd q=0:=by unfold nd;rw[if_neg om]
 rw[hnq] at hM hE;rw[XY] at hE;have hrq:=EG (r:=q);have heq:ex q≤2045:=by unfold ex;rw[if_neg om];omega
 have hB:((k:Nat):Int)+JW a+(((ex (nr (rg a))+1:Nat):Int)-1023)=((ex q:Nat):Int)-1022:=om;have hor:=ytv (ng a) (x:=(ex q+1)*4503599627370496) hfl (Nat.mul_mod_left _ _) om;have hsum:=uX hrq (hM.trans hmg);have hword:=congrArg (Ieee.double.word (ng a)) hsum;refine zd func102 rfl ntmps102 rfl ?_;have LW:=aB (No) w;have ak:=aP (No) w;have E:=aB (No) w;refine yd ?_;refine zuz ?_;refine yn 8 rfl (by rw[zmz,hz]<;>rfl) (yf ?_);refine zb fD (vb _ a ha) E fun w1 E=>(gy 14 rfl (by rw[jJ]<;>rfl) (zo ?_));refine zb KD (ygq _ a) E fun w2 E=>(gy 17 rfl (by rw[hnn]<;>rfl) (qa ?_));refine zb KE (zjx _ a ha h0 hf) E fun w3 E=>(qa ?_);refine yc ?_;refine zq ?_;refine XR ?_;refine zn ?_;refine uW ?_;refine zy 1 (.int .i64 (((ex q:Nat):Int)-1022)) rfl (by rw[hB]<;>rfl) (yd ?_);refine yn 42 rfl (by rw[decide_eq_false om]<;>rfl) (oe ?_);refine yn 48 rfl (by rw[decide_eq_false om]<;>rfl) (zq ?_);refine uV ?_;refine za rfl (gl (z:=(((ex q+1)*4503599627370496:Nat):Int)) rfl rfl de (by show IntKind.u64.wrap ((((ex q:Nat):Int)-1022+1023)*4503599627370496)=_;rw[wrap_u64 om];omega) (za rfl (Uz rfl rfl (Vh hfw om) (ze 58 (.int .u64 ((Ieee.double.word (ng a) q:Nat):Int)) rfl (by rw[hor.trans hword]<;>rfl) (zn ?_)))));refine za rfl (gf (b:=Ieee.double.word (ng a) q) uS rfl (za rfl (iT (m:=4607182418800017408) (n:=Ieee.double.word (ng a) q) (.inr (.inr (.inl rfl))) rfl rfl ?_)));intro r w4 hr;have Ec:=hr.ext;replace E:=E.trans Ec.no;refine ya ?_;exact ⟨by rw[hr.some (GQ hq)];rfl,aT LW E ak⟩
theorem GR (hn:q<4503599627370496) (hq0:q≠0):Calls prog 102 #[.float .f64 a,.int .i64 ((k:Nat):Int)] w (aD w (.float .f64 (Ieee.double.word (ng a) q))):=by
 have _:=hq;have hz:tN a=false:=decide_eq_false h0;have jJ:decide (rg a=9218868437227405312)=false:=decide_eq_false om;have hnn:=qcx hf;have hlt:=BO h0 hf;have hlow:=qV h0;have hhigh:=yak h0 hf;obtain ⟨hp1,hp2⟩:=yez (ng a) hhigh;have hex:nr (rg a)/4503599627370496=ex (nr (rg a))+1:=by unfold ex;rw[if_neg om];omega
 have hmg:mg (nr (rg a))=4503599627370496+nr (rg a)%4503599627370496:=by unfold mg;rw[if_neg om]
 have aex:ex (nr (rg a))≤2045:=om;have hfl:nr (rg a)%4503599627370496<4503599627370496:=Nat.mod_lt _ de;have aej:=KZ a;have ar1:nd (rg a)≤52:=by unfold nd;split<;>omega
 have hfw:Ieee.double.word (ng a) (nr (rg a)%4503599627370496)<18446744073709551616:=(ji _ _ om).2.2;obtain ⟨hM,hE⟩:=yxk h0 (q:=q) hq0 hv;have XY:nd q=52:=by unfold nd;rw[if_pos hn]
 rw[XY] at hE;have heq:ex (nr q)≤51:=by rw[(XV hq0 hn).1];exact (zkz hq0 hn).1
 have hB:((k:Nat):Int)+JW a+(((ex (nr (rg a))+1:Nat):Int)-1023)=((ex (nr q):Nat):Int)-1074:=om;have hor:=ytv (ng a) (x:=(ex (nr q)+2)*4503599627370496) hfl (Nat.mul_mod_left _ _) om;have hsum:=uX (x:=ex (nr q)+1) (m:=mg (nr q)) rfl (hM.trans hmg);have hword:=congrArg (Ieee.double.word (ng a)) hsum;refine zd func102 rfl ntmps102 rfl ?_;have LW:=aB (No) w;have ak:=aP (No) w;have E:=aB (No) w;refine yd ?_;refine zuz ?_;refine yn 8 rfl (by rw[zmz,hz]<;>rfl) (yf ?_);refine zb fD (vb _ a ha) E fun w1 E=>(gy 14 rfl (by rw[jJ]<;>rfl) (zo ?_));refine zb KD (ygq _ a) E fun w2 E=>(gy 17 rfl (by rw[hnn]<;>rfl) (qa ?_));refine zb KE (zjx _ a ha h0 hf) E fun w3 E=>(qa ?_);refine yc ?_;refine zq ?_;refine XR ?_;refine zn ?_;refine uW ?_;refine zy 1 (.int .i64 (((ex (nr q):Nat):Int)-1074)) rfl (by rw[hB]<;>rfl) (yd ?_);refine yn 42 rfl (by rw[decide_eq_false om]<;>rfl) (oe ?_);refine qk 48 rfl (by rw[decide_eq_true om]<;>rfl) (yf ?_);refine yc ?_;refine yd ?_;refine uV ?_;refine za rfl (gl (z:=(((ex (nr q)+2)*4503599627370496:Nat):Int)) rfl rfl de (by show IntKind.u64.wrap ((((ex (nr q):Nat):Int)-1074+53+1023)*4503599627370496)=_;rw[wrap_u64 om];omega) (za rfl (Uz rfl rfl (Vh hfw om) (ze 58 (.int .u64 ((Ieee.double.word (ng a) ((ex (nr q)+1)*4503599627370496+mg (nr q)):Nat):Int)) rfl (by rw[hor.trans hword]<;>rfl) (zn ?_)))));refine za rfl (gf (b:=Ieee.double.word (ng a) ((ex (nr q)+1)*4503599627370496+mg (nr q))) uS rfl (za rfl (iT (m:=4368491638549381120) (n:=Ieee.double.word (ng a) ((ex (nr q)+1)*4503599627370496+mg (nr q))) (.inr (.inr (.inl rfl))) rfl rfl ?_)));intro r w4 hr;have Ec:=hr.ext;replace E:=E.trans Ec.no;refine ya ?_;exact ⟨by rw[hr.some (QN hq0 hn)];rfl,aT LW E ak⟩
end
end
end Go.Proofs.YtdofcnodhgaedaaGreatDoor
namespace Go.Proofs.YtdofcnodhgaedaaGreatDoor
open Ieee
theorem nT {p q s P:Nat} (hP:P=2^p) (h:p=q+s):P=2^q*2^s:=by rw[hP,h,Nat.pow_add]
theorem uY {k K P:Nat} (h:k≤K) (hP:P=2^K):2^k≤P:=by rw[hP];exact Nat.pow_le_pow_right de h
theorem qy (n:Nat):0<2^n:=Nat.pow_pos de
theorem GV {x P w:Nat} (h:w=x/P):w*P≤x:=by rw[h];exact Nat.div_mul_le_self _ _
theorem K3 (s:Bool) (n t:Nat):Toward.zero.cut s n t=n/2^t:=by
 have e:Toward.zero.cut s n t=n/(1 <<< min t (n.log2+2)):=by
  unfold Toward.cut;simp only[Bool.toNat_false,Nat.add_zero]
 rw[e,Nat.shiftLeft_eq,Nat.one_mul];rcases Nat.le_total t (n.log2+2) with h | h
 · rw[Nat.min_eq_left h]
 · rw[Nat.min_eq_right h];have h1:=@Nat.lt_log2_self n;have h2:(2:Nat)^(n.log2+1)≤2^(n.log2+2):=Nat.pow_le_pow_right de om;have h3:(2:Nat)^(n.log2+2)≤2^t:=Nat.pow_le_pow_right de h;rw[Nat.div_eq_of_lt om,Nat.div_eq_of_lt om]
theorem QS (m i j:Nat):m*2^(i-j)/2^(j-i)=m*2^i/2^j:=by
 rcases Nat.le_total j i with h | h
 · rw[show j-i=0 from om,Nat.pow_zero,Nat.div_one,qaz h,Nat.mul_div_cancel _ (Nat.pow_pos de)]
 · rw[show i-j=0 from om,Nat.pow_zero,Nat.mul_one];rw[show (2:Nat)^j=2^(j-i)*2^i by rw[←Nat.pow_add];congr 1;omega,Nat.mul_div_mul_right _ _ (Nat.pow_pos de)]
def yw (a:Nat):Nat:=vl (rg a)/2^1074
theorem ydk {a:Nat} (ha:rg a<9218868437227405312):(double.read a).integral .zero= .number (ng a) (yw a) 0:=by
 rw[xw ha,Datum.integral,K3,Nat.shiftLeft_eq];have e1:(-1074+(ex (rg a):Int)).toNat=ex (rg a)-1074:=om;have e2:(-(-1074+(ex (rg a):Int))).toNat=1074-ex (rg a):=om;rw[e1,e2,QS];rfl
theorem uZ (s:Bool) (m:Nat):signed s m 0=if s then -(m:Int) else (m:Int):=by
 unfold signed;rw[Nat.shiftLeft_zero]
theorem toInt_fin {a:Nat} (ha:rg a<9218868437227405312):(FloatKind.f64.decode a).toInt .zero=some (if ng a then -(yw a:Int) else (yw a:Int)):=by
 show Datum.toInt .zero (double.read a)=_
 unfold Datum.toInt;rw[ydk ha];simp only[uZ]
theorem EI {a:Nat} (ha:rg a<9218868437227405312) (h:yw a<9223372036854775808):floatToIntVal .f64 a .i64=some (if ng a then -(yw a:Int) else (yw a:Int)):=by
 unfold floatToIntVal;rw[toInt_fin ha];have h1:IntKind.i64.min= -9223372036854775808:=rfl;have h2:IntKind.i64.max=9223372036854775807:=rfl;simp only[h1,h2]
 rw[if_pos (by split<;>omega)]
theorem QT {a:Nat} (ha:rg a<9218868437227405312) (hs:ng a=false) (h:yw a<18446744073709551616):floatToIntVal .f64 a .u64=some (yw a:Int):=by
 unfold floatToIntVal;rw[toInt_fin ha,hs];have h1:IntKind.u64.min=0:=rfl;have h2:IntKind.u64.max=18446744073709551615:=rfl;simp only[h1,h2,Bool.false_eq_true,if_false]
 rw[if_pos om]
theorem nU {m P x:Nat} (hP:0<P) (h:x=m*P):x/P=m:=by rw[h,Nat.mul_div_cancel _ hP]
theorem ztz (s:Bool) {q m:Nat} (hq:q<9218868437227405312) (h:vl q=m*2^1074):yw (double.word s q)=m:=by
 unfold yw;rewrite [(ji s q (Nat.lt_trans hq de)).1]
 exact nU (qy 1074) h
theorem zxk {a:Nat} (ha:rg a<9218868437227405312):∃q,vl q=yw a*2^1074∧q≤rg a∧oo .zero a=double.word (ng a) q:=by
 have key:∃q,vl q=yw a*2^1074∧q≤rg a:=by
  have hle:yw a*2^1074≤vl (rg a):=GV rfl;rcases Nat.le_total (ex (rg a)) 1074 with h | h
  · refine XZ (yw a) 1074 (rg a) ?_ hle;have:=uT (rg a);have h2:vl (rg a)≤mg (rg a)*2^1074:=Nat.mul_le_mul_left _ (uY h rfl);have h3:yw a≤mg (rg a):=Nat.le_of_mul_le_mul_right (Nat.le_trans hle h2) (qy 1074);exact Nat.lt_of_le_of_lt h3 this
  · refine ⟨rg a,?_,Nat.le_refl _⟩;have e:vl (rg a)=mg (rg a)*2^(ex (rg a)-1074)*2^1074:=qaz h _;have e2:yw a=mg (rg a)*2^(ex (rg a)-1074):=nU (qy 1074) e;rw[e2];exact e
 obtain ⟨q,h1,h2⟩:=key;refine ⟨q,h1,h2,?_⟩;show double.write ((double.read a).integral .zero)=_
 rw[ydk ha];exact yvv (u:=1074) (d:=0) (Nat.lt_of_le_of_lt h2 ha) om (by rw[h1,Nat.pow_zero,Nat.mul_one])
theorem rest_step (m n j:Nat):2*(m*2^j%n)%n=m*2^(j+1)%n:=by
 rw[Nat.mul_mod,Nat.mod_mod,←Nat.mul_mod,Nat.pow_succ];congr 1;rw[Nat.mul_left_comm,Nat.mul_comm 2]
def ax7 (a b:Nat):Bool:=if sv a+sv b=0 then ng a&&ng b else decide (sv a+sv b<0)
theorem af0 {x m P:Nat} (h:x=m*P):P∣x:=⟨m,by rw[h,Nat.mul_comm]⟩
theorem Yb {x j P:Nat} (h:x=j*P) (e:j=0):x=0:=by rw[h,e,Nat.zero_mul]
def QU (r:Nat):Prop:=2^1074∣vl r
theorem K4 {a:Nat}:QU (rg a)↔vl (rg a)=yw a*2^1074:=by
 constructor
 · intro h;exact (Nat.div_mul_cancel h).symm
 · intro h;exact af0 h
noncomputable def Yc (a b:Nat):Nat:=if rg b=9218868437227405312 then rg a else Ya (vl (rg a)%vl (rg b))
noncomputable def m0F (a b:Nat):Nat:=double.word (ng a) (Yc a b)
theorem xb {b:Nat} (hb:rg b<9218868437227405312):aY b=false:=decide_eq_false om
def EJ (a b:Nat):Bool:=aY a || aY b || decide (rg a=9218868437227405312)
noncomputable def Vj (a b:Nat):Bool:=decide (Yc a b≠0)&&(ng a !=ng b)
noncomputable def ax8 (a b:Nat):Nat:=if EJ a b then 9221120237041090560 else if Yc a b=0 then double.word (ng b) 0 else if Vj a b then fE (fq .add (m0F a b) b) else m0F a b
noncomputable def ar2 (a b:Nat):Nat:=fE (fq .sub a (m0F a b))
noncomputable def d0F (a b:Nat):Nat:=fE (fq .quo (ar2 a b) b)
noncomputable def d1F (a b:Nat):Nat:=if Vj a b then fE (fq .sub (d0F a b) 4607182418800017408) else d0F a b
def upB (d:Nat):Bool:=match fq .sub d (oo .down d) with
 | some z=>kd z 4602678819172646912==some .gt
 | none=>false
def Yd (d:Nat):Nat:=if upB d then fE (fq .add (oo .down d) 4607182418800017408) else oo .down d
noncomputable def ar3 (a b:Nat):Nat:=if EJ a b then 9221120237041090560 else if tN (d1F a b) then double.word (ng a ^^ ng b) 0 else Yd (d1F a b)
section
variable {a b:Nat} (ha:a<18446744073709551616) (hf:rg a<9218868437227405312) (hb:b<18446744073709551616) (hn:aY b=false) (h0:rg b≠0)
include hf h0
include hn ha
end
theorem jN {b:Nat} (hn:aY b=false) (h0:rg b≠0):(kd b 0==some .lt)=ng b:=by
 rw[zmq hn de];have hp:pc 0=0:=de;rw[hp];obtain ⟨p1,p2⟩:=XK b;cases h:ng b with
 | true=>rw[ycq (by rw[p1 h];omega)];rfl
 | false=>rw[yoz (by rw[p2 h];omega)];rfl
theorem u6 {a b:Nat} (h:aY a=true) (o:Ordering):(kd a b==some o)=false:=by rw[U7 (.inl h)];rfl
end Go.Proofs.YtdofcnodhgaedaaGreatDoor
namespace Go.Proofs.YtdofcnodhgaedaaGreatDoor
open Go.RowKit Proofs.Tryz
section
attribute [local irreducible] OW RS CW EW
theorem zzz {r:Nat} (h:r<9223372036854775808):rg r=r∧ng r=false:=by
 have:=ji false r h;exact ⟨this.1,this.2.1⟩
theorem EK {r:Nat} (hr:r<9218868437227405312):gW r=4602678819172646912+(mg (nr r)-4503599627370496):=by
 obtain ⟨h1,h2⟩:=zzz (r:=r) om;rw[gW,h1,h2];rfl
theorem EL {r:Nat} (hr:r<9218868437227405312):mU r=(ex (nr r):Int)-1021-(nd r:Int):=by
 obtain ⟨h1,_⟩:=zzz (r:=r) om;unfold mU nd;rw[h1];split<;>rfl
theorem GY {r:Nat} (hr:r<9218868437227405312):-1100≤mU r∧mU r≤1100:=by
 rw[EL hr];have h1:ex (nr r)≤2045:=by
  by_cases h0:r=0
  · subst h0;decide
  · have:=yak h0 hr;unfold ex;split<;>omega
 have h2:nd r≤52:=by unfold nd;split<;>omega
 omega
section
variable (w:World)
section
variable (a:Nat) (ha:a<18446744073709551616) (h0:rg a≠0) (hf:rg a<9218868437227405312)
include ha
section
include h0 hf
theorem yvk:Calls prog 62 #[.float .f64 a] w (aD w (.tuple #[.float .f64 (gW a),.int .i64 (mU a)])):=by
 refine zd func62 rfl ntmps62 rfl ?_;have LW:=aB (No) w;have ak:=aP (No) w;have E:=aB (No) w;refine kb ?_;refine zb ac9 (GL _ a ha h0 hf) E fun w1 E=>(yu ?_);exact gi
theorem GZ (k q:Nat) (hk:k<4096) (hq:q<9218868437227405312) (hv:vl q=vl (rg a)*2^k):Calls prog 102 #[.float .f64 a,.int .i64 ((k:Nat):Int)] w (aD w (.float .f64 (Ieee.double.word (ng a) q))):=by
 rcases Nat.lt_or_ge q 4503599627370496 with hn | hn
 · refine GR w a k q ha h0 hf hk hq hv hn (fun e=>?_);subst e;rw[xt] at hv;have h1:0<vl (rg a):=by
    rcases Nat.eq_zero_or_pos (vl (rg a)) with h' | h'
    · exact absurd (ywz.1 h') h0
    · exact h'
   have:=Nat.mul_pos h1 (show 0<2^k from Nat.pow_pos de);omega
 · exact BP w a k q ha h0 hf hk hq hv hn
theorem yvq (k q:Nat) (hk:k<4096) (hq:q<9218868437227405312) (hv:vl q=vl (rg a)*2^k):Calls prog 64 #[.float .f64 a,.int .i64 ((k:Nat):Int)] w (aD w (.float .f64 (Ieee.double.word (ng a) q))):=by
 refine zd func64 rfl ntmps64 rfl ?_;have LW:=aB (No) w;have ak:=aP (No) w;have E:=aB (No) w;refine kb ?_;refine zb UU (GZ _ a ha h0 hf k q hk hq hv) E fun w1 E=>?_;exact GD
end
section
variable (hz:rg a=0)
include hz
theorem BQ:Calls prog 99 #[.float .f64 a] w (aD w (.tuple #[.float .f64 a,.int .i64 0])):=by
 have _:=ha;have hz2:tN a=true:=decide_eq_true hz;refine zd func99 rfl ntmps99 rfl ?_;have LW:=aB (No) w;have ak:=aP (No) w;have E:=aB (No) w;refine qa ?_;refine zuz ?_;refine qk 5 rfl (by rw[zmz,hz2]<;>rfl) (vc ?_);exact gi
theorem jO:Calls prog 62 #[.float .f64 a] w (aD w (.tuple #[.float .f64 a,.int .i64 0])):=by
 refine zd func62 rfl ntmps62 rfl ?_;have LW:=aB (No) w;have ak:=aP (No) w;have E:=aB (No) w;refine kb ?_;refine zb ac9 (BQ _ a ha hz) E fun w1 E=>(yu ?_);exact gi
theorem BR (k:Int):Calls prog 102 #[.float .f64 a,.int .i64 k] w (aD w (.float .f64 a)):=by
 have _:=ha;have hz2:tN a=true:=decide_eq_true hz;refine zd func102 rfl ntmps102 rfl ?_;have LW:=aB (No) w;have ak:=aP (No) w;have E:=aB (No) w;refine yd ?_;refine zuz ?_;refine qk 8 rfl (by rw[zmz,hz2]<;>rfl) (qa ?_);exact gi
theorem jP (k:Int):Calls prog 64 #[.float .f64 a,.int .i64 k] w (aD w (.float .f64 a)):=by
 refine zd func64 rfl ntmps64 rfl ?_;have LW:=aB (No) w;have ak:=aP (No) w;have E:=aB (No) w;refine kb ?_;refine zb UU (BR _ a ha hz k) E fun w1 E=>?_;exact GD
end
section
variable (hi:rg a=9218868437227405312)
include hi
end
end
section
variable (a b:Nat) (ha:a<18446744073709551616) (hbq:b<18446744073709551616) (hz:tN b=false)
include ha hbq hz
section
variable (hf:rg a<9218868437227405312) (hn:aY b=false)
include hf hn
section
variable (ha0:rg a≠0)
include ha0
variable (hq:rg b<9218868437227405312)
include hq
end
end
end
end
theorem oz {P Q:Prop} (k:Q) (h:(Unit→Q)→P:=by
 intro zK;refine za rfl (vu rfl rfl (wrap_u64 om) ?_);exact zK ()):P:=h fun _=>k
theorem jp (m k:Nat) (hk:k<64):((m:Nat):Int).fdiv (2^(min ((k:Nat):Int).toNat IntKind.u64.bits))=((m/2^k:Nat):Int):=by
 rw[Int.toNat_natCast,show min k IntKind.u64.bits=k from Nat.min_eq_left (by show k≤64;omega),Int.fdiv_eq_ediv_of_nonneg _ (Int.le_of_lt (Int.pow_pos de))];rw[show (2:Int)^k=((2^k:Nat):Int) by simp];rfl
theorem jQ (m:Nat):IntKind.u64.wrap ((m:Nat):Int)=((m%18446744073709551616:Nat):Int):=by
 unfold IntKind.wrap;exact Ej
theorem Ye (m k:Nat) (hk:k<64):IntKind.u64.wrap (((m:Nat):Int)*2^(min ((k:Nat):Int).toNat IntKind.u64.bits))=((m*2^k%18446744073709551616:Nat):Int):=by
 rw[Int.toNat_natCast,show min k IntKind.u64.bits=k from Nat.min_eq_left (by show k≤64;omega),show (2:Int)^k=((2^k:Nat):Int) by simp,←Int.natCast_mul];exact jQ _
theorem zkx (m n:Nat):((m:Nat):Int).tmod ((n:Nat):Int)=((m%n:Nat):Int):=rfl
theorem jR {m:Nat} (hm:m<18446744073709551616):IntKind.u64.wrap (BitVec.ofInt IntKind.u64.bits ((m:Nat):Int) &&& BitVec.ofInt IntKind.u64.bits 4503599627370495).toNat=((m%4503599627370496:Nat):Int):=by
 have:=znv (n:=4503599627370495) hm de;rw[show m &&& 4503599627370495=m%4503599627370496 from Nat.and_two_pow_sub_one_eq_mod m 52] at this;exact this
theorem gq {p q:Prop} [Decidable p] [Decidable q] (h:p↔q):(Value.bool (decide p))= .bool (decide q):=by
 congr 1
 by_cases hp:p
 · rw[decide_eq_true hp,decide_eq_true (h.1 hp)]
 · rw[decide_eq_false hp,decide_eq_false (fun k=>hp (h.2 k))]
section
variable (w:World)
theorem nV (a:Nat) (ha:a<18446744073709551616) (hf:rg a<9218868437227405312):Calls prog 77 #[.int .u64 ((a:Nat):Int)] w (aD w (.tuple #[.int .u64 ((mg (rg a):Nat):Int),.int .i64 (((ex (rg a):Nat):Int)-1074)])):=by
 have h1:a/4503599627370496%2048=rg a/4503599627370496:=by unfold rg at *;omega
 have h2:a%4503599627370496=rg a%4503599627370496:=by unfold rg;omega
 have h3:rg a/4503599627370496<2048:=om;refine zd func77 rfl ntmps77 rfl ?_;have LW:=aB (No) w;have ak:=aP (No) w;have E:=aB (No) w;refine qu ?_;refine za rfl (va rfl rfl de (KY a) (za rfl (gm rfl rfl (uU om) (ze 7 (.int .u64 ((rg a/4503599627370496:Nat):Int)) rfl (by rw[h1]<;>rfl) (XW ?_)))));refine yd ?_;refine zg rfl (fun h=>?_) (fun h=>?_)
 ·
  have h:=beq_iff_eq.1 h;have hs:rg a<4503599627370496:=om;refine yl ?_;refine za rfl (gm rfl rfl (jR ha) (zn ?_));exact ⟨by rw[h2,mg,ex,if_pos hs,if_pos hs,Nat.mod_eq_of_lt hs];rfl,aT LW E ak⟩
 ·
  have h:=beq_eq_false_iff_ne.1 h;have hs:¬rg a<4503599627370496:=om;refine ya ?_;refine za rfl (gm rfl rfl (jR ha) (ze 14 (.int .u64 ((rg a%4503599627370496:Nat):Int)) rfl (by rw[h2]<;>rfl) (oz ?_)));refine aN ?_;refine zx ?_;refine zq ?_;exact ⟨by rw[mg,ex,if_neg hs,if_neg hs,show (((rg a/4503599627370496-1:Nat):Int)-1074)=((rg a/4503599627370496:Nat):Int)-1075 from om,Nat.add_comm];rfl,aT LW E ak⟩
section
variable (a b:Nat) (ha:a<18446744073709551616) (hbq:b<18446744073709551616)
include ha hbq
section
variable (ha0:rg a≠0) (hb0:rg b≠0) (hf:rg a<9218868437227405312) (hq:rg b<9218868437227405312)
include ha0 hb0 hf hq
end
end
end
theorem u7 {P Q:Prop} (k:Q) (h:(Unit→Q)→P:=by
 intro zK;refine yu ?_;refine za rfl (jw rfl rfl (wrap_u64 om) (za rfl (vq rfl rfl (wrap_u64 om) (ya ?_))));refine znz (zq ?_);exact zK ()):P:=h fun _=>k
theorem vB {P Q:Prop} (k:Q) (h:(Unit→Q)→P:=by
 intro zK;refine zo ?_;refine fU rfl (jw rfl rfl (wrap_u64 om) (aN ?_));refine fU rfl (jw rfl rfl (wrap_u64 om) (aN ?_));refine fU rfl (vu rfl rfl (wrap_u64 om) (yf ?_));exact zK ()):P:=h fun _=>k
theorem K5 (m n:Nat):((m:Nat):Int).tdiv ((n:Nat):Int)=((m/n:Nat):Int):=rfl
theorem ru {m n:Nat} (h:m<18446744073709551616):IntKind.u64.wrap (((m:Nat):Int).tdiv ((n:Nat):Int))=((m/n:Nat):Int):=by
 rw[K5];exact zjv (Nat.lt_of_le_of_lt (Nat.div_le_self m n) h)
theorem qbq (m n:Nat):IntKind.u64.wrap (((m:Nat):Int)*((n:Nat):Int))=((m*n%18446744073709551616:Nat):Int):=by rw[←Int.natCast_mul];exact jQ _
theorem EM (m n:Nat):IntKind.u64.wrap (((m:Nat):Int)+((n:Nat):Int))=(((m+n)%18446744073709551616:Nat):Int):=by rw[←Int.natCast_add];exact jQ _
theorem ywv {M x y W:Nat} (hW:W<M) (h:(W+y)%M=x%M):((x:Int)-(y:Int))%(M:Int)=(W:Int):=by
 have h':((W:Int)+(y:Int))%(M:Int)=(x:Int)%(M:Int):=by exact_mod_cast h
 rw[Int.sub_emod,←h',←Int.sub_emod,Int.add_sub_cancel];exact Int.emod_eq_of_lt om om
theorem EN {x y W:Nat} (hW:W<18446744073709551616) (h:(W+y)%18446744073709551616=x%18446744073709551616):IntKind.u64.wrap (((x:Nat):Int)-((y:Nat):Int))=((W:Nat):Int):=by
 rw[IntKind.wrap_u64];exact ywv hW h
theorem QV {lo B V:Nat} (hB:B=lo%2147483648) (hV:V=B*8589934592):lo*2^33%18446744073709551616=V:=by
 rw[hV,hB];exact Nat.mul_mod_mul_right 8589934592 lo 2147483648
theorem kl {U d q r:Nat} (hq:q=U/d) (hr:r=U%d):q*d+r=U:=by rw[hq,hr,Nat.mul_comm];exact Nat.div_add_mod U d
theorem xk {r U d:Nat} (hd:0<d) (hr:r=U%d):r<d:=by rw[hr];exact Nat.mod_lt _ hd
theorem nW {M m q r d e f W x y:Nat} (hU:q*d+r=e) (hW:W=r*m+f) (hx:x=(e*m%M+f)%M) (hy:y=q*(d*m)%M):(W+y)%M=x%M:=by
 subst hx hy hW;rw[Nat.mod_mod,Nat.add_mod_mod,Nat.mod_add_mod,←hU,Nat.add_mul,Nat.mul_assoc];congr 1
 omega
theorem QW {hi A B U V1 V0 q1 r1 q0 r0 m h y1 P a M:Nat} (hM:M=m*m) (hM2:M=a*h) (hU:U=hi*h+A) (hV:V1*m+V0=B*h)
 (h1:q1*y1+r1=U) (h3:q0*y1+r0=r1*m+V1) (hy:y1*m=P*h):(hi*M+(A*a+B))*h=(q1*m+q0)*P*h+(r0*m+V0):=by
 have e1:(hi*M+(A*a+B))*h=(hi*h+A)*M+B*h:=by
  rw[Nat.add_mul,Nat.add_mul,Nat.add_mul,Nat.mul_assoc A,←hM2,Nat.mul_right_comm hi M h,Nat.add_assoc]
 have e2:(q1*m+q0)*P*h=(q1*y1*m+q0*y1)*m:=by
  rw[Nat.mul_assoc,←hy,Nat.mul_comm y1 m,←Nat.mul_assoc,Nat.mul_right_comm,Nat.add_mul,Nat.mul_right_comm q1 m y1]
 rw[e1,←hU,←hV,←h1,hM,e2,Nat.add_mul,Nat.add_mul];have e3:q0*y1*m+r0*m=r1*m*m+V1*m:=by rw[←Nat.add_mul,h3,Nat.add_mul]
 rw[←Nat.mul_assoc,←Nat.mul_assoc];omega
theorem af2 {S Q P h m r0 V0 y1:Nat} (h0:0<h) (e:S*h=Q*P*h+(r0*m+V0)) (hr:r0<y1) (hv:V0<m) (hy:y1*m=P*h):∃R,r0*m+V0=R*h∧R<P∧S=Q*P+R:=by
 have hle:Q*P≤S:=Nat.le_of_mul_le_mul_right om h0;obtain ⟨R,rfl⟩:∃R,S=Q*P+R:=⟨S-Q*P,om⟩;rw[Nat.add_mul] at e;have e1:r0*m+V0=R*h:=om;refine ⟨R,e1,?_,rfl⟩;have e2:(r0+1)*m≤y1*m:=Nat.mul_le_mul_right m hr;rw[Nat.add_mul,Nat.one_mul,hy] at e2;exact Nat.lt_of_mul_lt_mul_right (a:=h) om
theorem QX {hi A B U V1 V0 q1 r1 q0 r0:Nat} (hU:U=hi*8589934592+A) (hV:V1*4294967296+V0=B*8589934592)
 (h1:q1*4294967294+r1=U) (h3:q0*4294967294+r0=r1*4294967296+V1) (h4:r0<4294967294) (h5:V0<4294967296) :
 ∃R,r0*4294967296+V0=R*8589934592∧R<2147483647∧hi*18446744073709551616+(A*2147483648+B)=(q1*4294967296+q0)*2147483647+R:=
 af2 de (QW (m:=4294967296) (a:=2147483648) rfl rfl hU hV h1 h3 rfl) h4 h5 rfl
theorem QY:Gives 166 #[.int .u64 2147483647] (.int .i64 31):=by
 intro w;refine zd func166 rfl ntmps166 rfl ?_;have LW:=aB (No) w;have ak:=aP (No) w;have E:=aB (No) w;refine uQ ?_;refine za rfl (va (z:=32767) rfl rfl de kr (ya ?_));refine za rfl (vu (z:=16) rfl rfl kr (uP ?_));refine za rfl (va (z:=127) rfl rfl de kr (ya ?_));refine za rfl (vu (z:=24) rfl rfl kr (zn ?_));refine za rfl (jd (z:=127) underlying5 u25 rfl kr (za rfl (qm (j:=127) (b:=7) u9 rfl rfl rfl kr (za rfl (jd (z:=7) underlying3 underlying5 rfl kr (za rfl (vu (z:=31) rfl rfl kr (yf ?_))))))));refine oq (rs:=[.tmp 2]) (vs:=[.int .i64 31]) rfl ⟨rfl,trivial⟩ ?_;exact gi
theorem QZ:Gives 139 #[.int .u64 2147483647] (.int .i64 33):=by
 intro w;refine zd func139 rfl ntmps139 rfl ?_;have LW:=aB (No) w;have ak:=aP (No) w;have E:=aB (No) w;refine yu ?_;refine zb KF (QY _) E fun w1 E=>(za rfl (vq (z:=33) rfl rfl kr (yf ?_)));refine oq (rs:=[.tmp 2]) (vs:=[.int .i64 33]) rfl ⟨rfl,trivial⟩ ?_;exact gi
section
variable (w:World)
theorem vC (hi lo:Nat) (h1:hi<2147483647) (h2:lo<18446744073709551616):Calls prog 103 #[.int .u64 ((hi:Nat):Int),.int .u64 ((lo:Nat):Int),.int .u64 2147483647] w (aD w (.tuple #[.int .u64 (((hi*18446744073709551616+lo)/2147483647:Nat):Int),.int .u64 (((hi*18446744073709551616+lo)%2147483647:Nat):Int)])):=by
 obtain ⟨A,hA⟩:∃A,A=lo/2147483648:=⟨_,rfl⟩;obtain ⟨B,hB⟩:∃B,B=lo%2147483648:=⟨_,rfl⟩;obtain ⟨U,hU⟩:∃U,U=hi*8589934592+A:=⟨_,rfl⟩;obtain ⟨V,hV⟩:∃V,V=B*8589934592:=⟨_,rfl⟩;have eV:lo*2^33%18446744073709551616=V:=QV hB hV;have eA:lo/2^31=A:=hA.symm;have ehi:hi*2^33%18446744073709551616=hi*8589934592:=Nat.mod_eq_of_lt (Nat.lt_of_lt_of_le (Nat.mul_lt_mul_of_pos_right h1 de) de);have bA:A<8589934592:=om;have eor:hi*8589934592 ||| A=U:=by rw[hU];exact jG 33 bA (Nat.mul_mod_left hi 8589934592)
 have bB:B<2147483648:=xk de hB;obtain ⟨V1,hV1⟩:∃V1,V1=V/4294967296:=⟨_,rfl⟩;obtain ⟨V0,Vk⟩:∃V0,V0=V%4294967296:=⟨_,rfl⟩;obtain ⟨q1,hq1⟩:∃q1,q1=U/4294967294:=⟨_,rfl⟩;obtain ⟨r1,hr1⟩:∃r1,r1=U%4294967294:=⟨_,rfl⟩;obtain ⟨W,hW⟩:∃W,W=r1*4294967296+V1:=⟨_,rfl⟩;obtain ⟨q0,hq0⟩:∃q0,q0=W/4294967294:=⟨_,rfl⟩;obtain ⟨r0,hr0⟩:∃r0,r0=W%4294967294:=⟨_,rfl⟩;obtain ⟨R,e1,e2,e3⟩:=QX (hi:=hi) (A:=A) (B:=B) (U:=U) (V1:=V1) (V0:=V0) (q1:=q1) (r1:=r1) (q0:=q0) (r0:=r0) hU ((kl hV1 Vk).trans hV) (kl hq1 hr1) ((kl hq0 hr0).trans hW) (xk de hr0) (xk de Vk);have elo:A*2147483648+B=lo:=kl hA hB;have b1:=xk de hr1;have b0:=xk de hr0;have bV0:=xk de Vk;rw[elo] at e3;have eR:(hi*18446744073709551616+lo)%2147483647=R:=by rw[e3,Nat.add_comm,Nat.add_mul_mod_self_right,Nat.mod_eq_of_lt e2]
 have eQ:(hi*18446744073709551616+lo)/2147483647=q1*4294967296+q0:=by rw[e3,Nat.add_comm,Nat.add_mul_div_right _ _ de,Nat.div_eq_of_lt e2,Nat.zero_add]
 have bU:U<18446744073709551616:=om;have bq1:q1<4294967296:=om;have bq0:q0<4294967296:=om;have bW:W<18446744073709551616:=om;refine zd func103 rfl ntmps103 rfl ?_;have LW:=aB (No) w;have ak:=aP (No) w;have E:=aB (No) w;refine Vd ?_;refine yn 24 rfl (by rw[decide_eq_false om]<;>rfl) (yd ?_);refine zg rfl (fun h=>?_) (fun h=>?_)
 ·
  have h:=beq_iff_eq.1 h;obtain rfl:hi=0:=om;refine aN ?_;have OY:∀q9,(ah (oj [])) q9→q9<(World.drew w).heap.size→(No) q9:=fun k h _=>(ah.none_) k h;refine qr (No) ah.none_ [] [] (gH [Fx.of (.int .u64 ((lo:Nat):Int)),
   Fx.of (.int .u64 2147483647),
   Fx.of (.int .u64 ((lo/2147483647:Nat):Int)),
   Fx.of (.int .u64 ((lo:Nat):Int)),
   Fx.of (.int .u64 2147483647),
   Fx.of (.int .u64 ((lo%2147483647:Nat):Int)),
   Fx.of (.int .u64 ((lo/2147483647:Nat):Int)),
   Fx.of (.int .u64 ((lo%2147483647:Nat):Int))]) mixed rfl trivial (fun _ h=>by cases h) ?_ ?_
  · refine ⟨arm,arm,?_,arm,arm,?_,arm,arm,trivial⟩
    · refine yt ?_;intro vs X wq K;exact Qg (z:=((lo/2147483647:Nat):Int)) rfl rfl de (ru (n:=2147483647) h2) ⟨Below.refl _ _,Left.of rfl⟩
    · refine yt ?_;intro vs X wq K;exact ju (z:=((lo%2147483647:Nat):Int)) rfl rfl de (zkx lo 2147483647) ⟨Below.refl _ _,Left.of rfl⟩
  intro vs w1 LE AO AL AF AA;replace E:=E.drew.trans (LE.mono OY);obtain ⟨_,e6,k6⟩:=AL.2.2.2.2.2.2.1;obtain ⟨_,e7,k7⟩:=AL.2.2.2.2.2.2.2.1;refine jz (τ:=[(0,_),(1,_),(2,_),(6,.int .u64 ((lo/2147483647:Nat):Int)),(7,.int .u64 ((lo%2147483647:Nat):Int))]) ⟨rfl,rfl,rfl,congrArg some e6,congrArg some e7,trivial⟩ ?_;clear AL AF AA LE AO OY e6 e7 k6 k7;refine yf ?_;exact ⟨by rw[Nat.zero_mul,Nat.zero_add];rfl,aT LW E ak⟩
 ·
  refine ya ?_;refine zb ad5 (QZ _) E fun w2 E=>(za rfl (jd (z:=33) u53 underlying3 rfl kr (zn ?_)));refine za rfl (gl (z:=18446744065119617024) rfl rfl de kr (zq ?_));refine za rfl (va (z:=4294967294) rfl rfl de kr (zq ?_));refine za rfl (gm (z:=0) rfl rfl kr (zn ?_));refine za rfl (gl rfl rfl de (Ye hi 33 de) (ze 46 (.int .u64 ((hi*8589934592:Nat):Int)) rfl (by rw[ehi]<;>rfl) (zo ?_)));refine za rfl (vq (z:=31) rfl rfl kr (za rfl (va rfl rfl de (jp lo 31 de) (ze 50 (.int .u64 ((A:Nat):Int)) rfl (by rw[eA]<;>rfl) (za rfl (Uz rfl rfl (Vh om om) (ze 51 (.int .u64 ((U:Nat):Int)) rfl (by rw[eor]<;>rfl) (zn ?_))))))));refine za rfl (gl rfl rfl de (Ye lo 33 de) (ze 54 (.int .u64 ((V:Nat):Int)) rfl (by rw[eV]<;>rfl) (zq ?_)));refine za rfl (va rfl rfl de (jp V 32 de) (ze 56 (.int .u64 ((V1:Nat):Int)) rfl (by rw[hV1]<;>rfl) (zq ?_)));refine za rfl (gm rfl rfl (znv (n:=4294967295) om de) (ze 58 (.int .u64 ((V0:Nat):Int)) rfl (by rw[show V &&& 4294967295=V%4294967296 from Nat.and_two_pow_sub_one_eq_mod V 32,Vk]<;>rfl) (zn ?_)));refine za rfl (Qg (z:=((U/4294967294:Nat):Int)) rfl rfl de (ru (n:=4294967294) bU) (ze 61 (.int .u64 ((q1:Nat):Int)) rfl (by rw[hq1]<;>rfl) (u7 ?_)));refine ze 16 (.int .u64 ((r1:Nat):Int)) rfl (by congr 1;omega) (gy 69 rfl (by rw[decide_eq_false om]<;>rfl) (vB ?_));refine yn 78 rfl (by rw[decide_eq_false om]<;>rfl) (qu ?_);refine za rfl (jw rfl rfl (qbq U 4294967296) (aN ?_));refine za rfl (vu rfl rfl (EM _ V1) (zo ?_));refine za rfl (jw rfl rfl (qbq q1 18446744065119617024) (za rfl (vq (z:=((W:Nat):Int)) rfl rfl (EN bW (nW (m:=4294967296) (kl hq1 hr1) hW rfl rfl)) (zn ?_))));refine za rfl (Qg (z:=((W/4294967294:Nat):Int)) rfl rfl de (ru (n:=4294967294) bW) (ze 96 (.int .u64 ((q0:Nat):Int)) rfl (by rw[hq0]<;>rfl) (u7 ?_)));refine ze 16 (.int .u64 ((r0:Nat):Int)) rfl (by congr 1;omega) (gy 104 rfl (by rw[decide_eq_false om]<;>rfl) (vB ?_));refine yn 113 rfl (by rw[decide_eq_false om]<;>rfl) (qu ?_);refine za rfl (jw rfl rfl (wrap_u64 om) (aN ?_));refine oz ?_;refine aN ?_;refine ze 124 (.int .u64 ((q1*4294967296+q0:Nat):Int)) rfl (by rw[Int.natCast_add,Int.natCast_mul];rfl) (za rfl (jw rfl rfl (qbq W 4294967296) (aN ?_)));refine za rfl (vu rfl rfl (EM _ V0) (zo ?_));refine za rfl (jw rfl rfl (qbq q0 18446744065119617024) (za rfl (vq (z:=((R*8589934592:Nat):Int)) rfl rfl (EN (Nat.lt_of_lt_of_le (Nat.mul_lt_mul_of_pos_right e2 de) de) (nW (m:=4294967296) (kl hq0 hr0) e1.symm rfl rfl)) (aN ?_))));refine za rfl (va rfl rfl de (jp (R*8589934592) 33 de) (ze 134 (.int .u64 ((R:Nat):Int)) rfl (by rw[show R*8589934592/2^33=R from Nat.mul_div_cancel R (show 0<8589934592 from de)]<;>rfl) (zq ?_)));exact ⟨by rw[eR,eQ];rfl,aT LW E ak⟩
theorem ysx (hi lo:Nat) (h1:hi<18446744073709551616) (h2:lo<18446744073709551616):Calls prog 66 #[.int .u64 ((hi:Nat):Int),.int .u64 ((lo:Nat):Int),.int .u64 2147483647] w (aD w (.int .u64 (((hi*18446744073709551616+lo)%2147483647:Nat):Int))):=by
 have e:(hi%2147483647*18446744073709551616+lo)%2147483647=(hi*18446744073709551616+lo)%2147483647:=om;have _:=h1;refine zd func66 rfl ntmps66 rfl ?_;have LW:=aB (No) w;have ak:=aP (No) w;have E:=aB (No) w;refine qu ?_;refine za rfl (ju (z:=((hi%2147483647:Nat):Int)) rfl rfl de (zkx hi 2147483647) (zo ?_));refine zb UW (vC _ (hi%2147483647) lo (Nat.mod_lt _ de) h2) E fun w1 E=>(oe ?_);exact ⟨by rw[←e];rfl,aT LW E ak⟩
end
end
theorem nX {r:Nat} (hr:r<9218868437227405312) (h0:r≠0):gW r<9218868437227405312∧gW r≠0∧vl (gW r)=mg (nr r)*2^1021:=by
 obtain ⟨m1,m2⟩:=jM h0;obtain ⟨p1,p2⟩:=zpq (e:=1021) m1 m2;have e:gW r=1021*4503599627370496+mg (nr r):=by rw[EK hr];omega
 refine ⟨om,om,?_⟩;rw[e,vl,p1,p2]
theorem Vl {r:Nat} (h0:r≠0):vl (1074*4503599627370496+mg (nr r))=mg (nr r)*2^1074∧1074*4503599627370496+mg (nr r)<9218868437227405312:=by
 obtain ⟨m1,m2⟩:=jM h0;obtain ⟨p1,p2⟩:=zpq (e:=1074) m1 m2;refine ⟨?_,om⟩;show mg _*2^ex _=_
 rewrite [p1,p2];rfl
def Vw (W:World) (base:Nat) (key:Option Nat) (n:Nat) (xs:List Value) (e:Ending) (w':World):Prop:=
 ∃A c,e= .returned (.slice A n c)∧w'.ownsRow base 5 1 (.slice A n c) n xs∧Ext (ah [key]) W w'∧ ∀q,(Value.slice A n c).ownBlock=some q→key=some q∨W.heap.size≤q
theorem vR {r r':Option Nat} {n:Nat} (h:∀q,ah [r'] q→ah [r] q∨n≤q):∀q,r'=some q→r=some q∨n≤q:=fun q e=>(h q (Or.inl e.symm)).imp (fun h=>h.elim (fun e=>e.symm) (fun e=>e.elim)) id
section
attribute [local irreducible] OW RS CW EW
theorem gI.isn {r:Nat} {w w':World} (h:gI none r w w'):aY r=true:=by
 rcases h with ⟨h1,_⟩ | ⟨_,hn,_⟩
 · cases h1
 · exact Eu hn
theorem gI.nan {z:Option Nat} {r:Nat} {w w':World} (h:gI z r w w') (hz:z=none):aY r=true:=by subst hz;exact h.isn
theorem I9 {m:Nat} (h:aY m=false):BK m=m:=by rw[BK,if_neg (by rw[h];decide)]
section
variable (w:World)
section
variable (a b:Nat) (ha:a<18446744073709551616) (hbq:b<18446744073709551616) (hz:tN b=false)
include ha hbq hz
section
variable (hf:rg a<9218868437227405312) (hn:aY b=false)
include hf hn
end
end
end
end
def au1 (l:List Oper) (m:Nat):Bool:=Nat.beq (m+1) l.length&&Em 0 (l.take m) []&&(l.take m).all fun o=>match o.guard with
 | some (g,_)=>Nat.blt g m
 | none=>true
section
variable {P:Program} {N:Nat} {Q:Exit→Act→World→Prop} {σ:Env} {w:World} {l:List Oper}
end
section
variable {P:Program} {N:Nat} {Q:Exit→Act→World→Prop} {σ:Env} {w0:World} {l:List Oper} {F:Nat→Fx} {q:Nat} {Z:Nat→Prop}
def Dw (ops:Array Oper) (Z:Nat→Prop) (F:Nat→Fx) (w0:World) (vs:Nat→Value) (X:Nat→Prop) (w:World) (i:Nat):Prop:=
 Ext Z w0 w∧(∀k,X k→k<w.heap.size)∧ ∀j∈qg ops i,Left X w (F j) (vs j)
theorem Dw.dep {ops:Array Oper} {vs:Nat→Value} {X:Nat→Prop} {w:World} {i:Nat} (K:Dw ops Z F w0 vs X w i) (j:Nat) (h:fB j (qg ops i)=true) (_:True=True) (_:True=True):Left X w (F j) (vs j):=K.2.2 j (jh.1 h)
def al1 (P:Program) (N:Nat) (ops:Array Oper) (Q:Exit→Act→World→Prop) (σ:Env) (q:Nat) (Z:Nat→Prop) (F:Nat→Fx) (w0:World) (i:Nat) (o:Oper):Prop:=
 ∀vs X w,Dw ops Z F w0 vs X w i→(Nat.beq i q=true→Ext No w0 w)→OW P N ops Q o (kt σ ops vs i) w (fun v w'=>match Nat.beq i q with
  | true=>Ext Z w w'∧Left No w' (F i) v
  | false=>Below w.heap.size w w'∧Left X w' (F i) v)
def ZF (P:Program) (N:Nat) (ops:Array Oper) (Q:Exit→Act→World→Prop) (σ:Env) (q:Nat) (Z:Nat→Prop) (F:Nat→Fx) (w0:World):Nat→List Oper→Prop
 | _,[]=>True
 | i,o::l=>al1 P N ops Q σ q Z F w0 i o∧ZF P N ops Q σ q Z F w0 (i+1) l
def Yet (listed:Array Bool) (q:Nat) (Z:Nat→Prop) (k:Nat):Prop:=¬Ran listed q∧Z k
structure NZ (N:Nat) (l:List Oper) (σ:Env) (w0:World) (q:Nat) (Z:Nat→Prop) (F:Nat→Fx) (listed:Array Bool) (a:Act) (w:World) (vs:Nat→Value):Prop where
 size:listed.size=l.length
 defers:a.defers= []
 tmps:a.tmps.size=N
 kept:∀t v,lk t (uj (uh l) σ)=some v→a.tmps[t]? =some v
 ran:∀i d,Ran listed i→ug l.toArray i=some d→a.tmps[d]? =some (vs i)
 old:∀i d v,¬Ran listed i→ug l.toArray i=some d→lk d σ=some v→a.tmps[d]? =some v
 down:∀i,Ran listed i→ ∀j∈qg l.toArray i,Ran listed j
 ext:Ext (fun k=>Ran listed q∧Z k) w0 w
 facts:∀i,Ran listed i→Left (Yet listed q Z) w (F i) (vs i)
theorem NZ.at_ {listed:Array Bool} {a:Act} {w:World} {vs:Nat→Value} (m:NZ N l σ w0 q Z F listed a w vs) {i:Nat} (hi:¬Ran listed i) (hd:∀j∈qg l.toArray i,Ran listed j):At N (kt σ l.toArray vs i) a:=by
 exact Ur
theorem NZ.step (hrow:Em 0 l []=true) {listed:Array Bool} {a:Act} {w w':World} {vs:Nat→Value} (m:NZ N l σ w0 q Z F listed a w vs) {i:Nat} {o:Oper} (ho:l[i]? =some o) (hi:¬Ran listed i) (hd:∀j∈qg l.toArray i,Ran listed j)
 (hN:∀d,o.dst=some d→d<N) (v:Value) (hext:Ext (fun k=>Ran (listed.setIfInBounds i true) q∧Z k) w0 w')
 (Br:∀j,Ran listed j→Left (Yet (listed.setIfInBounds i true) q Z) w' (F j) (vs j)) (hfact:Left (Yet (listed.setIfInBounds i true) q Z) w' (F i) v) :
 NZ N l σ w0 q Z F (listed.setIfInBounds i true) (a.put o.dst v) w' (fun j=>if j=i then v else vs j):=by
 have hil:i<listed.size:=by rw[m.size];exact (List.getElem?_eq_some_iff.1 ho).1
 have hne:∀ {j},Ran listed j→j≠i:=fun h e=>hi (e▸h);have hput:∀t,o.dst≠some t→ ∀v',a.tmps[t]? =some v'→(a.put o.dst v).tmps[t]? =some v':=by
  intro t ht v' h;cases hd:o.dst with
  | none=>exact h
  | some d=>
   have:d≠t:=fun e=>ht (by rw[hd,e]);simpa [Act.put,Array.getElem?_setIfInBounds_ne this] using h
 refine ⟨by simpa using m.size,?_,?_,?_,?_,?_,?_,hext,?_⟩
 · cases hd:o.dst<;>exact m.defers
 · cases hd:o.dst
   · exact m.tmps
   · simpa [Act.put] using m.tmps
 · exact Uj
 · exact Us
 · exact Uq
 · exact Uk
 · intro j hj;rcases (kc hil).1 hj with rfl | hj
   · rw[if_pos rfl];exact hfact
   · rw[if_neg (hne hj)];exact Br j hj
end
theorem nD {g k:Nat} (h:ah [some g] k):k=g:=by
 rcases h with h | h
 · exact Option.some.inj h
 · exact h.elim
theorem Ext.noL (a:Nat) {w1 w2:World} (h:Ext No w1 w2):Ext (fun q=>a≤q) w1 w2:=h.mono fun _ h _=>h.elim
section
variable {w w':World} {X:Nat→Prop} {base base' n n' s s':Nat} {e e':TypeId} {v v':Value} {xs xs':List Value}
theorem qbz {a:Option Nat} {k:Nat} (h:ah [a] k):a=some k:=by
 rcases h with h | h
 · exact h.symm
 · exact h.elim
theorem lT {g:Nat} (h:w.ownsRow base e s v n xs) (hg:v.ownBlock=some g):∃cur,aA w g e cur:=by
 rcases h.2 with ⟨rfl,_⟩ | ⟨g',cap,cur,rfl,_,hh,_⟩
 · cases hg
 · obtain rfl:g'=g:=by injection hg
   exact ⟨cur,hh⟩
theorem vw (h:w.ownsRow base e s v n xs) (k:Ext X w w') (hn:∀g,v.ownBlock=some g→ ¬X g):w'.ownsRow base e s v n xs:=by
 rcases h.2 with h0 | ⟨g,cap,cur,rfl,hb,hh,r⟩
 · exact ⟨h.1,Or.inl h0⟩
 · exact ⟨h.1,Or.inr ⟨g,cap,cur,rfl,hb,aA.ext (show aA w g e cur from hh) k (hn g rfl),r⟩⟩
theorem zQ {g:Nat} {t t':TypeId} {cs cs':Array Value} (h:aA w g t cs) (h':aA w g t' cs'):t=t':=by
 unfold aA at h h';rw[h] at h';injection h' with h'
 injection h' with h1 h2 h3
theorem o7 {g:Nat} {t:TypeId} {cs:Array Value} (h:aA w g t cs) (h':w.ownsRow base' e' s' v' n' xs') (hne:t≠e') (k:Ext (ah [v'.ownBlock]) w w'):aA w' g t cs:=
 h.ext k fun hx=>by
  obtain ⟨c2,h2⟩:=lT h' (qbz hx);exact hne (zQ h h2)
theorem xx {g:Nat} {t:TypeId} {cs:Array Value} (h:w.ownsRow base e s v n xs) (h':aA w g t cs) (hne:e≠t) (k:Ext (ah [some g]) w w'):w'.ownsRow base e s v n xs:=
 vw h k fun g' hg hx=>by
  obtain ⟨c1,h1⟩:=lT h hg;obtain rfl:g'=g:=nD hx;exact hne (zQ h1 h')
end
section
variable {P:Program} {N:Nat} {ops:Array Oper} {Q:Exit→Act→World→Prop} {σ:Env} {w:World} {ty:TypeId} {pos:String} {af:Array Edge} {dst:Option Nat} {Post:Value→World→Prop}
theorem yfv {T e:TypeId} {x y:Operand} {z:Value} {size bytes base n n' B m c:Nat} {v:Value} {xs news xs':List Value} {A:Option Addr} (hd:P.underlying T=some (.slice e)) (hi:iK P e z size bytes) (hzs:z.cells.size=size) (hsz:0<size)
 (hx:ev σ x=some v) (hown:w.ownsRow base e size v n xs) (hy:ev σ y=some (.slice A m c)) (hr:Reads w B size A m news) (h1:∀u∈news,u.oneCell'=true) (hn:n+m=n') (hxs:xs++news=xs') (h63:n'≤maxLen) (hbytes:n'*bytes≤140737488355328) (hbase:base≤w.heap.size)
 (k:∀A' c' w',w'.ownsRow base e size (.slice A' n' c') n' xs'→Ext (ah [v.ownBlock]) w w'→(∀k,(Value.slice A' n' c').ownBlock=some k→v.ownBlock=some k∨w.heap.size≤k)→Post (.slice A' n' c') w'):OW P N ops Q ⟨dst,.call ⟨.builtin .append,#[x,y],#[T,T]⟩,ty,pos,af,none⟩ σ w Post:=by
 subst hn hxs;refine qe hd hi hzs hsz hx hown hy hr h1 h63 hbytes hbase fun v' w' g1 g2 g3=>?_;obtain ⟨A',c',rfl⟩:=zp g1;exact k A' c' w' g1 g2 g3
end
theorem N7 {w:World} {b n s:Nat} {e:TypeId} {v:Value} {xs:List Value} (h:w.ownsRow b e s v n xs):∀q,ah [v.ownBlock] q→b≤q:=fun q hq=>qav h q (qbz hq)
section
variable {P:Program} {N:Nat} {ops:Array Oper} {Q:Exit→Act→World→Prop} {σ:Env} {w:World} {ty:TypeId} {pos:String} {af:Array Edge} {dst:Option Nat} {Post:Value→World→Prop}
end
theorem lU {P:Program} {N:Nat} {ops:Array Oper} {Q:Exit→Act→World→Prop} {σ:Env} {w:World} {dst:Option Tmp} {ty:TypeId} {pos:String} {af:Array Edge} {Post:Value→World→Prop} {T e:TypeId} {n s:Nat} {z:Value} {ps:List (Nat×Operand)} {vs:List (Nat×Value)} {cs:Array Value} (hd:P.underlying T=some (.slice e)) (hs:yv P e s) (hz:kj P e z) (hn:n*s≤1024) (hv:Xp σ ps=some vs)
 (hf:Instr.fill (fun i=>some (i*s,s)) ((Array.range (n*s)).map ((if n*s=0 then #[] else z.cells)[· %(if n*s=0 then #[] else z.cells).size]!)) vs=some cs)
 (k:∀g w',aA w' g e cs→Below w.heap.size w w'→w.heap.size≤g→Post (.slice (some ⟨g,0,none⟩) n n) w'):OW P N ops Q ⟨dst,.buildSlice T n ps.toArray,ty,pos,af,none⟩ σ w Post:=
 zv hd hs hz hn hv hf fun g w' h1 h2 h3=>k g w' h1 h2.toBelow h3
end Go.Proofs.YtdofcnodhgaedaaGreatDoor
namespace Go.Proofs.YtdofcnodhgaedaaGreatDoor
open Ieee
def ao2 (z:Nat):Prop:=rg z=9218868437227405312∨(rg z<9218868437227405312∧QU (rg z))
section
variable {a b:Nat} (ha:a<18446744073709551616) (hf:rg a<9218868437227405312) (hb:b<18446744073709551616) (hn:aY b=false) (h0:rg b≠0)
include ha hf hn h0
include hb
end
end Go.Proofs.YtdofcnodhgaedaaGreatDoor
namespace Go.Proofs.YtdofcnodhgaedaaGreatDoor
open Go.RowKit Ieee
structure Sgn (n:Bool) (b:Nat):Prop where
 num:aY b=false
 sg:ng b=n
 lt:b<18446744073709551616
end Go.Proofs.YtdofcnodhgaedaaGreatDoor
namespace Go.Proofs.YtdofcnodhgaedaaGreatDoor
open Go.RowKit Proofs.Tryz
structure Dec where
 d:List Nat
 nd:Nat
 dp:Int
 neg:Bool
 tr:Bool
def dg (l:List Nat) (i:Nat):Nat:=l.getD i 48
def auj (t:Dec):List Value:=t.d.map (fun b=>(.int .u8 ((b:Nat):Int):Value))++ [.int .i64 (t.nd:Int),.int .i64 t.dp,.bool t.neg,.bool t.tr]
def av0 (t:Dec):Array Value:=(auj t).toArray
section
variable {t:Dec} (h:t.d.length=800)
include h
end
attribute [irreducible] av0
structure Z6 (t:Dec):Prop where
 len:t.d.length=800
 hn:t.nd≤800
 D7:∀i,i<t.nd→48≤dg t.d i∧dg t.d i≤57
 lead:0<t.nd→49≤dg t.d 0
def Pd (d:List Nat):Nat→Nat
 | 0=>0
 | n+1=>if dg d n=48 then Pd d n else n+1
def WX (t:Dec):Dec:={ t with nd:=Pd t.d t.nd,dp:=if Pd t.d t.nd=0 then 0 else t.dp }
structure pJ where
 r:Nat
 n:Nat
def Tt (t:Dec) (k:Nat) (s:pJ):Bool:=decide (s.n/2^k≠0∨t.nd≤s.r)
def Tv (t:Dec) (s:pJ):pJ:=⟨s.r+1,s.n*10+(dg t.d s.r-48)⟩
def Tw (k:Nat) (s:pJ):Bool:=decide (s.n/2^k≠0)
def Tx (s:pJ):pJ:=⟨s.r+1,s.n*10⟩
noncomputable def rsA (t:Dec) (k:Nat):pJ:=xe (Tt t k) (Tv t) ⟨0,0⟩
noncomputable def rsB (t:Dec) (k:Nat):pJ:=xe (Tw k) Tx (rsA t k)
structure RsC where
 d:List Nat
 r:Nat
 w:Nat
 n:Nat
def Tz (t:Dec) (s:RsC):Bool:=decide (t.nd≤s.r)
def TA (k:Nat) (s:RsC):RsC:=⟨s.d.set s.w (s.n/2^k+48),s.r+1,s.w+1,s.n%2^k*10+(dg s.d s.r-48)⟩
noncomputable def rsC (t:Dec) (k:Nat):RsC:=xe (Tz t) (TA k) ⟨t.d,(rsB t k).r,0,(rsB t k).n⟩
structure RsE where
 d:List Nat
 w:Nat
 n:Nat
 tr:Bool
def TB (s:RsE):Bool:=decide (s.n=0)
def TD (k:Nat) (s:RsE):RsE:=
 if s.w<800 then ⟨s.d.set s.w (s.n/2^k+48),s.w+1,s.n%2^k*10,s.tr⟩
 else ⟨s.d,s.w,s.n%2^k*10,if 0<s.n/2^k then true else s.tr⟩
noncomputable def rsE (t:Dec) (k:Nat):RsE:=xe TB (TD k) ⟨(rsC t k).d,(rsC t k).w,(rsC t k).n,t.tr⟩
noncomputable def D8 (t:Dec) (k:Nat):Dec:=WX { t with d:=(rsE t k).d,nd:=(rsE t k).w,dp:=t.dp-(((rsB t k).r:Nat)-1),tr:=(rsE t k).tr }
structure azx (t:Dec) (k:Nat) (s:pJ):Prop where
 hr:s.r≤t.nd
 hn:s.n<10*2^k
 zero:s.r=0→s.n=0
 pos:0<s.r→0<s.n
 one:s.r=1→s.n=dg t.d 0-48
structure av1 (t:Dec) (k:Nat) (s:pJ):Prop where
 hn:s.n<10*2^k
 pos:0<s.n
 hr:0<s.r
 one:s.r=1→s.n=dg t.d 0-48
 far:s.r≤t.nd∨10^(s.r-t.nd)≤s.n
def azj (t:Dec) (k:Nat) (s:pJ):Prop:=av1 t k s∧(s.n/2^k≠0∨t.nd≤s.r)
structure aA0 (t:Dec) (k r0:Nat) (s:RsC):Prop where
 len:s.d.length=800
 hw:s.r=s.w+r0
 hr:s.w=0∨s.r≤t.nd
 old:∀i,s.w≤i→dg s.d i=dg t.d i
 D7:∀i,i<s.w→48≤dg s.d i∧dg s.d i≤57
 lead:0<s.w→49≤dg s.d 0∧(r0=1→dg s.d 0<dg t.d 0)
 hn:s.n<10*2^k
 first:s.w=0→2^k≤s.n∧(r0=1→s.n=dg t.d 0-48)
structure aA1 (t:Dec) (k r0:Nat) (s:RsE):Prop where
 len:s.d.length=800
 hw:s.w≤800
 D7:∀i,i<s.w→48≤dg s.d i∧dg s.d i≤57
 lead:0<s.w→49≤dg s.d 0∧(r0=1→dg s.d 0<dg t.d 0)
 hn:s.n<10*2^k
 first:s.w=0→2^k≤s.n∧(r0=1→s.n=dg t.d 0-48)
end Go.Proofs.YtdofcnodhgaedaaGreatDoor
namespace Go.Proofs.YtdofcnodhgaedaaGreatDoor
open Go.RowKit Proofs.Tryz
def Gl:List Nat→List Nat→Bool
 | _,[]=>false
 | [],_::_=>true
 | b::bs,c::cs=>if b=c then Gl bs cs else decide (b<c)
def dval:List Nat→Nat
 | []=>0
 | c::l=>(c-48)*10^l.length+dval l
def am8 (l:List Nat):Prop:=∀c∈l,48≤c∧c≤57
def Tail:List Nat→Prop
 | []=>True
 | [c]=>49≤c
 | _::l=>Tail l
def WY (d:List Nat) (nd:Nat):Nat→Nat
 | 0=>0
 | m+1=>(dg d (nd-1-m)-48)*10^m+WY d nd m
def cy (t:Dec) (k m:Nat):Nat:=WY t.d t.nd m*2^k/10^m
def Pe (k:Nat):Nat:=if k≤3 then 1 else if k=6 then 2 else if k=9 then 3 else if k=13 then 4 else if k=16 then 5 else if k=19 then 6 else if k=23 then 7 else if k=26 then 8 else if k=27 then 9 else 16
def am9 (n:Nat):Nat→List Nat
 | 0=>[]
 | m+1=>(n/10^m%10+48)::am9 n m
def lcL (k:Nat):Nat:=k+1-Pe k
def lcS (k:Nat):List Nat:=am9 (5^k) (lcL k)
def Shl (k:Nat):Prop:=k=1∨k=3∨k=6∨k=9∨k=13∨k=16∨k=19∨k=23∨k=26∨k=27∨k=53
structure aA2 (k:Nat):Prop where
 k1:1≤k∧k≤60
 d1:1≤Pe k∧Pe k≤16
 up:2^k≤10^Pe k
 lo:10^(Pe k-1)≤2^k
 cut:10^(Pe k-1)*10^(lcS k).length=dval (lcS k)*2^k
 aI:am8 (lcS k)
 tail:Tail (lcS k)
instance (l:List Nat):Decidable (am8 l):=inferInstanceAs (Decidable (∀c∈l,48≤c∧c≤57))
def TF (t:Dec) (k:Nat):Nat:=if Gl (t.d.take t.nd) (lcS k) then Pe k-1 else Pe k
structure Pf where
 d:List Nat
 r:Nat
 w:Nat
 n:Nat
 tr:Bool
def WZ (d:List Nat) (w x:Nat):List Nat:=if w<800 then d.set w (x+48) else d
def amq (tr:Bool) (w x:Nat):Bool:=if w<800 then tr else if x≠0 then true else tr
def lsN (k:Nat) (s:Pf):Nat:=s.n+(dg s.d (s.r-1)-48)*2^k
def TG (s:Pf):Bool:=decide (s.r=0)
def TH (k:Nat) (s:Pf):Pf:=⟨WZ s.d (s.w-1) (lsN k s%10),s.r-1,s.w-1,lsN k s/10,amq s.tr (s.w-1) (lsN k s%10)⟩
def TI (s:Pf):Bool:=decide (s.n=0)
def TJ (s:Pf):Pf:=⟨WZ s.d (s.w-1) (s.n%10),s.r,s.w-1,s.n/10,amq s.tr (s.w-1) (s.n%10)⟩
noncomputable def lsA (t:Dec) (k:Nat):Pf:=xe TG (TH k) ⟨t.d,t.nd,t.nd+TF t k,0,t.tr⟩
noncomputable def lsB (t:Dec) (k:Nat):Pf:=xe TI TJ (lsA t k)
noncomputable def D9 (t:Dec) (k:Nat):Dec:=WX { t with d:=(lsB t k).d,nd:=if 800≤t.nd+TF t k then 800 else t.nd+TF t k,dp:=t.dp+((TF t k:Nat):Int),tr:=(lsB t k).tr }
structure aA3 (t:Dec) (k:Nat) (s:Pf):Prop where
 len:s.d.length=800
 hw:s.w=s.r+TF t k
 hr:s.r≤t.nd
 old:∀i,i<s.r→dg s.d i=dg t.d i
 hn:s.n=cy t k (t.nd-s.r)
 zi:s.n<2^k
 D7:∀i,s.w≤i→i<t.nd+TF t k→i<800→48≤dg s.d i∧dg s.d i≤57
 last:s.r<t.nd→s.w<800→dg s.d s.w=(cy t k (t.nd-s.r-1)+(dg t.d s.r-48)*2^k)%10+48
structure aA4 (t:Dec) (k:Nat) (s:Pf):Prop where
 len:s.d.length=800
 hw:s.w≤TF t k
 hn:(s.w=0∧s.n=0)∨(0<s.w∧10^(s.w-1)≤s.n∧s.n<10^s.w)
 zi:s.n<2^k
 D7:∀i,s.w≤i→i<t.nd+TF t k→i<800→48≤dg s.d i∧dg s.d i≤57
 lead:s.w=0→49≤dg s.d 0∧(TF t k=0→dg t.d 0<dg s.d 0)
def bO (s:ByteArray) (i:Nat):Nat:=((s.data[i]?).map (·.toNat)).getD 0
structure RdS where
 i:Nat
 m:Nat
 nd:Nat
 nm:Nat
 dp:Int
 dot:Bool
 D7:Bool
 tr:Bool
def TQ (c:Nat):Bool:=decide (48≤c∧c≤57)
def aa0 (s:ByteArray) (t:RdS):Bool:=
 decide (s.size≤t.i) || (if bO s t.i=46 then t.dot else !TQ (bO s t.i))
def rdStep (s:ByteArray) (t:RdS):RdS:=
 if bO s t.i=46 then { t with i:=t.i+1,dot:=true,dp:=t.nd }
 else if bO s t.i=48∧t.nd=0 then { t with i:=t.i+1,D7:=true,dp:=t.dp-1 }
 else if t.nm<19 then { t with i:=t.i+1,D7:=true,nd:=t.nd+1,nm:=t.nm+1,m:=t.m*10+(bO s t.i-48) }
 else { t with i:=t.i+1,D7:=true,nd:=t.nd+1,tr:=t.tr || decide (bO s t.i≠48) }
structure RdI (s:ByteArray) (t:RdS):Prop where
 hi:t.i≤s.size
 hm:t.m<10^t.nm
 hn:t.nm≤19
 hd:t.nd≤t.i
 hp:-(t.i:Int)≤t.dp∧t.dp≤(t.i:Int)
def pt (i:Nat):Nat:=if i≥9 then 27 else ([1,3,6,9,13,16,19,23,26]:List Nat).getD i 0
structure Px where
 t:Dec
 e:Int
def TS (s:Px):Bool:=decide (s.t.dp≤0)
noncomputable def TT (s:Px):Px:=⟨D8 s.t (pt s.t.dp.toNat),s.e+((pt s.t.dp.toNat:Nat):Int)⟩
def TU (s:Px):Bool:=decide (¬(s.t.dp<0∨(s.t.dp=0∧dg s.t.d 0<53)))
noncomputable def TV (s:Px):Px:=⟨D9 s.t (pt (-s.t.dp).toNat),s.e-((pt (-s.t.dp).toNat:Nat):Int)⟩
structure FbI (s:Px):Prop where
 dec:Z6 s.t
 pos:0<s.t.nd
def msR (t:Dec):Nat:=10*t.dp.toNat+(dg t.d 0-48)
structure aA6 (s:Px):Prop extends FbI s where
 dp:-830≤s.t.dp∧s.t.dp≤310
 e:0≤s.e∧s.e+27*((msR s.t:Nat):Int)≤84000
noncomputable def fbR (t:Dec):Px:=xe TS TT ⟨t,0⟩
def msL (t:Dec):Nat:=10*(1-t.dp).toNat+(57-dg t.d 0)
structure aA7 (s:Px):Prop extends FbI s where
 dp:-830≤s.t.dp∧s.t.dp≤16
 e:s.e≤84000∧27*((msL s.t:Nat):Int)-225000≤s.e
noncomputable def fbL (t:Dec):Px:=xe TU TV (fbR t)
structure ShS where
 t:Dec
 k:Nat
def aa1 (s:ShS):Bool:=decide (s.k≤60)
noncomputable def aa2 (s:ShS):ShS:=⟨D8 s.t 60,s.k-60⟩
noncomputable def shA (t:Dec) (k:Nat):ShS:=xe aa1 aa2 ⟨t,k⟩
noncomputable def av2 (t:Dec) (k:Nat):Dec:=D8 (shA t k).t (shA t k).k
structure ShI (s:ShS):Prop where
 dec:Z6 s.t
 pos:0<s.t.nd
 k1:1≤s.k∧s.k≤300000
 dp:-10000000+15*(s.k:Int)≤s.t.dp∧s.t.dp≤1000000
def rup (t:Dec) (p:Int):Bool:=
 if p<0∨(t.nd:Int)≤p then false
 else if dg t.d p.toNat=53∧p+1=(t.nd:Int) then (if t.tr then true else if 0<p then decide ((dg t.d (p.toNat-1)-48)%2≠0) else false)
 else decide (53≤dg t.d p.toNat)
def TW (t:Dec) (s:pJ):Bool:=decide (¬((s.r:Int)<t.dp∧s.r<t.nd))
def TY (t:Dec) (s:pJ):pJ:=⟨s.r+1,(s.n*10%18446744073709551616+(dg t.d s.r-48))%18446744073709551616⟩
def Ua (t:Dec) (s:pJ):Bool:=decide (¬(s.r:Int)<t.dp)
def Ub (s:pJ):pJ:=⟨s.r+1,s.n*10%18446744073709551616⟩
noncomputable def riA (t:Dec):pJ:=xe (TW t) (TY t) ⟨0,0⟩
noncomputable def riB (t:Dec):pJ:=xe (Ua t) Ub (riA t)
noncomputable def Ee (t:Dec):Nat:=if 20<t.dp then 18446744073709551615 else if rup t t.dp then ((riB t).n+1)%18446744073709551616 else (riB t).n
structure RiI (s:pJ):Prop where
 hr:s.r≤20
 hn:s.n<18446744073709551616
def amj (m e:Nat) (neg:Bool):Nat:=if neg then ((m &&& 4503599627370495) ||| (e*4503599627370496)) ||| 9223372036854775808 else (m &&& 4503599627370495) ||| (e*4503599627370496)
noncomputable def Xc (t:Dec) (e:Int):Nat×Nat×Bool:=
 if Ee t=9007199254740992 then (if 1023≤e then (0,2047,true) else (4503599627370496,(e+1+1023).toNat,false))
 else (Ee t,if Ee t &&& 4503599627370496=0 then 0 else (e+1023).toNat,false)
noncomputable def an0 (t:Dec) (e:Int):Nat×Nat×Bool:=
 if e< -1022 then Xc (D9 (av2 t (-1022-e).toNat) 53) (-1022)
 else if 1024≤e then (0,2047,true)
 else Xc (D9 t 53) e
noncomputable def Py (t:Dec):Nat×Nat×Bool:=
 if t.nd=0 then (0,0,false)
 else if 310<t.dp then (0,2047,true)
 else if t.dp< -330 then (0,0,false)
 else an0 (fbL t).t ((fbL t).e-1)
noncomputable def an1 (t:Dec):Nat:=amj (Py t).1 (Py t).2.1 t.neg
structure Nm (s:ByteArray) (f p E q:Nat):Prop where
 fp:f<p
 pE:p≤E
 hE:E≤s.size
 an2:∀i,f≤i→i<p→48≤bO s i∧bO s i≤57
 dot:p<E→bO s p=46∧p+1<E
 av3:∀i,p<i→i<E→48≤bO s i∧bO s i≤57
 exp:E<s.size→bO s E=101∧((q=E+1∧bO s (E+1)≠43∧bO s (E+1)≠45)∨(q=E+2∧(bO s (E+1)=43∨bO s (E+1)=45)))∧q<s.size∧ ∀i,q≤i→i<s.size→48≤bO s i∧bO s i≤57
theorem Nm.at_ {s:ByteArray} {f p E q i:Nat} (h:Nm s f p E q) (h1:f≤i) (h2:i<E):(i≠p∧48≤bO s i∧bO s i≤57)∨(i=p∧bO s i=46):=by
 rcases Nat.lt_trichotomy i p with h3 | h3 | h3
 · exact .inl ⟨om,h.an2 i h1 h3⟩
 · subst h3;exact .inr ⟨rfl,(h.dot h2).1⟩
 · exact .inl ⟨om,h.av3 i h3 h2⟩
structure RdN (s:ByteArray) (f p E q:Nat) (t:RdS):Prop extends RdI s t where
 fi:f≤t.i
 iE:t.i≤E
 dt:t.dot=true→p<t.i
 dg:f<t.i→t.D7=true
noncomputable def Xd (s:ByteArray) (f:Nat):RdS:=xe (aa0 s) (rdStep s) ⟨f,0,0,0,0,false,false,false⟩
structure ExS where
 i:Nat
 e:Nat
def aa3 (s:ByteArray) (t:ExS):Bool:=decide (s.size≤t.i) || !TQ (bO s t.i)
def aa4 (s:ByteArray) (t:ExS):ExS:=⟨t.i+1,if t.e<10000 then t.e*10+(bO s t.i-48) else t.e⟩
structure ExI (s:ByteArray) (q:Nat) (t:ExS):Prop where
 hi:q≤t.i∧t.i≤s.size
 he:t.e<100000
noncomputable def exA (s:ByteArray) (q:Nat):ExS:=xe (aa3 s) (aa4 s) ⟨q,0⟩
noncomputable def an3 (s:ByteArray) (E:Nat):Int:=
 if s.size≤E then 0
 else if bO s (E+1)=45 then -(((exA s (E+2)).e:Nat):Int)
 else if bO s (E+1)=43 then (((exA s (E+2)).e:Nat):Int)
 else (((exA s (E+1)).e:Nat):Int)
noncomputable def rdP (s:ByteArray) (f:Nat):Int:=(if (Xd s f).dot then (Xd s f).dp else (((Xd s f).nd:Nat):Int))+an3 s (Xd s f).i
noncomputable def Xe (s:ByteArray) (f:Nat):Int:=if (Xd s f).m≠0 then rdP s f-(((Xd s f).nm:Nat):Int) else 0
structure StS where
 i:Nat
 dot:Bool
 D7:Bool
 t:Dec
def aa5 (s:ByteArray) (t:StS):Bool:=decide (s.size≤t.i) || (if bO s t.i=46 then t.dot else !TQ (bO s t.i))
def aa6 (s:ByteArray) (a:StS):StS:=
 if bO s a.i=46 then { a with i:=a.i+1,dot:=true,t:={ a.t with dp:=(a.t.nd:Int) } }
 else if bO s a.i=48∧a.t.nd=0 then { a with i:=a.i+1,D7:=true,t:={ a.t with dp:=a.t.dp-1 } }
 else if a.t.nd<800 then { a with i:=a.i+1,D7:=true,t:={ a.t with d:=a.t.d.set a.t.nd (bO s a.i),nd:=a.t.nd+1 } }
 else { a with i:=a.i+1,D7:=true,t:={ a.t with tr:=if bO s a.i≠48 then true else a.t.tr } }
structure StN (s:ByteArray) (f p E q:Nat) (a:StS):Prop where
 fi:f≤a.i
 iE:a.i≤E
 dt:a.dot=true→p<a.i
 dg:f<a.i→a.D7=true
 dec:Z6 a.t
 hp:-(a.i:Int)≤a.t.dp∧a.t.dp≤800
def av4 (neg:Bool):Dec:=⟨List.replicate 800 0,0,0,neg,false⟩
noncomputable def stA (s:ByteArray) (f:Nat) (neg:Bool):StS:=xe (aa5 s) (aa6 s) ⟨f,false,false,av4 neg⟩
noncomputable def an4 (s:ByteArray) (f:Nat) (neg:Bool):Dec:=
 { (stA s f neg).t with dp:=(if (stA s f neg).dot then (stA s f neg).t.dp else (((stA s f neg).t.nd:Nat):Int))+an3 s (stA s f neg).i }
def aa7 (s:ByteArray) (i:Nat):Bool:=decide (s.size≤i) || !TQ (bO s i)
noncomputable def Uc (s:ByteArray) (a:Nat):Nat:=xe (aa7 s) (fun i=>i+1) a
structure RuI (s:ByteArray) (a i:Nat):Prop where
 lo:a≤i
 hi:i≤s.size
 D7:∀j,a≤j→j<i→48≤bO s j∧bO s j≤57
noncomputable def nB (s:ByteArray) (a:Nat):Nat:=if bO s a=46 then Uc s (a+1) else a
def nQ (s:ByteArray) (b:Nat):Nat:=if bO s (b+1)=43∨bO s (b+1)=45 then b+2 else b+1
noncomputable def nC (s:ByteArray) (b:Nat):Nat:=if bO s b=101 then Uc s (nQ s b) else b
def av5 (s:ByteArray) (b:Nat):Prop:=nC s b=s.size∧(bO s b=101→nQ s b<nC s b)
def av6 (s:ByteArray) (a:Nat):Prop:=(bO s a=46→a+1<nB s a)∧av5 s (nB s a)
def av7 (s:ByteArray) (f:Nat):Prop:=f<Uc s f∧av6 s (Uc s f)
noncomputable def aA8 (s:ByteArray) (f:Nat):Bool:=@decide (av7 s f) (Classical.propDecidable _)
section
variable {P:Program} {N:Nat} {Q:Exit→Act→World→Prop} {σ:Env} {w:World} {body:Code} {n:Nat}
end
end Go.Proofs.YtdofcnodhgaedaaGreatDoor
