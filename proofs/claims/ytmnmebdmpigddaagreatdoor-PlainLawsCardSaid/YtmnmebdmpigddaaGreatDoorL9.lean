/- Texts of this claim. -/
import Derived.Test.YtmnmebdmpigddaaGreatDoorL8
import Derived.Test.YtmnmebdmpigddaaGreatDoorProg
import Derived.Lib.ConvBytes
import Derived.Lib.SmallJoins
set_option maxRecDepth 100000
set_option maxHeartbeats 20000000
namespace Go.Proofs.YtmnmebdmpigddaaGreatDoor
open Go.RowKit
def ZM (P:Program) (c:Code) (Q:Exit→Act→World→Prop) (a:Act) (w:World):Prop:=∀b k cs,∃e a' w',Q e a' w'∧Arrives P (lone (b.at a (.inLoop c::k)) cs w) b k cs e a' w'
theorem NZ {P:Program} {c:Code} {Q:Exit→Act→World→Prop} {a:Act} {w:World} (h:c.wp P (Exit.then (ZM P c Q) Q) a w) (b:Frame) (k:List Item) (cs:List Frame) :
 ∃e a' w',Q e a' w'∧Arrives P (lone (b.at a (.code c:: .inLoop c::k)) cs w) b k cs e a' w':=by
 obtain ⟨e,a₁,w₁,hq,harr⟩:=h b (.inLoop c::k) cs;cases e with
 | normal=>
  obtain ⟨e₂,a₂,w₂,hq₂,harr₂⟩:=hq b k cs;exact ⟨e₂,a₂,w₂,hq₂,.of_steps harr harr₂⟩
 | exit id=>exact ⟨_,a₁,w₁,hq,.pass (x:=.inLoop c) rfl (fun _ _=>.inl (by simp)) harr⟩
 | goto l=>exact ⟨_,a₁,w₁,hq,.pass (x:=.inLoop c) rfl (fun _ _=>.inl (by simp)) harr⟩
 | ret=>exact ⟨_,a₁,w₁,hq,.pass (x:=.inLoop c) rfl (fun _ _=>.inl (by simp)) harr⟩
 | panic ch=>exact ⟨_,a₁,w₁,hq,.pass (x:=.inLoop c) rfl (fun _ _=>.inl (by simp)) harr⟩
 | outgrown=>exact ⟨_,a₁,w₁,hq,.pass (x:=.inLoop c) rfl (fun _ _=>.inl (by simp)) harr⟩
section
variable {P:Program} {N:Nat} {ops:Array Oper} {Q:Exit→Act→World→Prop} {σ:Env} {w:World} {ty:TypeId} {pos:String} {af:Array Edge} {dst:Option Nat} {Post:Value→World→Prop}
theorem zlq {c:Code} (h:CW P N c (Exit.then (ZM P c Q) Q) σ w):CW P N (.loop c) Q σ w:=fun a ha b k cs=>by
 obtain ⟨e,a',w',hq,harr⟩:=NZ (h a ha) b k cs;exact ⟨e,a',w',hq,.of_steps (.one step_loop) harr⟩
theorem N7 {op:BinOp} {T U:TypeId} {x y:Operand} {m n z:Nat} (ho:op= .add∨op= .sub∨op= .mul∨op= .quo) (hx:ev σ x=some (.float .f64 m)) (hy:ev σ y=some (.float .f64 n)) (hz:cK op m n=some z)
 (k:Post (.float .f64 z) w):OW P N ops Q ⟨dst,.binOp op T x y U,ty,pos,af,none⟩ σ w Post:=
 zux ho hx hy (fun r w' h=>by
  rcases h with ⟨h1,rfl⟩ | ⟨h1,_⟩
  · rw[hz] at h1;cases h1;exact k
  · rw[hz] at h1;cases h1)
theorem xP (b:Nat) (w:World):(Extern.MathFloatBits.float64bits #[.float .f64 b]).run P w= .ok (.int .u64 ((b:Nat):Int)) w:=rfl
theorem tT (b:Nat) (w:World):(Extern.MathFloatBits.float64frombits #[.int .u64 ((b:Nat):Int)]).run P w= .ok (.float .f64 b) w:=rfl
theorem Vq {f:FuncId} {ts:Array TypeId} {x:Operand} {b:Nat} (hf:nY P f Extern.MathFloatBits.float64bits) (hx:ev σ x=some (.float .f64 b)) (k:Post (.int .u64 ((b:Nat):Int)) w):OW P N ops Q ⟨dst,.call ⟨.value (.func f),#[x],ts⟩,ty,pos,af,none⟩ σ w Post:=
 jE (xs:=[x]) (args:=[.float .f64 b]) hf (by simp[evs,hx]) (xP b w) k
theorem vi {f:FuncId} {ts:Array TypeId} {x:Operand} {b:Nat} (hf:nY P f Extern.MathFloatBits.float64frombits) (hx:ev σ x=some (.int .u64 ((b:Nat):Int))) (k:Post (.float .f64 b) w):OW P N ops Q ⟨dst,.call ⟨.value (.func f),#[x],ts⟩,ty,pos,af,none⟩ σ w Post:=
 jE (xs:=[x]) (args:=[.int .u64 ((b:Nat):Int)]) hf (by simp[evs,hx]) (tT b w) k
def ot (way:Ieee.Toward) (b:Nat):Nat:=FloatKind.f64.encode ((FloatKind.f64.decode b).integral way)
theorem N8 {f:FuncId} {ts:Array TypeId} {x:Operand} {b:Nat} {name:String} {way:Ieee.Toward} (hf:nY P f (Extern.MathFloor.toIntegral name way)) (hx:ev σ x=some (.float .f64 b)) (hn:(FloatKind.f64.decode b).isNaN=false) (k:Post (.float .f64 (ot way b)) w):OW P N ops Q ⟨dst,.call ⟨.value (.func f),#[x],ts⟩,ty,pos,af,none⟩ σ w Post:=
 jE (xs:=[x]) (args:=[.float .f64 b]) (v:=.float .f64 (ot way b)) (w':=w) hf (by simp[evs,hx]) (by
  have e:Extern.MathFloor.toIntegral name way #[.float .f64 b]=(match FloatKind.f64.decode b with
   | .nan s t=>if FloatKind.f64.format.quiet t=t then pure (.float .f64 b) else do
    let kept←choose (.extern "math.Floor,Ceil,Trunc,RoundToEven.signallingNaN kept" 2)
    pure (.float .f64 (if kept==1 then b else FloatKind.f64.encode (.nan s (FloatKind.f64.format.quiet t))))
   | d=>pure (.float .f64 (FloatKind.f64.encode (d.integral way)))):=rfl
  rw[e];unfold ot;cases h:FloatKind.f64.decode b with
  | nan s t=>rw[h] at hn;cases hn
  | infinity s=>rfl
  | number s m e=>rfl) k
theorem jF (a:Array UInt8):(⟨a⟩:ByteArray).toList=a.toList:=by rw[ByteArray.toList_eq]
theorem N9 {x y:Operand} {t1 t2:TypeId} {q q2:IntKind} {m n:Int} (hx:ev σ x=some (.int q m)) (hy:ev σ y=some (.int q2 n))
 (k:Post (.int q (if n<m then n else m)) w):OW P N ops Q ⟨dst,.call ⟨.builtin .min,#[x,y],#[t1,t2]⟩,ty,pos,af,none⟩ σ w Post:=
 yd (fun ρ ha=>by simp[execOp,resolve,invoke,builtin,Builtin.min_,Builtin.min2,ha hx,ha hy,go_sem]) k
theorem yp {x i:Operand} {T:TypeId} {s:ByteArray} {q:IntKind} {m:Int} {j:Nat} {b:Nat} (hd:P.underlying T=some .string) (hx:ev σ x=some (.string s)) (hi:ev σ i=some (.int q m)) (hm:m=(j:Int)) (hb:(s.data[j]?).map (·.toNat)=some b)
 (k:Post (.int .u8 (b:Int)) w):OW P N ops Q ⟨dst,.index T x i,ty,pos,af,none⟩ σ w Post:=by
 obtain ⟨c,h1,rfl⟩:=Option.map_eq_some_iff.1 hb;exact qmz hd hx hi hm (show s[j]? =some c by
  have h2:s[j]? =s.data[j]? :=rfl;rw[h2,h1]) k
theorem zgv {x i:Operand} {T e:TypeId} {g o n s:Nat} {q:IntKind} {m:Int} {j:Nat} (hd:P.underlying T=some (.array n e)) (hs:qr P e s) (hx:ev σ x=some (.pointer (some ⟨g,o,none⟩))) (hi:ev σ i=some (.int q m)) (hm:m=(j:Int)) (hj:j<n)
 (k:Post (.pointer (some ⟨g,o+j*s,none⟩)) w):OW P N ops Q ⟨dst,.indexAddr T x i,ty,pos,af,none⟩ σ w Post:=
 yd (fun ρ ha=>by
  subst hm;have h1:¬n≤j:=om;simp[execOp,ha hx,ha hi,Instr.indexAt,Instr.sureAddr,asIntOf,run_underlying hd,xj hs,h1,hj,Addr.add_eq,go_sem]) k
theorem DW {T:TypeId} {ms:Array (String×TypeId)} (hd:P.underlying T=some (.interface ms)):(Op.equal T .nilIface .nilIface).run P w= .ok true w:=by
 have e:Op.maxDepth=9999+1:=rfl;have key:∀d:Nat,(Op.equalIn (d+1) T .nilIface .nilIface).run P w= .ok true w:=by
  exact NC
 unfold Op.equal;rw[e];exact key 9999
theorem Vr {T U:TypeId} {x:Operand} {ms:Array (String×TypeId)} (hd:P.underlying T=some (.interface ms)) (hx:ev σ x=some .nilIface) (k:Post (.bool false) w):OW P N ops Q ⟨dst,.binOp .neq T x (.const .nilIface) U,ty,pos,af,none⟩ σ w Post:=
 yd (fun ρ ha=>by
  have e:=DW (P:=P) (w:=w) hd;have hc:ρ (.const .nilIface)= .nilIface:=ha rfl;simp only[execOp,ha hx,hc,eqGuard,binOp]
  simp[e,go_sem]) k
def ah8 (w:World) (g:Nat) (xs:List Value):Prop:=∀j v,xs[j]? =some v→w.cell? ⟨g,j,none⟩=some v
theorem Per.aH4 {w:World} {g:Nat} {xs:List Value} (h:ah8 w g xs):Per No w (fun b=>ah8 b g xs):=fun b hb j v hj=>by
 have h1:=h j v hj;rw[hb.cell (p:=⟨g,j,none⟩) (World.block_lt_of_cell? w _ h1) (fun e=>e.elim)];exact h1
theorem qsk {S D e:TypeId} {x:Operand} {s:ByteArray} {n:Nat} {xs:List Value} (hS:P.underlying S=some .string) (hD:P.underlying D=some (.slice e)) (he:P.underlying e=some (.int .u8)) (hx:ev σ x=some (.string s)) (hn:s.size=n) (hl:s.data.toList.map (fun b=>Value.int .u8 (b.toNat:Int))=xs)
 (k:∀g c w',ah8 w' g xs→Ext No w w'→w.heap.size≤g→Post (.slice (some ⟨g,0,none⟩) n c) w'):OW P N ops Q ⟨dst,.convert S D x,ty,pos,af,none⟩ σ w Post:=
 yd (v:=.slice (some ⟨w.heap.size,0,none⟩) s.size (grownCap w s.size 0 e)) (w':=Lib.bytesWorld w e s) (fun ρ ha=>by
  simp only[execOp,ha hx,Sem.run_bind,Lib.run_convert_string_bytes w S D e s hS hD he,Result.andThen_ok,Sem.run_pure]) (by
  subst hn;refine k _ _ _ (fun j v hj=>?_) (Ext.of_below (Joins.below_bytesWorld _ _ _ _ (Nat.le_refl _)) No) (Nat.le_refl _);rw[←hl,List.getElem?_map] at hj;obtain ⟨b,hb,rfl⟩:=Option.map_eq_some_iff.1 hj;have hlt:j<s.size:=by
   have h1:=(List.getElem?_eq_some_iff.1 hb).1;have h2:s.data.toList.length=s.size:=Array.length_toList;omega
  rw[Lib.bytesWorld_cell w e s j hlt,List.getD_eq_getElem?_getD,hb];rfl)
end
abbrev Gives (f:FuncId) (args:Array Value) (v:Value):Prop:=∀w,Calls Tryz.prog f args w fun e w'=>e= .returned v∧Below w.heap.size w w'
theorem ZN {P:Prop} (h:P:=by
 refine ⟨a.eval x,.inl ⟨by simp[Region.wanted],fun w=>by simp[execOp,go_sem]⟩,?_⟩;rcases h with h | ⟨h,_⟩
 · simpa [Oper.wp,execOp,go_sem,Oper.upon] using h
 · exact absurd h (by simp[Oper.asks,execOp,Sem.runT,Sem.events,pure,bind])):P:=h
section
variable {P:Program} {N:Nat} {Q:Exit→Act→World→Prop} {σ:Env} {w:World} {l:List Oper}
def pY (k n:Nat):Array Bool:=(List.replicate k true++List.replicate (n-k) false).toArray
def AK (P:Program) (N k:Nat) (l:List Oper) (Q:Exit→Act→World→Prop) (σ:Env) (w:World):Prop:=∀a,At N σ a→wpAny P .any l.toArray Q (l.length-k) (pY k l.length) a w
theorem Oa {id:Nat} (hm:P.follows .mixedOrders=true) (h:AK P N 0 l Q σ w.drew):CW P N (.region id l.toArray true) Q σ w:=fun a ha=>by
 refine wp_region_any hm ?_;have:=h a ha;unfold pY at this;simpa using this
theorem Vs {k n j:Nat} {d:Bool} (hj:j<n) (hk:k≤n):(pY k n).getD j d=decide (j<k):=by
 unfold pY;by_cases h:j<k
 · simp[Array.getD_eq_getD_getElem?,List.getElem?_append,h]
 · have h2:j-k<n-k:=om;simp[Array.getD_eq_getD_getElem?,List.getElem?_append,h,List.getElem?_replicate,h2]
theorem Vt {k n:Nat} (h:k<n):(pY k n).setIfInBounds k true=pY (k+1) n:=by
 unfold pY;apply Array.toList_inj.1
 rw[Array.toList_setIfInBounds];have e:n-k=(n-(k+1))+1:=om;rw[e,List.replicate_succ,List.replicate_succ',List.append_assoc];simp
def quiet (o:Oper):Bool:=match o.guard with
 | some _=>false
 | none=>match o.op with
  | .move _=>true
  | .assign _=>true
  | .extract _ _=>true
  | _=>false
theorem tV {ops:Array Oper} {o:Oper} {a:Act} {w:World} {K:Act→World→Prop} (hq:quiet o=true) (h:o.wp P a w K Q∨(o.asks P a w∧LetsOut Q)):∃v,Yields P ops o v a∧K (a.put o.dst v) w:=by
 obtain ⟨dst,op,type,pos,after,guard⟩:=o;cases guard with
 | some g=>simp[quiet] at hq
 | none=>
  cases op<;>first | (simp[quiet] at hq;done) | skip
  case move x=>
   exact ZN
  case assign x=>
   exact ZN
  case extract x i=>
   rcases h with h | ⟨h,_⟩
   · unfold Oper.wp at h;simp only[execOp,Instr.extract] at h
     split at h
     · rename_i vs hx
       split at h
       · rename_i v hv
         refine ⟨v,.inl ⟨by simp[Region.wanted],fun w=>by simp only[execOp,hx,Instr.extract,hv];rfl⟩,?_⟩;simpa [go_sem,Oper.upon] using h
       · simp[go_sem,Oper.upon,stuck] at h
     · simp[go_sem,Oper.upon,stuck] at h
   · exfalso
     unfold Oper.asks at h;simp only[execOp,Instr.extract] at h
     split at h
     · split at h
       · simp[Sem.runT,Sem.events,Sem.bind,pure,bind] at h
       · simp[Sem.runT,Sem.events,Sem.bind,pure,bind,stuck] at h
     · simp[Sem.runT,Sem.events,Sem.bind,pure,bind,stuck] at h
def quz (l:List Oper):Nat→Nat→Bool
 | _,0=>true
 | k,m+1=>(match Region.ready .any l.toArray (pY k l.length) with
  | []=>false
  | [j]=>Nat.beq j k
  | r=>gG k r&&(match l.toArray[k]? with
   | some o=>quiet o
   | none=>false)&&Region.free .any l.toArray (pY k l.length) k)&&quz l (k+1) m
theorem xQ (hn:Region.noSelect l.toArray=true) (hQ:∀c (a:Act) d v w,Q (.panic c) (a.put d v) w→Q (.panic c) a w) :
 ∀(m k:Nat),k+m=l.length→quz l k m=true→ ∀a w,wpList P l.toArray Q (l.drop k) a w→wpAny P .any l.toArray Q m (pY k l.length) a w:=by
 intro m;induction m with
 | zero=>
  intro k hk _ a w h;have hk:k=l.length:=om;subst hk;rw[List.drop_length] at h;refine ⟨List.eq_nil_iff_forall_not_mem.2 fun j hj=>?_,h⟩;obtain ⟨h0,o,ho,_⟩:=mem_ready.1 hj;have hlt:j<l.length:=by simpa using (Array.getElem?_eq_some_iff.1 ho).1
  rw[Vs hlt (Nat.le_refl _)] at h0;simp[hlt] at h0
 | succ m ih=>
  intro k hk hs a w h;have hkl:k<l.length:=om;simp only[quz,Bool.and_eq_true] at hs
  rw[List.drop_eq_getElem_cons hkl] at h;have hok:l.toArray[k]? =some l[k]:=by simp[hkl]
  have hnext:=fun a w h=>ih (k+1) om hs.2 a w h;rw[←Vt hkl] at hnext;have hone:wpOp P l.toArray Q k (wpAny P .any l.toArray Q m ((pY k l.length).setIfInBounds k true)) a w:=by
   unfold wpOp;rw[hok];simp only[]
   unfold wpList at h;split
   · rename_i hw
     rw[if_pos hw] at h;exact h.imp (Oper.wp_mono hnext) id
   · rename_i hw
     rw[if_neg hw] at h;exact hnext _ _ h
  have h1:=hs.1;split at h1
  · cases h1
  · rename_i j hr
    have hj:j=k:=Nat.eq_of_beq_eq_true h1;subst hj;exact wpAny_all hr (by simp) fun i hi=>by rw[List.mem_singleton.1 hi];exact hone
  · rename_i hr hr1
    rw[hok] at h1;simp only[Bool.and_eq_true] at h1
    have hq:=h1.1.2;unfold wpList at h;have hg:Region.wanted l[k] (yielded l.toArray a.tmps)=true:=by
     unfold quiet at hq;split at hq
     · cases hq
     · rename_i hg;simp[Region.wanted,hg]
    rw[if_pos hg] at h;obtain ⟨v,hy,hv⟩:=tV (ops:=l.toArray) hq h;exact wpAny_take hok hn h1.2 (by simpa using gl.1 h1.1.1) (fun c a w h=>hQ c a _ _ w h) hy (hnext _ _ hv)
theorem xR {k:Nat} (hs:(quz l k (l.length-k)&&Region.noSelect l.toArray&&Nat.ble k l.length)=true) (hQ:∀c (a:Act) d v w,Q (.panic c) (a.put d v) w→Q (.panic c) a w)
 (h:RS P N l.toArray Q (l.drop k) σ w):AK P N k l Q σ w:=fun a ha=>by
 simp only[Bool.and_eq_true] at hs
 have:=Nat.le_of_ble_eq_true hs.2;exact xQ hs.1.2 hQ _ k om hs.1.1 a w (h a ha)
def covers (ops:Array Oper):Nat→List Nat→Bool
 | 0,_=>true
 | j+1,S=>gG j S&&covers ops j (S++vh ops j)
def tX (l:List Oper) (m:Nat):Bool:=Nat.ble m l.length&&GZ 0 (l.take m) []&&((l.take m).all fun o=>match o.guard with
 | some (g,_)=>Nat.blt g m
 | none=>true)&&(List.range (l.length-m)).all fun t=>(vh l.toArray (m+t)).any (fun d=>Nat.ble m d) || covers l.toArray m (vh l.toArray (m+t))
theorem DX {ops:Array Oper} {L:Nat→Prop} (hd:∀i,L i→ ∀j∈vh ops i,L j):∀(m:Nat) (S:List Nat),covers ops m S=true→(∀j∈S,L j)→ ∀j,j<m→L j:=by
 intro m;induction m with
 | zero=>intro S _ _ j hj;omega
 | succ m ih=>
  intro S hc hS j hj;simp only[covers,Bool.and_eq_true] at hc
  have hm:=hS m (gl.1 hc.1);rcases Nat.lt_or_ge j m with h | h
  · refine ih _ hc.2 (fun j hj=>?_) j h;rcases List.mem_append.1 hj with h | h
    · exact hS j h
    · exact hd m hm j h
  · have:j=m:=om;subst this;exact hm
theorem JI {o:Oper} {a:Act} {K K' Z:Act→World→Prop} (h:∀a w,K a w→K' a w):∀ {r:Result Next},o.upon P a K (Exit.then Z Q) r→o.upon P a K' Q r:=by
 intro r hh;cases r with
 | ok n w'=>
  cases n<;>simp only[Oper.upon] at hh ⊢ <;>
   first
    | exact h _ _ hh
    | exact Calls.mono hh (fun e w'' he=>by cases e<;>first | exact h _ _ he | exact he)
    | exact Rows.mono hh (fun _ _ he=>h _ _ he)
    | exact hh
 | halt x w'=>cases x<;>simp only[Oper.upon] at hh ⊢ <;>exact hh
end
section
variable {P:Program} {N:Nat} {Q:Exit→Act→World→Prop} {σ:Env} {l:List Oper}
theorem xS {w:World} (Y:Nat→Prop) (hY:∀k,Y k→k<w.heap.size) (bs:List Bx) (os:List Ox) (F:Nat→Fx) (hok:(GZ 0 l []&&iM bs&&JG l bs bs&&pV N l&&sO bs os)=true) (hos:ycz Y w os) (hin:∀o∈os,l[o.st]? ≠none)
 (hsteps:qiq P N l.toArray Q σ bs os F w 0 l)
 (hend:∀vs w',Ext (ak (km os)) w w'→sQ σ l.toArray vs w' os→qyv Y bs F vs w' 0 l→zwq P σ l.toArray vs w w' bs→qiv vs bs→EW N Q .normal (NU σ l vs) w'):AK P N 0 l Q σ w:=by
 simp only[Bool.and_eq_true] at hok
 obtain ⟨⟨⟨⟨hrow,hbx⟩,hwf⟩,hdl⟩,hox⟩:=hok;have NV:∀ {r:List Ox},ycz Y w r→ ∀o∈r,Y o.g∧aB w o.g o.T o.cs:=by
  intro r;induction r with
  | nil=>intro _ o ho;cases ho
  | cons x r ih=>
   exact Nw
 have ah7:∀ {r:List Ox},ycz Y w r→sO bs r=true→ ∀a∈r,∀b∈r,a≠b→a.g≠b.g∧a.st≠b.st:=by
  intro r;induction r with
  | nil=>intro _ _ a ha;cases ha
  | cons x r ih=>
   exact ZE
 have NW:∀ {r:List Ox},sO bs r=true→ ∀o∈r,pO bs o.st=none∧xa bs o.st=none:=by
  intro r;induction r with
  | nil=>intro _ o ho;cases ho
  | cons x r ih=>
   exact Zy
 intro a ha;rw[show pY 0 l.length=Array.replicate l.toArray.size false by simp[pY]];have m0:Mid P N Y l σ w bs os F (Array.replicate l.toArray.size false) a w (fun _=>undef) Y:=by
  have hno:∀i,¬Ran (Array.replicate l.toArray.size false) i:=fun i h=>by
   unfold Ran at h;by_cases hi:i<l.length<;>simp[hi] at h
  exact ⟨by simp,ha.defers,ha.size,fun t v h=>ha.get t v (qfz h).1,fun i d h=>absurd h (hno i),fun i d v _ _ h=>ha.get d v h,fun i h=>absurd h (hno i),Ext.refl _ _,hY,fun _ h=>h,hY,
   fun i h=>absurd h (hno i),fun b _ h=>absurd h (hno _),fun o ho=>⟨fun _=>(NV hos o ho).2,fun h=>absurd h (hno _)⟩,fun o ho=>(NV hos o ho).1,fun b _ c _ h=>absurd h (hno _)⟩
 refine pU (l:=l) hrow hbx hwf (jB hdl) (fun o ho h=>by rw[(NW hox o ho).1] at h;cases h) (fun o ho h=>by rw[(NW hox o ho).2] at h;cases h) (ah7 hos hox) hsteps ?_ _ _ _ _ _ _ ?_ m0
 · intro listed a w' vs X hall m;have hlen:∀i (o:Oper),l[i]? =some o→Ran listed i:=fun i o h=>hall i (List.getElem?_eq_some_iff.1 h).1;refine hend vs w' m.ext ?_ ?_ ?_ ?_ a ?_
   · exact ZG
   · exact ZF
   · have key:∀r:List Bx,(∀b∈r,b∈bs)→zwq P σ l.toArray vs w w' r:=by
      intro r;induction r with
      | nil=>intro _;trivial
      | cons b r ih=>
       exact ZC
     exact key bs (fun _ h=>h)
   · exact ZH
   · refine ⟨m.defers,m.tmps,fun t v h=>?_⟩;exact Zx
 · simp
end
section
variable {P:Program} {N:Nat} {Q:Exit→Act→World→Prop} {σ:Env} {w:World} {l:List Oper}
theorem DY {m:Nat} (hg:tX l m=true):∀(f:Nat) (ls:List Bool) (a:Act) (w:World),ls.length=m→ls.count false=f→
 (∀i,Ran ls.toArray i→ ∀j∈vh l.toArray i,Ran ls.toArray j)→
 wpAny P .any (l.take m).toArray (Exit.then (fun a w=>wpAny P .any l.toArray Q (l.length-m) (pY m l.length) a w) Q) f ls.toArray a w→
 wpAny P .any l.toArray Q (f+(l.length-m)) (ls++List.replicate (l.length-m) false).toArray a w:=by
 unfold tX at hg;simp only[Bool.and_eq_true] at hg
 obtain ⟨⟨⟨hml,hrow⟩,hgd⟩,aH5⟩:=hg;have hml:=Nat.le_of_ble_eq_true hml;have htk:∀i,i<m→(l.take m).toArray[i]? =l.toArray[i]? :=fun i hi=>by simp[List.getElem?_take,hi]
 have hget:∀(ls:List Bool) (i:Nat) (d:Bool),ls.length=m→i<m→(ls++List.replicate (l.length-m) false).toArray.getD i d=ls.toArray.getD i d:=by
  intro ls i d hl hi;simp[Array.getD_eq_getD_getElem?,List.getElem?_append,hl,hi]
 have ZO:∀(ls:List Bool) (i:Nat),ls.length=m→m≤i→(ls++List.replicate (l.length-m) false).toArray.getD i false=false:=by
  intro ls i hl hi;have hni:¬i<m:=om;simp only[Array.getD_eq_getD_getElem?,List.getElem?_toArray,List.getElem?_append,hl,hni,if_false,List.getElem?_replicate]
  split<;>rfl
 have hfull:∀ls:List Bool,ls.length=m→(∀i,i<m→Ran ls.toArray i)→ls.count false=0:=by
  intro ls hl h;refine List.count_eq_zero.2 fun hf=>?_;obtain ⟨i,hi,he⟩:=List.getElem_of_mem hf;have:=h i om;unfold Ran at this;simp[hi,he] at this
 intro f;induction f with
 | zero=>
  intro ls a w hl hc hd h;have hall:ls=List.replicate m true:=by
   refine List.eq_replicate_iff.2 ⟨hl,fun b hb=>?_⟩;cases b with
   | true=>rfl
   | false=>exact absurd hb (List.count_eq_zero.1 hc)
  have h2:=h.2;rw[Nat.zero_add,hall];exact h2
 | succ f ih=>
  intro ls a w hl hc hd h;rw[Nat.succ_add];refine ⟨fun hr=>?_,fun i hi=>?_⟩
  · exfalso
    have hall:∀i,i<m→Ran ls.toArray i:=by
     intro i;induction i using Nat.strongRecOn with
     | _ i ihi=>
      intro him;rcases Classical.em (Ran ls.toArray i) with h' | h'
      · exact h'
      · exfalso
        have:i∈Region.ready .any l.toArray (ls++List.replicate (l.length-m) false).toArray:=by
         have hil:i<l.length:=om;refine mem_ready.2 ⟨?_,l[i],by simp[hil],fun e he hb=>?_⟩
         · rw[hget ls i true hl him];unfold Ran at h';have:i<ls.length:=om;simp[this] at h' ⊢
           exact h'
         · have hlt:=(znv hrow (i:=i) (o:=l[i]) (by simp[List.getElem?_take,him,hil])).1 e.on (yoq (by simpa using he) hb);have hei:e.on<i:=om;rw[hget ls e.on false hl om];exact ihi e.on hei om
        rw[hr] at this;cases this
    have:=hfull ls hl hall;omega
  · obtain ⟨h0,o,ho,ag9⟩:=mem_ready.1 hi;rcases Nat.lt_or_ge i m with him | him
    · have hdl:∀j∈vh l.toArray i,Ran ls.toArray j:=by
       intro j hj;have ho':l[i]? =some o:=by simpa using ho
       unfold vh at hj;rw[ho] at hj;obtain ⟨e,he,hb,rfl⟩:=qeq hj;have hlt:=(znv hrow (i:=i) (o:=o) (by simp[List.getElem?_take,him,ho'])).1 e.on (yoq he hb);have:=ag9 e (by simpa using he) hb;rwa [hget ls e.on false hl om] at this
      rw[hget ls i true hl him] at h0;have hi1:i∈Region.ready .any (l.take m).toArray ls.toArray:=by
       refine mem_ready.2 ⟨h0,o,by rw[htk i him];exact ho,fun e he hb=>?_⟩;refine hdl e.on ?_;unfold vh;rw[ho];exact yoq (by simpa using he) hb
      have h1:=h.2 i hi1;have hset:((ls++List.replicate (l.length-m) false).toArray.setIfInBounds i true)=(ls.set i true++List.replicate (l.length-m) false).toArray:=by
       apply Array.toList_inj.1
       rw[Array.toList_setIfInBounds];simp[List.set_append,hl,him]
      have Ob:ls.toArray.setIfInBounds i true=(ls.set i true).toArray:=by
       apply Array.toList_inj.1
       rw[Array.toList_setIfInBounds]
      rw[Ob] at h1;rw[hset];have aH6:ls[i]? =some false:=by
       have hil:i<ls.length:=om;have e:ls[i]=false:=by simpa [hil] using h0
       simp[hil,e]
      have hK:∀a w,wpAny P .any (l.take m).toArray (Exit.then (fun a w=>wpAny P .any l.toArray Q (l.length-m) (pY m l.length) a w) Q) f (ls.set i true).toArray a w→
       wpAny P .any l.toArray Q (f+(l.length-m)) (ls.set i true++List.replicate (l.length-m) false).toArray a w:=by
       intro a w h;refine ih (ls.set i true) a w (by simpa using hl) (by have:=qov ls i aH6;omega) ?_ h;have hup:∀j,Ran ls.toArray j→Ran (ls.set i true).toArray j:=by
        intro j hj;unfold Ran at hj ⊢;rw[←Ob];exact getD_set_true hj
       intro j hj k hk;rcases Classical.em (j=i) with rfl | hji
       · exact hup k (hdl k hk)
       · refine hup k (hd j ?_ k hk);unfold Ran at hj ⊢;rw[←Ob,getD_set_ne false (Ne.symm hji)] at hj;exact hj
      unfold wpOp at h1 ⊢;rw[htk i him,ho] at h1;rw[ho];simp only[] at h1 ⊢
      have hy:Region.wanted o (yielded (l.take m).toArray a.tmps)=Region.wanted o (yielded l.toArray a.tmps):=by
       unfold Region.wanted;cases hgo:o.guard with
       | none=>rfl
       | some gw=>
        obtain ⟨g,want⟩:=gw;have hmem:o∈l.take m:=by
         have ho':l[i]? =some o:=by simpa using ho
         exact List.mem_of_getElem? (i:=i) (by simp[List.getElem?_take,him,ho'])
        have:=(List.all_eq_true.1 hgd) o hmem;rw[hgo] at this;have hgm:g<m:=Nat.le_of_ble_eq_true this;simp only[yielded,htk g hgm]
      rw[←hy];split
      · rename_i hw
        rw[if_pos hw] at h1;rcases h1 with h1 | ⟨h1,h2⟩
        · exact .inl (JI hK h1)
        · exact .inr ⟨h1,h2⟩
      · rename_i hw
        rw[if_neg hw] at h1;exact hK _ _ h1
    · exfalso
      have hil:i<l.length:=by simpa using (Array.getElem?_eq_some_iff.1 ho).1
      have hdl:∀j∈vh l.toArray i,(ls++List.replicate (l.length-m) false).toArray.getD j false=true:=by
       intro j hj;unfold vh at hj;rw[ho] at hj;exact Nu
      have hc2:=(List.all_eq_true.1 aH5) (i-m) (List.mem_range.2 om);rw[show m+(i-m)=i from om,Bool.or_eq_true] at hc2;rcases hc2 with hc2 | hc2
      · obtain ⟨j,hj,hmj⟩:=List.any_eq_true.1 hc2;have:=hdl j hj;rw[ZO ls j hl (Nat.le_of_ble_eq_true hmj)] at this;cases this
      · have hall:=DX (L:=fun j=>(Ran ls.toArray j)) hd m _ hc2 (fun j hj=>by
         have:=hdl j hj;rcases Nat.lt_or_ge j m with h' | h'
         · rwa [hget ls j false hl h'] at this
         · rw[ZO ls j hl h'] at this;cases this)
        have:=hfull ls hl hall;omega
theorem Oc (m:Nat) (hg:tX l m=true) (h:AK P N 0 (l.take m) (Exit.then (fun a w=>wpAny P .any l.toArray Q (l.length-m) (pY m l.length) a w) Q) σ w):AK P N 0 l Q σ w:=fun a ha=>by
 have hml:m≤l.length:=by
  unfold tX at hg;simp only[Bool.and_eq_true] at hg
  exact Nat.le_of_ble_eq_true hg.1.1.1
 have hlen:(l.take m).length=m:=by simp[hml]
 have h1:=h a ha;have:=DY hg m (List.replicate m false) a w (by simp) (by simp) (fun i hi=>by
  unfold Ran at hi;by_cases h':i<m<;>simp[h'] at hi) (by
   unfold pY at h1;rw[hlen] at h1;simpa [pY] using h1)
 rw[List.replicate_append_replicate] at this;have e:m+(l.length-m)=l.length:=om;rw[e] at this;unfold pY;simpa using this
theorem ZP {m:Nat} (h:AK P N m l Q σ w):EW N (Exit.then (fun a w=>wpAny P .any l.toArray Q (l.length-m) (pY m l.length) a w) Q) .normal σ w:=fun a ha=>h a ha
end
section
variable {P:Program} {N:Nat} {ops:Array Oper} {Q:Exit→Act→World→Prop} {σ:Env} {w:World} {ty:TypeId} {pos:String} {af:Array Edge} {dst:Option Nat} {Post:Value→World→Prop}
end
section
variable {P:Program} {N:Nat} {ops:Array Oper} {Q:Exit→Act→World→Prop} {σ:Env} {w:World} {ty:TypeId} {pos:String} {af:Array Edge} {dst:Option Nat} {Post:Value→World→Prop}
theorem tZ {T U:TypeId} {x:Operand} {b:Nat} {q:IntKind} {z:Int} (hd:P.underlying U=some (.int q)) (hs:(P.underlying T).isSome=true) (hx:ev σ x=some (.float .f64 b)) (hz:floatToIntVal .f64 b q=some z) (k:Post (.int q z) w):OW P N ops Q ⟨dst,.convert T U x,ty,pos,af,none⟩ σ w Post:=
 yd (fun ρ ha=>by
  have h:=run_convert_float_int (P:=P) w T U .f64 q b z hs hd hz;simp only[execOp,ha hx,Sem.run_bind,h,Result.andThen_ok,Sem.run_pure]) k
theorem ah9 {T U:TypeId} {x:Operand} {n:Int} {q:IntKind} (hd:P.underlying U=some (.float .f64)) (hs:(P.underlying T).isSome=true) (hx:ev σ x=some (.int q n)) (k:Post (.float .f64 (FloatKind.f64.nearest n)) w):OW P N ops Q ⟨dst,.convert T U x,ty,pos,af,none⟩ σ w Post:=
 yd (fun ρ ha=>by
  have h:(convert T U (.int q n)).run P w= .ok (.float .f64 (FloatKind.f64.nearest n)) w:=by
   obtain ⟨s,hs'⟩:=Option.isSome_iff_exists.1 hs;cases s<;>simp[convert,run_underlying hs',run_underlying hd,Conv.intToFloat]
  simp only[execOp,ha hx,Sem.run_bind,h,Result.andThen_ok,Sem.run_pure]) k
theorem xX (b:Nat):(FloatKind.f64.decode b).isNaN=bO b:=by
 show (Ieee.double.read b).isNaN=bO b
 rcases Nat.lt_trichotomy (rg b) 9218868437227405312 with h | h | h
 · rw[vm h,bO,decide_eq_false om];rfl
 · rw[kq h,bO,decide_eq_false om];rfl
 · rw[jG h,bO,decide_eq_true h];rfl
structure aNj (r:Nat) (w w':World):Prop where
 isn:bO r=true
 ext:Ext No w w'
 lt:r<18446744073709551616
end
section
variable {P:Program} {N:Nat} {ops:Array Oper} {Q:Exit→Act→World→Prop} {σ:Env} {w:World} {ty:TypeId} {pos:String} {af:Array Edge} {dst:Option Nat} {Post:Value→World→Prop}
theorem D5 {T:TypeId} {x:Operand} {v:Value} (hc:P.concrete T=true) (hx:ev σ x=some v) (k:Post (.iface T v) w):OW P N ops Q ⟨dst,.makeInterface T x,ty,pos,af,none⟩ σ w Post:=
 yd (fun ρ ha=>by
  have h:=run_makeInterface (P:=P) w T v hc;simp only[execOp,ha hx,Sem.run_bind,h,Result.andThen_ok,Sem.run_pure]) k
end
inductive Ends {α:Type} (done:α→Bool) (step:α→α):α→α→Prop
 | stop {s:α}:done s=true→Ends done step s s
 | next {s t:α}:done s=false→Ends done step (step s) t→Ends done step s t
noncomputable def qm {α:Type} (done:α→Bool) (step:α→α) (s:α):α:=@Classical.epsilon α ⟨s⟩ (Ends done step s)
theorem qx {α:Type} {done:α→Bool} {step:α→α} {s:α} (h:done s=false):qm done step s=qm done step (step s):=by
 have e:Ends done step s=Ends done step (step s):=funext fun t=>propext ⟨fun h'=>by
  cases h' with
  | stop h1=>rw[h] at h1;cases h1
  | next _ h1=>exact h1,fun h'=>.next h h'⟩
 unfold qm;rw[e]
theorem yv {α:Type} {done:α→Bool} {step:α→α} {s:α} (h:done s=true):qm done step s=s:=by
 have h1:Ends done step s (qm done step s):=@Classical.epsilon_spec _ (Ends done step s) ⟨s,.stop h⟩;generalize qm done step s=t at h1
 cases h1 with
 | stop _=>rfl
 | next h2 _=>rw[h] at h2;cases h2
section
variable {P:Program} {Q:Exit→Act→World→Prop} {a:Act} {w:World} {body:Code}
theorem step_scope {b:Frame} {k:List Item} {cs:List Frame}:step P (lone (b.at a (.code (.scope body)::k)) cs w)= .next (lone (b.at a (.code body:: .inScope body::k)) cs w):=
 step_lone_go (by simp[stepG,stepG.exec,Frame.at])
theorem qbq {b:Frame} {k:List Item} {cs:List Frame}:step P (lone (b.at a (.inScope body::k)) cs w)= .next (lone (b.at a k) cs w):=
 step_lone_go (by simp[stepG,stepG.exec,Frame.at])
def kp (P:Program) (body:Code) (Q:Exit→Act→World→Prop):Nat→Exit→Act→World→Prop
 | 0,.goto l,a,w=>findLabel body l=none∧Q (.goto l) a w
 | n+1,.goto l,a,w=>(findLabel body l=none∧Q (.goto l) a w)∨ ∃rest,findLabel body l=some rest∧rest.wp P (kp P body Q n) a w
 | _,e,a,w=>Q e a w
theorem JK:∀(n:Nat) (c:Code) (a:Act) (w:World),c.wp P (kp P body Q n) a w→ ∀b k cs,∃e a' w',Q e a' w'∧Arrives P (lone (b.at a (.code c:: .inScope body::k)) cs w) b k cs e a' w':=by
 intro n;induction n with
 | zero=>
  intro c a w h b k cs;obtain ⟨e,a₁,w₁,hq,harr⟩:=h b (.inScope body::k) cs;cases e with
  | normal=>exact ⟨.normal,a₁,w₁,hq,Steps.trans harr (.one qbq)⟩
  | exit id=>exact ⟨.exit id,a₁,w₁,hq,fun k' hk=>harr k' (by simp[exitTo,hk])⟩
  | goto l=>exact ⟨_,a₁,w₁,hq.2,fun k' hk=>harr k' (by simp[gotoIn,hq.1,hk])⟩
  | ret=>exact ⟨_,a₁,w₁,hq,harr⟩
  | panic ch=>exact ⟨_,a₁,w₁,hq,harr⟩
  | outgrown=>exact ⟨_,a₁,w₁,hq,harr⟩
 | succ n ih=>
  intro c a w h b k cs;obtain ⟨e,a₁,w₁,hq,harr⟩:=h b (.inScope body::k) cs;cases e with
  | normal=>exact ⟨.normal,a₁,w₁,hq,Steps.trans harr (.one qbq)⟩
  | exit id=>exact ⟨.exit id,a₁,w₁,hq,fun k' hk=>harr k' (by simp[exitTo,hk])⟩
  | goto l=>
   rcases hq with ⟨h1,hq⟩ | ⟨rest,h1,h2⟩
   · exact ⟨_,a₁,w₁,hq,fun k' hk=>harr k' (by simp[gotoIn,h1,hk])⟩
   · obtain ⟨e2,a2,w2,hq2,at7⟩:=ih rest a₁ w₁ h2 b k cs;exact ⟨e2,a2,w2,hq2,.of_steps (harr _ (by simp[gotoIn,h1])) at7⟩
  | ret=>exact ⟨_,a₁,w₁,hq,harr⟩
  | panic ch=>exact ⟨_,a₁,w₁,hq,harr⟩
  | outgrown=>exact ⟨_,a₁,w₁,hq,harr⟩
theorem Oi (n:Nat) (h:body.wp P (kp P body Q n) a w):(Code.scope body).wp P Q a w:=fun b k cs=>
 let ⟨e,a',w',q,r⟩:=JK n body a w h b k cs
 ⟨e,a',w',q,.of_steps (.one step_scope) r⟩
end
section
variable {P:Program} {N:Nat} {Q:Exit→Act→World→Prop} {σ:Env} {w:World} {body:Code} {n:Nat}
theorem xY (n:Nat) (h:CW P N body (kp P body Q n) σ w):CW P N (.scope body) Q σ w:=fun a ha=>Oi n (h a ha)
theorem od (h:EW N Q .ret σ w):EW N (kp P body Q n) .ret σ w:=by cases n<;>exact h
theorem oC {l:Nat} {rest:Code} (hl:findLabel body l=some rest) (h:CW P N rest (kp P body Q n) σ w):EW N (kp P body Q (n+1)) (.goto l) σ w:=fun a ha=>.inr ⟨rest,hl,h a ha⟩
theorem Vy {l:Nat} (h:EW N Q (.goto l) σ w):CW P N (.goto l) Q σ w:=fun a ha=>wp_goto (h a ha)
theorem xZ {l:Nat} (h:EW N Q .normal σ w):CW P N (.label l) Q σ w:=fun a ha=>wp_label (h a ha)
theorem uf {K:Act→World→Prop} {l:Nat} (h:EW N Q (.goto l) σ w):EW N (Exit.then K Q) (.goto l) σ w:=h
end
section
variable {P:Program} {N:Nat} {ops:Array Oper} {Q:Exit→Act→World→Prop} {σ:Env} {w:World} {ty:TypeId} {pos:String} {af:Array Edge} {dst:Option Nat} {Post:Value→World→Prop}
theorem qq {T T':TypeId} {x y:Operand} {g o:Nat} {cs cs':Array Value} {v:Value} (hs:qr P T 1) (hx:ev σ x=some (.pointer (some ⟨g,o,none⟩))) (hy:ev σ y=some v) (hb:aB w g T' cs) (hv:v.cells= #[v]) (h1:Vn [v]=true) (hle:o<cs.size) (he:cs.setIfInBounds o v=cs')
 (k:∀w',aB w' g T' cs'→Ext (ak [some g]) w w'→Post undef w'):OW P N ops Q ⟨dst,.store T x y,ty,pos,af,none⟩ σ w Post:=by
 refine vu hs hx hy hb (by rw[hv];rfl) (by rw[hv];exact h1) om (fun w' hb' he'=>k w' ?_ he');rw[hv] at hb';rw[←he];exact hb'
end
section
variable {P:Program} {N:Nat} {ops:Array Oper} {Q:Exit→Act→World→Prop} {σ:Env} {w:World} {ty:TypeId} {pos:String} {af:Array Edge} {dst:Option Nat} {Post:Value→World→Prop}
theorem vb {x i:Operand} {T e:TypeId} {g n:Nat} {q:IntKind} {m:Int} {j:Nat} (hd:P.underlying T=some (.array n e)) (hs:qr P e 1) (hx:ev σ x=some (.pointer (some ⟨g,0,none⟩))) (hi:ev σ i=some (.int q m)) (hm:m=(j:Int)) (hj:j<n)
 (k:Post (.pointer (some ⟨g,j,none⟩)) w):OW P N ops Q ⟨dst,.indexAddr T x i,ty,pos,af,none⟩ σ w Post:=
 zgv hd hs hx hi hm hj (by rw[Nat.mul_one,Nat.zero_add];exact k)
theorem oD {x i:Operand} {T e:TypeId} {g n c:Nat} {q:IntKind} {m:Int} {j:Nat} (hd:P.underlying T=some (.slice e)) (hs:qr P e 1) (hx:ev σ x=some (.slice (some ⟨g,0,none⟩) n c)) (hi:ev σ i=some (.int q m)) (hm:m=(j:Int)) (hj:j<n)
 (k:Post (.pointer (some ⟨g,j,none⟩)) w):OW P N ops Q ⟨dst,.indexAddr T x i,ty,pos,af,none⟩ σ w Post:=
 jx hd hs hx hi hm hj (by rw[Nat.mul_one,Nat.zero_add];exact k)
theorem D6 {T e:TypeId} {x y z:Operand} {g n s h:Nat} {q q':IntKind} {m:Int} (hd:P.underlying T=some (.array n e)) (hs:qr P e s) (hx:ev σ x=some (.pointer (some ⟨g,0,none⟩))) (hz:ev σ z=some (.int q' ((0:Nat):Int))) (hy:ev σ y=some (.int q m)) (hm:m=(h:Int)) (hn:h≤n)
 (k:Post (.slice (some ⟨g,0,none⟩) h n) w):OW P N ops Q ⟨dst,.slice T x (some z) (some y) none,ty,pos,af,none⟩ σ w Post:=by
 subst hm;exact yd (fun ρ ha=>by
  simp only[execOp,Instr.sliceAt,Option.map_none,Option.map_some,ha hx,Sem.run_bind,run_underlying hd,Result.andThen_ok,Instr.sureAddr,Instr.sliceBounds,Sem.run_pure,xj hs,Option.isSome_none,Bool.false_eq_true,if_false,zgq ha y q h n _ hy hn,zgq ha z q' 0 h _ hz (Nat.zero_le _)]
  simp[Addr.add]) k
end
section
variable {P:Program} {N:Nat} {ops:Array Oper} {Q:Exit→Act→World→Prop} {σ:Env} {w:World} {ty:TypeId} {pos:String} {af:Array Edge} {dst:Option Nat} {Post:Value→World→Prop}
end
section
variable {P:Program} {N:Nat} {ops:Array Oper} {Q:Exit→Act→World→Prop} {σ:Env} {w:World} {ty:TypeId} {pos:String} {af:Array Edge} {dst:Option Nat} {Post:Value→World→Prop}
theorem qdx:∀(l:List Value) (cs:Array Value) (o j:Nat),(putCells cs o l)[j]? =if o≤j∧j<o+l.length∧j<cs.size then l[j-o]? else cs[j]?
 | [],cs,o,j=>by
  simp only[putCells,List.length_nil,Nat.add_zero]
  rw[if_neg om]
 | v::l,cs,o,j=>by
  rw[putCells,qdx l];simp only[Array.size_setIfInBounds,List.length_cons]
  by_cases h1:j=o
  · subst h1;rw[if_neg om];by_cases h2:j<cs.size
    · rw[if_pos ⟨Nat.le_refl _,om,h2⟩,Nat.sub_self];simp[h2]
    · rw[if_neg om];simp[h2]
  · by_cases h2:o+1≤j∧j<o+1+l.length∧j<cs.size
    · rw[if_pos h2,if_pos om,show j-o=(j-(o+1))+1 from om];simp
    · rw[if_neg h2,if_neg om,Array.getElem?_setIfInBounds_ne om]
theorem oF (cs:Array Value) (l:List Value) (h:l.length=cs.size):putCells cs 0 l=l.toArray:=by
 apply Array.ext_getElem?
 intro j;rw[qdx];by_cases hj:j<cs.size
 · rw[if_pos ⟨Nat.zero_le _,om,hj⟩];simp
 · rw[if_neg om,Array.getElem?_eq_none om,List.getElem?_toArray,List.getElem?_eq_none om]
theorem zo {T T':TypeId} {x y:Operand} {g:Nat} {cs:Array Value} {v:Value} {n:Nat} (hs:qr P T n) (hx:ev σ x=some (.pointer (some ⟨g,0,none⟩))) (hy:ev σ y=some v) (hb:aB w g T' cs) (hn:v.cells.size=n) (h1:Vn v.cells.toList=true) (hle:n=cs.size)
 (k:∀w',aB w' g T' v.cells→Ext (ak [some g]) w w'→Post undef w'):OW P N ops Q ⟨dst,.store T x y,ty,pos,af,none⟩ σ w Post:=
 vu hs hx hy hb hn h1 om (fun w' hb' he=>k w' (by
  rw[oF _ _ (by rw[Array.length_toList];omega)] at hb';simpa using hb') he)
theorem yix {T:TypeId} {d:TypeDesc} {x:Operand} {g o:Nat} {cs:Array Value} {n:Nat} (hd:P.underlying T=some d) (hp:TypeDesc.plain d=false) (hs:qr P T n) (hx:ev σ x=some (.pointer (some ⟨g,o,none⟩))) (hn:cs.size=n)
 (hc:∀j v,cs[j]? =some v→w.cell? ⟨g,o+j,none⟩=some v) (k:Post (.agg cs) w):OW P N ops Q ⟨dst,.load T x,ty,pos,af,none⟩ σ w Post:=
 iR hd hp hs hx hn (fun j v hj=>by rw[Addr.add_eq];exact hc j v hj) k
end
def aH7 (l:List Oper) (m:Nat):Bool:=Nat.beq (m+1) l.length&&GZ 0 (l.take m) []&&(l.take m).all fun o=>match o.guard with
 | some (g,_)=>Nat.blt g m
 | none=>true
section
variable {P:Program} {N:Nat} {Q:Exit→Act→World→Prop} {σ:Env} {w:World} {l:List Oper}
end
section
variable {P:Program} {N:Nat} {Q:Exit→Act→World→Prop} {σ:Env} {w0:World} {l:List Oper} {F:Nat→Fx} {q:Nat} {Z:Nat→Prop}
def D7 (ops:Array Oper) (Z:Nat→Prop) (F:Nat→Fx) (w0:World) (vs:Nat→Value) (X:Nat→Prop) (w:World) (i:Nat):Prop:=
 Ext Z w0 w∧(∀k,X k→k<w.heap.size)∧ ∀j∈vh ops i,Left X w (F j) (vs j)
theorem D7.dep {ops:Array Oper} {vs:Nat→Value} {X:Nat→Prop} {w:World} {i:Nat} (K:D7 ops Z F w0 vs X w i) (j:Nat) (h:gG j (vh ops i)=true) (_:True=True) (_:True=True):Left X w (F j) (vs j):=K.2.2 j (gl.1 h)
def atq (P:Program) (N:Nat) (ops:Array Oper) (Q:Exit→Act→World→Prop) (σ:Env) (q:Nat) (Z:Nat→Prop) (F:Nat→Fx) (w0:World) (i:Nat) (o:Oper):Prop:=
 ∀vs X w,D7 ops Z F w0 vs X w i→(Nat.beq i q=true→Ext No w0 w)→OW P N ops Q o (oe σ ops vs i) w (fun v w'=>match Nat.beq i q with
  | true=>Ext Z w w'∧Left No w' (F i) v
  | false=>Below w.heap.size w w'∧Left X w' (F i) v)
def ahq (P:Program) (N:Nat) (ops:Array Oper) (Q:Exit→Act→World→Prop) (σ:Env) (q:Nat) (Z:Nat→Prop) (F:Nat→Fx) (w0:World):Nat→List Oper→Prop
 | _,[]=>True
 | i,o::l=>atq P N ops Q σ q Z F w0 i o∧ahq P N ops Q σ q Z F w0 (i+1) l
def Yet (listed:Array Bool) (q:Nat) (Z:Nat→Prop) (k:Nat):Prop:=¬Ran listed q∧Z k
structure Oj (N:Nat) (l:List Oper) (σ:Env) (w0:World) (q:Nat) (Z:Nat→Prop) (F:Nat→Fx) (listed:Array Bool) (a:Act) (w:World) (vs:Nat→Value):Prop where
 size:listed.size=l.length
 defers:a.defers= []
 tmps:a.tmps.size=N
 kept:∀t v,lk t (xK (xJ l) σ)=some v→a.tmps[t]? =some v
 ran:∀i d,Ran listed i→xI l.toArray i=some d→a.tmps[d]? =some (vs i)
 old:∀i d v,¬Ran listed i→xI l.toArray i=some d→lk d σ=some v→a.tmps[d]? =some v
 down:∀i,Ran listed i→ ∀j∈vh l.toArray i,Ran listed j
 ext:Ext (fun k=>Ran listed q∧Z k) w0 w
 facts:∀i,Ran listed i→Left (Yet listed q Z) w (F i) (vs i)
theorem Oj.at_ {listed:Array Bool} {a:Act} {w:World} {vs:Nat→Value} (m:Oj N l σ w0 q Z F listed a w vs) {i:Nat} (hi:¬Ran listed i) (hd:∀j∈vh l.toArray i,Ran listed j):At N (oe σ l.toArray vs i) a:=by
 exact ZA
theorem Oj.step (hrow:GZ 0 l []=true) {listed:Array Bool} {a:Act} {w w':World} {vs:Nat→Value} (m:Oj N l σ w0 q Z F listed a w vs) {i:Nat} {o:Oper} (ho:l[i]? =some o) (hi:¬Ran listed i) (hd:∀j∈vh l.toArray i,Ran listed j)
 (hN:∀d,o.dst=some d→d<N) (v:Value) (hext:Ext (fun k=>Ran (listed.setIfInBounds i true) q∧Z k) w0 w')
 (DL:∀j,Ran listed j→Left (Yet (listed.setIfInBounds i true) q Z) w' (F j) (vs j)) (hfact:Left (Yet (listed.setIfInBounds i true) q Z) w' (F i) v) :
 Oj N l σ w0 q Z F (listed.setIfInBounds i true) (a.put o.dst v) w' (fun j=>if j=i then v else vs j):=by
 have hil:i<listed.size:=by rw[m.size];exact (List.getElem?_eq_some_iff.1 ho).1
 have hne:∀ {j},Ran listed j→j≠i:=fun h e=>hi (e▸h);have hput:∀t,o.dst≠some t→ ∀v',a.tmps[t]? =some v'→(a.put o.dst v).tmps[t]? =some v':=by
  intro t ht v' h;cases hd:o.dst with
  | none=>exact h
  | some d=>
   have:d≠t:=fun e=>ht (by rw[hd,e]);simpa [Act.put,Array.getElem?_setIfInBounds_ne this] using h
 refine ⟨by simpa using m.size,?_,?_,?_,?_,?_,?_,hext,?_⟩
 · cases hd:o.dst<;>exact m.defers
 · cases hd:o.dst
   · exact m.tmps
   · simpa [Act.put] using m.tmps
 · exact Ny
 · exact ZB
 · exact Zz
 · exact NA
 · intro j hj;rcases (xf hil).1 hj with rfl | hj
   · rw[if_pos rfl];exact hfact
   · rw[if_neg (hne hj)];exact DL j hj
end
theorem ug {g k:Nat} (h:ak [some g] k):k=g:=by
 rcases h with h | h
 · exact Option.some.inj h
 · exact h.elim
theorem Ext.noL (a:Nat) {w1 w2:World} (h:Ext No w1 w2):Ext (fun q=>a≤q) w1 w2:=h.mono fun _ h _=>h.elim
section
variable {w w':World} {X:Nat→Prop} {base base' n n' s s':Nat} {e e':TypeId} {v v':Value} {xs xs':List Value}
theorem uh {a:Option Nat} {k:Nat} (h:ak [a] k):a=some k:=by
 rcases h with h | h
 · exact h.symm
 · exact h.elim
theorem jI {g:Nat} (h:w.ownsRow base e s v n xs) (hg:v.ownBlock=some g):∃cur,aB w g e cur:=by
 rcases h.2 with ⟨rfl,_⟩ | ⟨g',cap,cur,rfl,_,hh,_⟩
 · cases hg
 · obtain rfl:g'=g:=by injection hg
   exact ⟨cur,hh⟩
theorem ZT (h:w.ownsRow base e s v n xs) (k:Ext X w w') (hn:∀g,v.ownBlock=some g→ ¬X g):w'.ownsRow base e s v n xs:=by
 rcases h.2 with h0 | ⟨g,cap,cur,rfl,hb,hh,r⟩
 · exact ⟨h.1,Or.inl h0⟩
 · exact ⟨h.1,Or.inr ⟨g,cap,cur,rfl,hb,aB.ext (show aB w g e cur from hh) k (hn g rfl),r⟩⟩
theorem x9 {g:Nat} {t t':TypeId} {cs cs':Array Value} (h:aB w g t cs) (h':aB w g t' cs'):t=t':=by
 unfold aB at h h';rw[h] at h';injection h' with h'
 injection h' with h1 h2 h3
theorem p8 {g:Nat} {t:TypeId} {cs:Array Value} (h:aB w g t cs) (h':w.ownsRow base' e' s' v' n' xs') (hne:t≠e') (k:Ext (ak [v'.ownBlock]) w w'):aB w' g t cs:=
 h.ext k fun hx=>by
  obtain ⟨c2,h2⟩:=jI h' (uh hx);exact hne (x9 h h2)
theorem zdq {g:Nat} {t:TypeId} {cs:Array Value} (h:w.ownsRow base e s v n xs) (h':aB w g t cs) (hne:e≠t) (k:Ext (ak [some g]) w w'):w'.ownsRow base e s v n xs:=
 ZT h k fun g' hg hx=>by
  obtain ⟨c1,h1⟩:=jI h hg;obtain rfl:g'=g:=ug hx;exact hne (x9 h1 h')
end
section
variable {P:Program} {N:Nat} {ops:Array Oper} {Q:Exit→Act→World→Prop} {σ:Env} {w:World} {ty:TypeId} {pos:String} {af:Array Edge} {dst:Option Nat} {Post:Value→World→Prop}
theorem D8 {T e:TypeId} {x y:Operand} {z:Value} {size bytes base n n' B m c:Nat} {v:Value} {xs news xs':List Value} {A:Option Addr} (hd:P.underlying T=some (.slice e)) (hi:tK P e z size bytes) (hzs:z.cells.size=size) (hsz:0<size)
 (hx:ev σ x=some v) (hown:w.ownsRow base e size v n xs) (hy:ev σ y=some (.slice A m c)) (hr:Reads w B size A m news) (h1:∀u∈news,u.oneCell'=true) (hn:n+m=n') (hxs:xs++news=xs') (h63:n'≤maxLen) (hbytes:n'*bytes≤140737488355328) (hbase:base≤w.heap.size)
 (k:∀A' c' w',w'.ownsRow base e size (.slice A' n' c') n' xs'→Ext (ak [v.ownBlock]) w w'→(∀k,(Value.slice A' n' c').ownBlock=some k→v.ownBlock=some k∨w.heap.size≤k)→Post (.slice A' n' c') w'):OW P N ops Q ⟨dst,.call ⟨.builtin .append,#[x,y],#[T,T]⟩,ty,pos,af,none⟩ σ w Post:=by
 subst hn hxs;refine JC hd hi hzs hsz hx hown hy hr h1 h63 hbytes hbase fun v' w' g1 g2 g3=>?_;obtain ⟨A',c',rfl⟩:=jD g1;exact k A' c' w' g1 g2 g3
end
section
variable {P:Program} {N:Nat} {ops:Array Oper} {Q:Exit→Act→World→Prop} {σ:Env} {w:World} {ty:TypeId} {pos:String} {af:Array Edge} {dst:Option Nat} {Post:Value→World→Prop}
end
end Go.Proofs.YtmnmebdmpigddaaGreatDoor
namespace Go.Proofs.YtmnmebdmpigddaaGreatDoor
open Proofs.Tryz
theorem Ee:nY prog 88 Extern.MathFloatBits.float64frombits:=⟨_,func88,kr,kr,kr,kr⟩
theorem ay2:nY prog 109 Extern.MathFloatBits.float64bits:=⟨_,func109,kr,kr,kr,kr⟩
theorem ay3:nY prog 142 (Extern.MathFloor.toIntegral "math.archTrunc" .zero):=⟨_,func142,kr,kr,kr,kr⟩
theorem jN:nY prog 225 Extern.MathFloatBits.float64frombits:=⟨_,func225,kr,kr,kr,kr⟩
end Go.Proofs.YtmnmebdmpigddaaGreatDoor
namespace Go.Proofs.YtmnmebdmpigddaaGreatDoor
open Go.RowKit Proofs.Tryz
theorem kI {P Q:Prop} (k:Q) (h:(Unit→Q)→P:=by
 intro zK;refine ztx ?_;refine aQ ?_;refine za rfl (vi (b:=b) Ee rfl ?_);exact zK ()):P:=h fun _=>k
theorem zmx {P Q:Prop} (k:Q) (h:(Unit→Q)→P:=by
 intro zK;refine za rfl (Vq ay2 rfl ?_);exact zK ()):P:=h fun _=>k
theorem ztx {P Q:Prop} (k:Q) (h:(Unit→Q)→P:=by
 intro zK;refine za rfl (vi (b:=a) Ee rfl ?_);exact zK ()):P:=h fun _=>k
theorem ykq {P:Prop} (h:P:=by
 refine zv ?_;exact vj):P:=h
theorem abx {P:Prop} (h:P:=by
 intro r w1 hr;have Ec:=hr.ext;replace E:=E.trans Ec.no;refine zh rfl VD rfl (qhv _ r) E fun w2 E=>(zv ?_);exact ⟨by rw[hr.bare];rfl,(LW.step E aj).toBelow⟩):P:=h
theorem vj {P:Prop} (h:P:=by
 exact ⟨rfl,(LW.step E aj).toBelow⟩):P:=h
attribute [local irreducible] OW RS CW EW
def qz (m:Nat):Nat:=if bO m then 9221120237041090560 else m
def oi (z:Option Nat):Nat:=z.getD 9221120237041090560
theorem gX.bare {op:BinOp} {a b r:Nat} {w w':World} (h:gX (cK op a b) r w w'):qz r=oi (cK op a b):=by
 rcases h with ⟨hz,_⟩ | ⟨hz,hn,_⟩
 · rw[hz];unfold qz oi;rw[(yax hz).1];rfl
 · rw[hz];unfold qz oi;rw[G8 hn];rfl
theorem oc (m:Nat):(ks m m !=some .eq)=bO m:=by
 cases h:bO m with
 | true=>rw[ZR (.inl h)];rfl
 | false=>rw[zvz h h,yqz];rfl
theorem zlx (m:Nat) (h:m<18446744073709551616):(BitVec.ofInt 64 (m:Int)).toNat=m:=by
 rw[BitVec.toNat_ofInt];omega
theorem yex {m:Nat} (h:m<18446744073709551616):IntKind.u64.wrap (m:Int)=(m:Int):=wrap_u64 om
theorem kt {m n:Nat} (hm:m<18446744073709551616) (hn:n<18446744073709551616):IntKind.u64.wrap (BitVec.ofInt IntKind.u64.bits (m:Int) &&& BitVec.ofInt IntKind.u64.bits (n:Int)).toNat=((m &&& n:Nat):Int):=by
 have h1:=zlx m hm;have h2:=zlx n hn;show IntKind.u64.wrap (((BitVec.ofInt 64 (m:Int) &&& BitVec.ofInt 64 (n:Int)).toNat:Nat):Int)=_
 rw[BitVec.toNat_and,h1,h2];exact yex (Nat.lt_of_le_of_lt Nat.and_le_left hm)
theorem Wx {m:Nat} (hm:m<18446744073709551616):IntKind.u64.wrap (BitVec.ofInt IntKind.u64.bits (m:Int) &&& BitVec.ofInt IntKind.u64.bits 9223372036854775807).toNat=((rg m:Nat):Int):=by
 have:=kt (n:=9223372036854775807) hm de;rw[show m &&& 9223372036854775807=rg m from Nat.and_two_pow_sub_one_eq_mod m 63] at this;exact this
def uO (b:Nat):Bool:=decide (rg b=0)
theorem zvx (b:Nat):(ks b 0==some .eq)=uO b:=by
 cases h:bO b with
 | true=>
  rw[ZR (.inl h)];have:uO b=false:=by unfold bO at h;unfold uO;simp at h ⊢;omega
  rw[this];rfl
 | false=>
  rw[zvz h de];have h0:pc 0=0:=de;rw[h0,nZ,uO];by_cases hz:rg b=0
  · have:pc b=0:=by unfold pc;split<;>omega
    rw[this];simp[hz]
  · have:pc b≠0:=by unfold pc;split<;>omega
    rw[if_neg this];split<;>simp[hz]<;>decide
def ak3 (a b:Nat):Nat:=if uO b then 0 else oi (cK .quo a b)
def ak4 (b:Nat):Int:=if uO b then 6 else 0
def Qc (x y:Int):Int:=if x<y then -1 else if x>y then 1 else 0
def xw (a b:Nat):Bool:=!(bO a)&& !(bO b)
def kJ (a b:Nat):Int:=if xw a b then Qc (pc a) (pc b) else 0
theorem zkq {a b:Nat} {o:Ordering} (h:(ks a b==some o)=true):xw a b=true:=by
 unfold xw;cases ha:bO a with
 | true=>rw[ZR (.inl ha)] at h;cases h
 | false=>
  cases hbq:bO b with
  | true=>rw[ZR (.inr hbq)] at h;cases h
  | false=>rfl
theorem yiz {a b:Nat} (h:xw a b=true):ks a b=some (nZ (pc a) (pc b)):=by
 unfold xw at h;simp at h
 exact zvz h.1 h.2
theorem Wy {a b:Nat} (h:(ks a b==some .lt)=true):kJ a b= -1:=by
 have ho:=zkq h;rw[yiz ho] at h;rw[kJ,if_pos ho,Qc];unfold nZ at h;split at h
 · rename_i h1;rw[if_pos h1]
 · split at h<;>cases h
theorem Wz {a b:Nat} (h:(ks a b==some .gt)=true):kJ a b=1:=by
 have ho:=zkq h;rw[yiz ho] at h;rw[kJ,if_pos ho,Qc];unfold nZ at h;split at h
 · cases h
 · split at h
   · cases h
   · rename_i h1 h2;rw[if_neg h1,if_pos om]
theorem H6 {a b:Nat} (h:(ks a b==some .lt)=false) (h2:(ks a b==some .gt)=false):kJ a b=0∧xw a b=(ks a b==some .eq):=by
 cases ho:xw a b with
 | true=>
  rw[yiz ho] at h h2 ⊢;rw[kJ,if_pos ho,Qc];rcases Int.lt_trichotomy (pc a) (pc b) with h1 | h1 | h1
  · rw[yqq h1] at h;cases h
  · rw[h1,yqz];exact ⟨by rw[if_neg om,if_neg om],rfl⟩
  · rw[qhq h1] at h2;cases h2
 | false=>
  refine ⟨by rw[kJ,if_neg (by rw[ho];decide)],?_⟩;unfold xw at ho;cases ha:bO a with
  | true=>rw[ZR (.inl ha)];rfl
  | false=>
   cases hbq:bO b with
   | true=>rw[ZR (.inr hbq)];rfl
   | false=>rw[ha,hbq] at ho;cases ho
section
variable (w:World)
theorem qhv (m:Nat):Calls prog 87 #[.float .f64 m] w (aH w (.int .u64 ((qz m:Nat):Int))):=by
 refine zc func87 rfl ntmps87 rfl ?_;have LW:=aF (No) w;have aj:=bD (No) w;have E:=aF (No) w;refine zy ?_;refine za rfl (qex rfl rfl (zu ?_));refine ze 5 (.bool (bO m)) rfl (by rw[oc]<;>rfl) (zj rfl (fun h=>?_) (fun h=>?_))
 ·
  refine yu ?_;exact ⟨by rw[qz,if_pos h];rfl,(LW.step E aj).toBelow⟩
 ·
  refine zv ?_;refine zmx ?_;refine zv ?_;exact ⟨by rw[qz,if_neg (by rw[h];decide)];rfl,(LW.step E aj).toBelow⟩
section
variable (a b:Nat)
theorem yox:Calls prog 41 #[.int .u64 ((a:Nat):Int)] w (aH w (.int .u64 ((qz (qa a):Nat):Int))):=by
 refine zc func41 rfl ntmps41 rfl ?_;have LW:=aF (No) w;have aj:=bD (No) w;have E:=aF (No) w;refine yu ?_;refine ztx ?_;refine za rfl (G7 rfl (zh rfl VD rfl (qhv _ (qa a)) E fun w1 E=>?_));exact ykq
theorem KE:Calls prog 121 #[.int .u64 ((a:Nat):Int),.int .u64 ((b:Nat):Int)] w (aH w (.int .u64 ((oi (cK .add a b):Nat):Int))):=by
 refine zc func121 rfl ntmps121 rfl ?_;have LW:=aF (No) w;have aj:=bD (No) w;have E:=aF (No) w;refine yu ?_;refine kI ?_;refine za rfl (zux (m:=a) (n:=b) (.inl rfl) rfl rfl ?_);exact abx
theorem KF:Calls prog 123 #[.int .u64 ((a:Nat):Int),.int .u64 ((b:Nat):Int)] w (aH w (.int .u64 ((oi (cK .mul a b):Nat):Int))):=by
 refine zc func123 rfl ntmps123 rfl ?_;have LW:=aF (No) w;have aj:=bD (No) w;have E:=aF (No) w;refine yu ?_;refine kI ?_;refine za rfl (zux (m:=a) (n:=b) (.inr (.inr (.inl rfl))) rfl rfl ?_);exact abx
theorem qM:Calls prog 117 #[.int .u64 ((a:Nat):Int),.int .u64 ((b:Nat):Int)] w (aH w (.tuple #[.int .i64 (kJ a b),.bool (xw a b)])):=by
 refine zc func117 rfl ntmps117 rfl ?_;have LW:=aF (No) w;have aj:=bD (No) w;have E:=aF (No) w;refine qo ?_;refine kI ?_;refine zy ?_;refine za rfl (qvq rfl rfl (zq ?_));refine zj rfl (fun h=>?_) (fun h=>?_)
 ·
  refine zy ?_;exact ⟨by rw[Wy h,zkq h];rfl,(LW.step E aj).toBelow⟩
 ·
  refine ye ?_;refine za rfl (tQ rfl rfl (zq ?_));refine zj rfl (fun h2=>?_) (fun h2=>?_)
  ·
   refine zy ?_;exact ⟨by rw[Wz h2,zkq h2];rfl,(LW.step E aj).toBelow⟩
  ·
   refine zr ?_;refine za rfl (tO rfl rfl (zt ?_));exact ⟨by rw[(H6 h h2).1,(H6 h h2).2];rfl,(LW.step E aj).toBelow⟩
end
end
section
variable (w:World)
section
variable (a:Nat) (ha:a<18446744073709551616)
include ha
theorem KG:Calls prog 65 #[.int .u64 ((a:Nat):Int)] w (aH w (.bool (bO a))):=by
 refine zc func65 rfl ntmps65 rfl ?_;have LW:=aF (No) w;have aj:=bD (No) w;have E:=aF (No) w;refine yu ?_;refine za rfl (kg rfl rfl (Wx ha) (zt ?_));exact ⟨by rw[show bO a=decide (((rg a:Nat):Int)>9218868437227405312) from by unfold bO;congr 1;apply propext;omega];rfl,(LW.step E aj).toBelow⟩
end
section
variable (a b:Nat) (ha:a<18446744073709551616) (hbq:b<18446744073709551616)
include ha hbq
end
end
end Go.Proofs.YtmnmebdmpigddaaGreatDoor
namespace Go.Proofs.YtmnmebdmpigddaaGreatDoor
open Go.RowKit Proofs.Tryz
attribute [local irreducible] OW RS CW EW
theorem zyz (m:Nat):BitVec.ofInt 64 ((m:Nat):Int)=BitVec.ofNat 64 m:=BitVec.ofInt_natCast 64 m
theorem qtv {a:Nat} (ha:a<18446744073709551616):IntKind.u64.wrap (BitVec.ofInt IntKind.u64.bits ((a:Nat):Int) &&& ~~~BitVec.ofInt IntKind.u64.bits 9223372036854775808).toNat=((rg a:Nat):Int):=by
 have h:=ig ha;show IntKind.u64.wrap (((BitVec.ofInt 64 ((a:Nat):Int) &&& ~~~BitVec.ofInt 64 ((9223372036854775808:Nat):Int)).toNat:Nat):Int)=_
 rw[zyz,zyz,h];exact yex (Nat.lt_trans (xU a) de)
theorem kM {a:Nat} (ha:a<18446744073709551616):IntKind.u64.wrap (BitVec.ofInt IntKind.u64.bits ((a:Nat):Int) &&& ~~~BitVec.ofInt IntKind.u64.bits 9218868437227405312).toNat=((a/9223372036854775808*9223372036854775808+a%4503599627370496:Nat):Int):=by
 have h:=kK ha;show IntKind.u64.wrap (((BitVec.ofInt 64 ((a:Nat):Int) &&& ~~~BitVec.ofInt 64 ((9218868437227405312:Nat):Int)).toNat:Nat):Int)=_
 rw[zyz,zyz,h];exact yex om
theorem gz {m n:Nat} (hm:m<18446744073709551616) (hn:n<18446744073709551616):IntKind.u64.wrap (BitVec.ofInt IntKind.u64.bits (m:Int) ||| BitVec.ofInt IntKind.u64.bits (n:Int)).toNat=((m ||| n:Nat):Int):=by
 have h1:=zlx m hm;have h2:=zlx n hn;show IntKind.u64.wrap (((BitVec.ofInt 64 (m:Int) ||| BitVec.ofInt 64 (n:Int)).toNat:Nat):Int)=_
 rw[BitVec.toNat_or,h1,h2];exact yex (Nat.or_lt_two_pow (n:=64) om om)
theorem Qg {a:Nat} (ha:a<18446744073709551616):IntKind.u64.wrap (BitVec.ofInt IntKind.u64.bits ((a:Nat):Int) &&& BitVec.ofInt IntKind.u64.bits 9223372036854775808).toNat=((if ng a then 9223372036854775808 else 0:Nat):Int):=by
 have:=kt (n:=9223372036854775808) ha de;rw[uR a ha] at this;exact this
theorem EM (a:Nat):bO (rg a)=bO a:=by unfold bO rg;rw[Nat.mod_mod]
theorem kN (a:Nat):rg (rg a)=rg a:=Nat.mod_mod _ _
theorem aB8 (a:Nat):ng (rg a)=false:=by
 have:=xU a;unfold ng;rw[Nat.div_eq_of_lt this];rfl
theorem ac0 (a:Nat):pc (rg a)=((rg a:Nat):Int):=by rw[pc,aB8,kN];rfl
theorem H9 {a c:Nat} (ha:bO a=false) (hc:bO c=false):ks (rg a) (rg c)=some (nZ ((rg a:Nat):Int) ((rg c:Nat):Int)):=by
 rw[zvz (by rw[EM];exact ha) (by rw[EM];exact hc),ac0,ac0]
theorem EN (a:Nat):(ks (rg a) 9218868437227405311==some .gt)=decide (rg a=9218868437227405312):=by
 cases h:bO a with
 | true=>
  rw[ZR (.inl (by rw[EM];exact h))];have:¬rg a=9218868437227405312:=by have:=of_decide_eq_true h;omega
  rw[decide_eq_false this];rfl
 | false=>
  have h2:=H9 (c:=9218868437227405311) h de;rw[show rg 9218868437227405311=9218868437227405311 from de] at h2;have h3:¬9218868437227405312<rg a:=of_decide_eq_false h;rw[h2];by_cases h4:rg a=9218868437227405312
  · rw[h4];decide
  · rw[decide_eq_false h4,nZ];split
    · rfl
    · split
      · rfl
      · omega
theorem Qh {a:Nat} (h:bO a=false):(ks (rg a) 4503599627370496==some .lt)=decide (rg a<4503599627370496):=by
 have h2:=H9 (c:=4503599627370496) h de;rw[show rg 4503599627370496=4503599627370496 from de] at h2;rw[h2];by_cases h4:rg a<4503599627370496
 · rw[decide_eq_true h4,yqq om];rfl
 · rw[decide_eq_false h4,nZ,if_neg om];split<;>rfl
section
variable (w:World) (a:Nat) (ha:a<18446744073709551616)
include ha
theorem uS:Calls prog 113 #[.float .f64 a] w (aH w (.float .f64 (rg a))):=by
 refine zc func113 rfl ntmps113 rfl ?_;have LW:=aF (No) w;have aj:=bD (No) w;have E:=aF (No) w;refine yu ?_;refine zmx ?_;refine za rfl (zuz rfl rfl (qtv ha) (za rfl (vi (b:=rg a) Ee rfl ?_)));exact ykq
theorem ju:Calls prog 89 #[.float .f64 a,.int .i64 0] w (aH w (.bool (decide (rg a=9218868437227405312)))):=by
 refine zc func89 rfl ntmps89 rfl ?_;have LW:=aF (No) w;have aj:=bD (No) w;have E:=aF (No) w;refine xd ?_;refine za rfl (zb Oz rfl ((uS _ a ha).mono ?_));rintro e w1 ⟨rfl,hb⟩;refine ⟨_,rfl,?_⟩;replace E:=bQ E hb;clear hb;refine zt ?_;refine za rfl (tQ rfl rfl (zv ?_));exact ⟨by rw[←EN];rfl,(LW.step E aj).toBelow⟩
omit ha in
theorem EO:Calls prog 172 #[.float .f64 a] w (aH w (.bool (bO a))):=by
 refine zc func172 rfl ntmps172 rfl ?_;have LW:=aF (No) w;have aj:=bD (No) w;have E:=aF (No) w;refine qo ?_;refine za rfl (qex rfl rfl (zv ?_));exact ⟨by rw[←oc];rfl,(LW.step E aj).toBelow⟩
theorem uT (b:Nat) (hb:b<18446744073709551616):Calls prog 103 #[.float .f64 a,.float .f64 b] w (aH w (.float .f64 (Ieee.double.word (ng b) (rg a)))):=by
 have hr:=xU a;have ho:(rg a ||| (if ng b then 9223372036854775808 else 0:Nat))=Ieee.double.word (ng b) (rg a):=by
  unfold Ieee.Format.word;rw[c1];split
  · rw[Nat.or_comm];exact kL 63 hr rfl
  · exact Nat.or_zero _
 have hs:(if ng b then 9223372036854775808 else 0:Nat)<18446744073709551616:=by split<;>decide
 refine zc func103 rfl ntmps103 rfl ?_;have LW:=aF (No) w;have aj:=bD (No) w;have E:=aF (No) w;refine yu ?_;refine zmx ?_;refine za rfl (zuz rfl rfl (qtv ha) (aQ ?_));refine zmx ?_;refine za rfl (kg rfl rfl (Qg hb) (za rfl (pJ rfl rfl (gz (Nat.lt_trans hr de) hs) (za rfl (vi (b:=rg a ||| (if ng b then 9223372036854775808 else 0:Nat)) Ee rfl (zv ?_))))));exact ⟨by rw[←ho];rfl,(LW.step E aj).toBelow⟩
end
end Go.Proofs.YtmnmebdmpigddaaGreatDoor
namespace Go.Proofs.YtmnmebdmpigddaaGreatDoor
open Go.RowKit Proofs.Tryz
theorem yfk {P Q:Prop} (k:Q) (h:(Unit→Q)→P:=by
 intro zK;refine za rfl (tO rfl rfl (zq ?_));exact zK ()):P:=h fun _=>k
theorem kP {P Q:Prop} (k:Q) (h:(Unit→Q)→P:=by
 intro zK;refine zu ?_;refine bV rfl (zb avj rfl ((EO _ a).mono ?_));exact zK ()):P:=h fun _=>k
theorem yzx {P Q:Prop} (k:Q) (h:(Unit→Q)→P:=by
 intro zK;refine za rfl (jl underlying3 u25 rfl (yr om) ?_);exact zK ()):P:=h fun _=>k
theorem yt {P Q:Prop} (k:Q) (h:(Unit→Q)→P:=by
 intro zK;refine za rfl (jn rfl rfl (yr om) ?_);exact zK ()):P:=h fun _=>k
theorem yo {P Q:Prop} (k:Q) (h:(Unit→Q)→P:=by
 intro zK;refine za rfl (jc rfl rfl (yr om) ?_);exact zK ()):P:=h fun _=>k
theorem Qi {P:Prop} (h:P:=by
 obtain ⟨h1,h2,h3⟩:=vv (ng a) (rg a) (xU a);exact JJ h3 ha h1 h2):P:=h
attribute [local irreducible] OW RS CW EW
theorem KJ {a:Nat} (ha:a<18446744073709551616):Ieee.double.word (ng a) (rg a)=a:=by
 exact Qi
def Nb (a:Nat):Nat:=Ieee.double.word (ng a) (nr (rg a))
def Nc (a:Nat):Int:=if rg a<4503599627370496 then -52 else 0
theorem WA {a:Nat} (ha:a<18446744073709551616) (h:¬rg a<4503599627370496):Nb a=a:=by
 rw[Nb,nr,if_neg h];exact KJ ha
theorem EP {a:Nat} (h0:rg a≠0) (hf:rg a<9218868437227405312):Nb a<18446744073709551616:=(vv (ng a) (nr (rg a)) (Nat.lt_trans (zyq h0 hf) de)).2.2
theorem gX.some {z:Option Nat} {r q:Nat} {w w':World} (h:gX z r w w') (hz:z=some q):r=q:=by
 rcases h with ⟨h1,_⟩ | ⟨h1,_⟩
 · rw[hz] at h1;exact (Option.some.inj h1).symm
 · rw[hz] at h1;cases h1
theorem qxz {a:Nat} (hf:rg a<9218868437227405312):bO a=false:=decide_eq_false om
theorem ac1 (m:Nat):((m:Nat):Int).fdiv (2^(min (52:Int).toNat IntKind.u64.bits))=((m/4503599627370496:Nat):Int):=by
 show ((m:Nat):Int).fdiv (2^52)=_
 rw[show (2:Int)^52=((4503599627370496:Nat):Int) from rfl,Int.fdiv_eq_ediv_of_nonneg _ om];rfl
theorem Qj {m:Nat} (hm:m<18446744073709551616):IntKind.u64.wrap (BitVec.ofInt IntKind.u64.bits ((m:Nat):Int) &&& BitVec.ofInt IntKind.u64.bits 2047).toNat=((m%2048:Nat):Int):=by
 have:=kt (n:=2047) hm de;rw[show m &&& 2047=m%2048 from Nat.and_two_pow_sub_one_eq_mod m 11] at this;exact this
theorem ytq (s:Bool) {r:Nat} (hr:r<9218868437227405312):Ieee.double.word s r/4503599627370496%2048=r/4503599627370496∧Ieee.double.word s r/9223372036854775808*9223372036854775808+Ieee.double.word s r%4503599627370496=Ieee.double.word s (r%4503599627370496):=by
 unfold Ieee.Format.word;rw[c1];cases s
 · simp only[Bool.false_eq_true,if_false];omega
 · simp only[if_true];omega
theorem WB {f x:Nat} (hf:f<4503599627370496) (hx:x%4503599627370496=0):f ||| x=x+f:=by
 rw[Nat.or_comm];exact kL 52 hf hx
theorem qnz (s:Bool) {f x:Nat} (hf:f<4503599627370496) (hx:x%4503599627370496=0) (hl:x+f<9223372036854775808):Ieee.double.word s f ||| x=Ieee.double.word s (x+f):=by
 have h1:=WB hf hx;unfold Ieee.Format.word;rw[c1];cases s
 · exact h1
 · show (9223372036854775808+f) ||| x=9223372036854775808+(x+f)
   rw[←kL 63 (a:=9223372036854775808) (b:=f) (Nat.lt_trans hf de) rfl,Nat.or_assoc,h1];exact kL 63 hl rfl
section
variable (w:World) (a:Nat) (ha:a<18446744073709551616) (h0:rg a≠0) (hf:rg a<9218868437227405312)
include ha h0 hf
theorem zrz:Calls prog 173 #[.float .f64 a] w (aH w (.tuple #[.float .f64 (Nb a),.int .i64 (Nc a)])):=by
 refine zc func173 rfl ntmps173 rfl ?_;have LW:=aF (No) w;have aj:=bD (No) w;have E:=aF (No) w;refine zy ?_;refine zh rfl Oz rfl (uS _ a ha) E fun w1 E=>(za rfl (qvq rfl rfl (zu ?_)));refine ze 6 (.bool (decide (rg a<4503599627370496))) rfl (by rw[Qh (qxz hf)]<;>rfl) (zj rfl (fun h=>?_) (fun h=>?_))
 ·
  refine zq ?_;refine za rfl (zux (m:=a) (n:=4841369599423283200) (.inr (.inr (.inl rfl))) rfl rfl ?_);intro r w2 hr;have Ec:=hr.ext;replace E:=E.trans Ec.no;refine zr ?_;exact ⟨by rw[hr.some (oN h0 (of_decide_eq_true h)),Nc,if_pos (of_decide_eq_true h)];rfl,(LW.step E aj).toBelow⟩
 ·
  refine yq ?_;exact ⟨by rw[WA ha (of_decide_eq_false h),Nc,if_neg (of_decide_eq_false h)];rfl,(LW.step E aj).toBelow⟩
theorem KL:Calls prog 141 #[.float .f64 a] w (aH w (.tuple #[.float .f64 (iI a),.int .i64 (oO a)])):=by
 have hz:uO a=false:=decide_eq_false h0;have kQ:decide (rg a=9218868437227405312)=false:=decide_eq_false om;have hn:=qxz hf;have hlt:=EP h0 hf;have hlow:=uP h0;have hhigh:=zyq h0 hf;obtain ⟨hp1,hp2⟩:=ytq (ng a) hhigh;have hex:nr (rg a)/4503599627370496=ex (nr (rg a))+1:=by unfold ex;rw[if_neg om];omega
 have hmg:mg (nr (rg a))=4503599627370496+nr (rg a)%4503599627370496:=by unfold mg;rw[if_neg om]
 have aB9:ex (nr (rg a))≤2045:=om;have hfl:nr (rg a)%4503599627370496<4503599627370496:=Nat.mod_lt _ de;have aBq:Nc a=0∨Nc a= -52:=by unfold Nc;split<;>simp
 have hfw:Ieee.double.word (ng a) (nr (rg a)%4503599627370496)<18446744073709551616:=(vv _ _ om).2.2;have hor:=qnz (ng a) (x:=4602678819172646912) hfl de om;have aL0:Ieee.double.word (ng a) (4602678819172646912+nr (rg a)%4503599627370496)=iI a:=by rw[iI,hmg,Nat.add_sub_cancel_left]
 have aL1:Nc a+(((ex (nr (rg a))+1:Nat):Int)-1023+1)=oO a:=by
  unfold Nc oO;split<;>omega
 refine zc func141 rfl ntmps141 rfl ?_;have LW:=aF (No) w;have aj:=bD (No) w;have E:=aF (No) w;refine yq ?_;refine yfk ?_;refine ze 5 (.bool false) rfl (by rw[zvx,hz]<;>rfl) (ye ?_);refine zh rfl gY rfl (ju _ a ha) E fun w1 E=>(zd 11 (.bool false) rfl (by rw[kQ]<;>rfl) (kP ?_));rintro e w2 ⟨rfl,hb⟩;refine ⟨_,rfl,?_⟩;replace E:=bQ E hb;refine zd 14 (.bool false) rfl (by rw[hn]<;>rfl) (yq ?_);refine zh rfl OA rfl (zrz _ a ha h0 hf) E fun w3 E=>(zy ?_);refine zmx ?_;refine zr ?_;refine za rfl (jo rfl rfl de (ac1 (Nb a)) (za rfl (kg rfl rfl (Qj om) (zd 27 (.int .u64 ((ex (nr (rg a))+1:Nat):Int)) rfl (by rw[show Nb a/4503599627370496%2048=_ from hp1,hex]<;>rfl) (yzx ?_)))));refine yt ?_;refine yo ?_;refine yo ?_;refine zt ?_;refine za rfl (zuz rfl rfl (kM hlt) (zd 33 (.int .u64 ((Ieee.double.word (ng a) (nr (rg a)%4503599627370496):Nat):Int)) rfl (by rw[show Nb a/9223372036854775808*9223372036854775808+Nb a%4503599627370496=_ from hp2]<;>rfl) (zt ?_)));refine za rfl (pJ rfl rfl (gz (n:=4602678819172646912) hfw de) (zd 35 (.int .u64 ((iI a:Nat):Int)) rfl (by rw[show Ieee.double.word (ng a) (nr (rg a)%4503599627370496) ||| 4602678819172646912=iI a from hor.trans aL0]<;>rfl) (zt ?_)));refine za rfl (vi (b:=iI a) Ee rfl (zv ?_));exact ⟨by rw[←aL1];rfl,(LW.step E aj).toBelow⟩
end
end Go.Proofs.YtmnmebdmpigddaaGreatDoor
namespace Go.Proofs.YtmnmebdmpigddaaGreatDoor
open Go.RowKit Proofs.Tryz
theorem zU {P Q:Prop} (k:Q) (h:(Unit→Q)→P:=by
 intro zK;refine za rfl (zuz rfl rfl (kM hlt) (zd 52 (.int .u64 ((Ieee.double.word (ng a) (nr (rg a)%4503599627370496):Nat):Int)) rfl (by rw[show Nb a/9223372036854775808*9223372036854775808+Nb a%4503599627370496=_ from hp2]<;>rfl) (zr ?_)));refine yo ?_;refine za rfl (jl u25 underlying3 rfl (wrap_u64 om) ?_);exact zK ()):P:=h fun _=>k
theorem zV {P Q:Prop} (k:Q) (h:(Unit→Q)→P:=by
 intro zK;refine za rfl (jo rfl rfl de (ac1 (Nb a)) (za rfl (jl underlying3 u25 rfl (yr om) (za rfl (kg rfl rfl (KM om) (zd 34 (.int .i64 ((ex (nr (rg a))+1:Nat):Int)) rfl (by rw[show Nb a/4503599627370496%2048=_ from hp1,hex]<;>rfl) (yt ?_)))))));refine yo ?_;refine zy ?_;refine ze 38 (.bool false) rfl (by rw[hB,decide_eq_false om]<;>rfl) ?_;exact zK ()):P:=h fun _=>k
attribute [local irreducible] OW RS CW EW
theorem KM {m:Nat} (hm:m<18446744073709551616):IntKind.i64.wrap (BitVec.ofInt IntKind.i64.bits ((m:Nat):Int) &&& BitVec.ofInt IntKind.i64.bits 2047).toNat=((m%2048:Nat):Int):=by
 have h1:=zlx m hm;have h2:=zlx 2047 de;show IntKind.i64.wrap (((BitVec.ofInt 64 (m:Int) &&& BitVec.ofInt 64 ((2047:Nat):Int)).toNat:Nat):Int)=_
 rw[BitVec.toNat_and,h1,h2,show m &&& 2047=m%2048 from Nat.and_two_pow_sub_one_eq_mod m 11];exact yr om
theorem zW {x m f q:Nat} (h1:x*4503599627370496+m=q) (h2:m=4503599627370496+f):(x+1)*4503599627370496+f=q:=by rw[←h1,h2,Nat.add_mul,Nat.one_mul,Nat.add_assoc]
theorem Qk (a:Nat):Nc a= -((nd (rg a):Nat):Int):=by unfold Nc nd;split<;>rfl
theorem KN {s:Bool} {q:Nat} (hq:q<9218868437227405312):cK .mul 4607182418800017408 (Ieee.double.word s q)=some (Ieee.double.word s q):=by
 obtain ⟨h1,h2,_⟩:=vv s q (Nat.lt_trans hq de);have hc:rg 4607182418800017408=4607182418800017408∧ng 4607182418800017408=false∧vl 4607182418800017408=2^1074:=by decide +kernel
 have:=kR (a:=4607182418800017408) (b:=Ieee.double.word s q) (r:=q) (by rw[hc.1];decide) (by rw[h1];exact hq) hq (fun P hP=>by rewrite [hc.1,hc.2.2,←hP,h1];exact Nat.mul_comm P (vl q));rw[this,hc.2.1,h2,Bool.false_xor]
theorem WE {P i j n:Nat} (h:P=2^n) (hn:n=i+j):P=2^i*2^j:=by rw[h,hn,Nat.pow_add]
theorem WG {A B P q v1 v2:Nat} (h1:v1=A) (h2:v2=q*B) (h3:P=A*B):v1*v2=q*P:=by rw[h1,h2,h3,Nat.mul_left_comm]
theorem WH {s:Bool} {q:Nat} (h0:q≠0) (hq:q<4503599627370496):cK .mul 4368491638549381120 (Ieee.double.word s ((ex (nr q)+1)*4503599627370496+mg (nr q)))=some (Ieee.double.word s q):=by
 obtain ⟨hm1,hm2⟩:=WC h0;have he:ex (nr q)≤51:=by rw[(yvq h0 hq).1];exact (zsx h0 hq).1
 obtain ⟨Q,hQ⟩:∃Q,Q=(ex (nr q)+1)*4503599627370496+mg (nr q):=⟨_,rfl⟩;obtain ⟨p1,p2⟩:=zxk (e:=ex (nr q)+1) hm1 hm2;rw[←hQ] at p1 p2 ⊢;have hQl:Q<9218868437227405312:=om;obtain ⟨h1,h2,_⟩:=vv s Q (Nat.lt_trans hQl de);have hc:rg 4368491638549381120=4368491638549381120∧ng 4368491638549381120=false∧vl 4368491638549381120=2^1021:=by decide +kernel
 have hvQ:vl Q=q*2^53:=by
  rw[vl,p1,p2,Nat.pow_succ,←Nat.mul_assoc];have:=Qe h0 hq;unfold vl at this;rw[this,Nat.mul_assoc]
 have:=kR (a:=4368491638549381120) (b:=Ieee.double.word s Q) (r:=q) (by rw[hc.1];decide) (by rw[h1];exact hQl) om (fun P hP=>by
  rewrite [hc.1,h1,uQ hq]
  exact WG hc.2.2 hvQ (WE (i:=1021) (j:=53) (n:=1074) hP de))
 rw[this,hc.2.1,h2,Bool.false_xor]
section
variable (w:World) (a k q:Nat) (ha:a<18446744073709551616) (h0:rg a≠0) (hf:rg a<9218868437227405312) (hk:k<4096) (hq:q<9218868437227405312) (hv:vl q=vl (rg a)*2^k)
include ha h0 hf hk hq hv
theorem ER (hn:4503599627370496≤q):Calls prog 145 #[.float .f64 a,.int .i64 ((k:Nat):Int)] w (aH w (.float .f64 (Ieee.double.word (ng a) q))):=by
 have hz:uO a=false:=decide_eq_false h0;have kQ:decide (rg a=9218868437227405312)=false:=decide_eq_false om;have hnn:=qxz hf;have hlt:=EP h0 hf;have hlow:=uP h0;have hhigh:=zyq h0 hf;obtain ⟨hp1,hp2⟩:=ytq (ng a) hhigh;have hex:nr (rg a)/4503599627370496=ex (nr (rg a))+1:=by unfold ex;rw[if_neg om];omega
 have hmg:mg (nr (rg a))=4503599627370496+nr (rg a)%4503599627370496:=by unfold mg;rw[if_neg om]
 have aB9:ex (nr (rg a))≤2045:=om;have hfl:nr (rg a)%4503599627370496<4503599627370496:=Nat.mod_lt _ de;have aBq:=Qk a;have aL2:nd (rg a)≤52:=by unfold nd;split<;>omega
 have hfw:Ieee.double.word (ng a) (nr (rg a)%4503599627370496)<18446744073709551616:=(vv _ _ om).2.2;obtain ⟨hM,hE⟩:=qrv h0 (q:=q) om hv;have hnq:nr q=q:=by rw[nr,if_neg om]
 have ak5:nd q=0:=by unfold nd;rw[if_neg om]
 rw[hnq] at hM hE;rw[ak5] at hE;have hrq:=H7 (r:=q);have heq:ex q≤2045:=by unfold ex;rw[if_neg om];omega
 have hB:((k:Nat):Int)+Nc a+(((ex (nr (rg a))+1:Nat):Int)-1023)=((ex q:Nat):Int)-1022:=om;have hor:=qnz (ng a) (x:=(ex q+1)*4503599627370496) hfl (Nat.mul_mod_left _ _) om;have hsum:=zW hrq (hM.trans hmg);have hword:=congrArg (Ieee.double.word (ng a)) hsum;refine zc func145 rfl ntmps145 rfl ?_;have LW:=aF (No) w;have aj:=bD (No) w;have E:=aF (No) w;refine zy ?_;refine yfk ?_;refine ze 8 (.bool false) rfl (by rw[zvx,hz]<;>rfl) (ye ?_);refine zh rfl gY rfl (ju _ a ha) E fun w1 E=>(zd 14 (.bool false) rfl (by rw[kQ]<;>rfl) (kP ?_));rintro e w2 ⟨rfl,hb⟩;refine ⟨_,rfl,?_⟩;replace E:=bQ E hb;refine zd 17 (.bool false) rfl (by rw[hnn]<;>rfl) (yq ?_);refine zh rfl OA rfl (zrz _ a ha h0 hf) E fun w3 E=>(yq ?_);refine yo ?_;refine zt ?_;refine zmx ?_;refine zr ?_;refine zV ?_;refine ze 1 (.int .i64 (((ex q:Nat):Int)-1022)) rfl (by rw[hB]<;>rfl) (zy ?_);refine ze 42 (.bool false) rfl (by rw[decide_eq_false om]<;>rfl) (xd ?_);refine ze 48 (.bool false) rfl (by rw[decide_eq_false om]<;>rfl) (zt ?_);refine zU ?_;refine za rfl (gk (z:=(((ex q+1)*4503599627370496:Nat):Int)) rfl rfl de (by show IntKind.u64.wrap ((((ex q:Nat):Int)-1022+1023)*4503599627370496)=_;rw[wrap_u64 om];omega) (za rfl (pJ rfl rfl (gz hfw om) (zd 58 (.int .u64 ((Ieee.double.word (ng a) q:Nat):Int)) rfl (by rw[hor.trans hword]<;>rfl) (zr ?_)))));refine za rfl (vi (b:=Ieee.double.word (ng a) q) Ee rfl (za rfl (zux (m:=4607182418800017408) (n:=Ieee.double.word (ng a) q) (.inr (.inr (.inl rfl))) rfl rfl ?_)));intro r w4 hr;have Ec:=hr.ext;replace E:=E.trans Ec.no;refine zv ?_;exact ⟨by rw[hr.some (KN hq)];rfl,(LW.step E aj).toBelow⟩
theorem KO (hn:q<4503599627370496) (hq0:q≠0):Calls prog 145 #[.float .f64 a,.int .i64 ((k:Nat):Int)] w (aH w (.float .f64 (Ieee.double.word (ng a) q))):=by
 have _:=hq;have hz:uO a=false:=decide_eq_false h0;have kQ:decide (rg a=9218868437227405312)=false:=decide_eq_false om;have hnn:=qxz hf;have hlt:=EP h0 hf;have hlow:=uP h0;have hhigh:=zyq h0 hf;obtain ⟨hp1,hp2⟩:=ytq (ng a) hhigh;have hex:nr (rg a)/4503599627370496=ex (nr (rg a))+1:=by unfold ex;rw[if_neg om];omega
 have hmg:mg (nr (rg a))=4503599627370496+nr (rg a)%4503599627370496:=by unfold mg;rw[if_neg om]
 have aB9:ex (nr (rg a))≤2045:=om;have hfl:nr (rg a)%4503599627370496<4503599627370496:=Nat.mod_lt _ de;have aBq:=Qk a;have aL2:nd (rg a)≤52:=by unfold nd;split<;>omega
 have hfw:Ieee.double.word (ng a) (nr (rg a)%4503599627370496)<18446744073709551616:=(vv _ _ om).2.2;obtain ⟨hM,hE⟩:=qrv h0 (q:=q) hq0 hv;have ak5:nd q=52:=by unfold nd;rw[if_pos hn]
 rw[ak5] at hE;have heq:ex (nr q)≤51:=by rw[(yvq hq0 hn).1];exact (zsx hq0 hn).1
 have hB:((k:Nat):Int)+Nc a+(((ex (nr (rg a))+1:Nat):Int)-1023)=((ex (nr q):Nat):Int)-1074:=om;have hor:=qnz (ng a) (x:=(ex (nr q)+2)*4503599627370496) hfl (Nat.mul_mod_left _ _) om;have hsum:=zW (x:=ex (nr q)+1) (m:=mg (nr q)) rfl (hM.trans hmg);have hword:=congrArg (Ieee.double.word (ng a)) hsum;refine zc func145 rfl ntmps145 rfl ?_;have LW:=aF (No) w;have aj:=bD (No) w;have E:=aF (No) w;refine zy ?_;refine yfk ?_;refine ze 8 (.bool false) rfl (by rw[zvx,hz]<;>rfl) (ye ?_);refine zh rfl gY rfl (ju _ a ha) E fun w1 E=>(zd 14 (.bool false) rfl (by rw[kQ]<;>rfl) (kP ?_));rintro e w2 ⟨rfl,hb⟩;refine ⟨_,rfl,?_⟩;replace E:=bQ E hb;refine zd 17 (.bool false) rfl (by rw[hnn]<;>rfl) (yq ?_);refine zh rfl OA rfl (zrz _ a ha h0 hf) E fun w3 E=>(yq ?_);refine yo ?_;refine zt ?_;refine zmx ?_;refine zr ?_;refine zV ?_;refine ze 1 (.int .i64 (((ex (nr q):Nat):Int)-1074)) rfl (by rw[hB]<;>rfl) (zy ?_);refine ze 42 (.bool false) rfl (by rw[decide_eq_false om]<;>rfl) (xd ?_);refine ze 48 (.bool true) rfl (by rw[decide_eq_true om]<;>rfl) (ye ?_);refine yo ?_;refine zy ?_;refine zU ?_;refine za rfl (gk (z:=(((ex (nr q)+2)*4503599627370496:Nat):Int)) rfl rfl de (by show IntKind.u64.wrap ((((ex (nr q):Nat):Int)-1074+53+1023)*4503599627370496)=_;rw[wrap_u64 om];omega) (za rfl (pJ rfl rfl (gz hfw om) (zd 58 (.int .u64 ((Ieee.double.word (ng a) ((ex (nr q)+1)*4503599627370496+mg (nr q)):Nat):Int)) rfl (by rw[hor.trans hword]<;>rfl) (zr ?_)))));refine za rfl (vi (b:=Ieee.double.word (ng a) ((ex (nr q)+1)*4503599627370496+mg (nr q))) Ee rfl (za rfl (zux (m:=4368491638549381120) (n:=Ieee.double.word (ng a) ((ex (nr q)+1)*4503599627370496+mg (nr q))) (.inr (.inr (.inl rfl))) rfl rfl ?_)));intro r w4 hr;have Ec:=hr.ext;replace E:=E.trans Ec.no;refine zv ?_;exact ⟨by rw[hr.some (WH hq0 hn)];rfl,(LW.step E aj).toBelow⟩
end
end Go.Proofs.YtmnmebdmpigddaaGreatDoor
namespace Go.Proofs.YtmnmebdmpigddaaGreatDoor
open Ieee
theorem qP {p q s P:Nat} (hP:P=2^p) (h:p=q+s):P=2^q*2^s:=by rw[hP,h,Nat.pow_add]
theorem zX {k K P:Nat} (h:k≤K) (hP:P=2^K):2^k≤P:=by rw[hP];exact Nat.pow_le_pow_right de h
theorem xc (n:Nat):0<2^n:=Nat.pow_pos de
theorem KS {x P w:Nat} (h:w=x/P):w*P≤x:=by rw[h];exact Nat.div_mul_le_self _ _
theorem Qn (s:Bool) (n t:Nat):Toward.zero.cut s n t=n/2^t:=by
 have e:Toward.zero.cut s n t=n/(1 <<< min t (n.log2+2)):=by
  unfold Toward.cut;simp only[Bool.toNat_false,Nat.add_zero]
 rw[e,Nat.shiftLeft_eq,Nat.one_mul];rcases Nat.le_total t (n.log2+2) with h | h
 · rw[Nat.min_eq_left h]
 · rw[Nat.min_eq_right h];have h1:=@Nat.lt_log2_self n;have h2:(2:Nat)^(n.log2+1)≤2^(n.log2+2):=Nat.pow_le_pow_right de om;have h3:(2:Nat)^(n.log2+2)≤2^t:=Nat.pow_le_pow_right de h;rw[Nat.div_eq_of_lt om,Nat.div_eq_of_lt om]
theorem WJ (m i j:Nat):m*2^(i-j)/2^(j-i)=m*2^i/2^j:=by
 rcases Nat.le_total j i with h | h
 · rw[show j-i=0 from om,Nat.pow_zero,Nat.div_one,ynx h,Nat.mul_div_cancel _ (Nat.pow_pos de)]
 · rw[show i-j=0 from om,Nat.pow_zero,Nat.mul_one];rw[show (2:Nat)^j=2^(j-i)*2^i by rw[←Nat.pow_add];congr 1;omega,Nat.mul_div_mul_right _ _ (Nat.pow_pos de)]
def qw (a:Nat):Nat:=vl (rg a)/2^1074
theorem ysv {a:Nat} (ha:rg a<9218868437227405312):(double.read a).integral .zero= .number (ng a) (qw a) 0:=by
 rw[vm ha,Datum.integral,Qn,Nat.shiftLeft_eq];have e1:(-1074+(ex (rg a):Int)).toNat=ex (rg a)-1074:=om;have e2:(-(-1074+(ex (rg a):Int))).toNat=1074-ex (rg a):=om;rw[e1,e2,WJ];rfl
theorem zY (s:Bool) (m:Nat):signed s m 0=if s then -(m:Int) else (m:Int):=by
 unfold signed;rw[Nat.shiftLeft_zero]
theorem toInt_fin {a:Nat} (ha:rg a<9218868437227405312):(FloatKind.f64.decode a).toInt .zero=some (if ng a then -(qw a:Int) else (qw a:Int)):=by
 show Datum.toInt .zero (double.read a)=_
 unfold Datum.toInt;rw[ysv ha];simp only[zY]
theorem Ia {a:Nat} (ha:rg a<9218868437227405312) (h:qw a<9223372036854775808):floatToIntVal .f64 a .i64=some (if ng a then -(qw a:Int) else (qw a:Int)):=by
 unfold floatToIntVal;rw[toInt_fin ha];have h1:IntKind.i64.min= -9223372036854775808:=rfl;have h2:IntKind.i64.max=9223372036854775807:=rfl;simp only[h1,h2]
 rw[if_pos (by split<;>omega)]
theorem WK {a:Nat} (ha:rg a<9218868437227405312) (hs:ng a=false) (h:qw a<18446744073709551616):floatToIntVal .f64 a .u64=some (qw a:Int):=by
 unfold floatToIntVal;rw[toInt_fin ha,hs];have h1:IntKind.u64.min=0:=rfl;have h2:IntKind.u64.max=18446744073709551615:=rfl;simp only[h1,h2,Bool.false_eq_true,if_false]
 rw[if_pos om]
theorem qQ {m P x:Nat} (hP:0<P) (h:x=m*P):x/P=m:=by rw[h,Nat.mul_div_cancel _ hP]
theorem yeq (s:Bool) {q m:Nat} (hq:q<9218868437227405312) (h:vl q=m*2^1074):qw (double.word s q)=m:=by
 unfold qw;rewrite [(vv s q (Nat.lt_trans hq de)).1]
 exact qQ (xc 1074) h
theorem yjq {a:Nat} (ha:rg a<9218868437227405312):∃q,vl q=qw a*2^1074∧q≤rg a∧ot .zero a=double.word (ng a) q:=by
 have key:∃q,vl q=qw a*2^1074∧q≤rg a:=by
  have hle:qw a*2^1074≤vl (rg a):=KS rfl;rcases Nat.le_total (ex (rg a)) 1074 with h | h
  · refine uV (qw a) 1074 (rg a) ?_ hle;have:=qsv (rg a);have h2:vl (rg a)≤mg (rg a)*2^1074:=Nat.mul_le_mul_left _ (zX h rfl);have h3:qw a≤mg (rg a):=Nat.le_of_mul_le_mul_right (Nat.le_trans hle h2) (xc 1074);exact Nat.lt_of_le_of_lt h3 this
  · refine ⟨rg a,?_,Nat.le_refl _⟩;have e:vl (rg a)=mg (rg a)*2^(ex (rg a)-1074)*2^1074:=ynx h _;have e2:qw a=mg (rg a)*2^(ex (rg a)-1074):=qQ (xc 1074) e;rw[e2];exact e
 obtain ⟨q,h1,h2⟩:=key;refine ⟨q,h1,h2,?_⟩;show double.write ((double.read a).integral .zero)=_
 rw[ysv ha];exact qqx (u:=1074) (d:=0) (Nat.lt_of_le_of_lt h2 ha) om (by rw[h1,Nat.pow_zero,Nat.mul_one])
def aPj (a b:Nat):Bool:=if sv a+sv b=0 then ng a&&ng b else decide (sv a+sv b<0)
theorem aBz {x m P:Nat} (h:x=m*P):P∣x:=⟨m,by rw[h,Nat.mul_comm]⟩
theorem ak6 {x j P:Nat} (h:x=j*P) (e:j=0):x=0:=by rw[h,e,Nat.zero_mul]
def WL (r:Nat):Prop:=2^1074∣vl r
theorem Qo {a:Nat}:WL (rg a)↔vl (rg a)=qw a*2^1074:=by
 constructor
 · intro h;exact (Nat.div_mul_cancel h).symm
 · intro h;exact aBz h
theorem Qp {y:Nat} (hy:y≠0):∀(r:Nat),r<9218868437227405312→ ∃d,d≤r∧vl d=vl r%vl y:=by
 intro r;induction r using Nat.strongRecOn with
 | _ r ih=>
  intro hr;rcases Nat.lt_or_ge r y with h | h
  · exact ⟨r,Nat.le_refl _,(Nat.mod_eq_of_lt (ZQ h)).symm⟩
  · obtain ⟨q,d,h1,h2,h3,h4,h5,h6,h7,h8⟩:=Qm hr hy h;obtain ⟨e,he1,he2⟩:=ih d h7 om;exact ⟨e,om,by rw[he2,h6]⟩
noncomputable def oQ (a b:Nat):Nat:=if rg b=9218868437227405312 then rg a else ES (vl (rg a)%vl (rg b))
noncomputable def WM (a b:Nat):Nat:=double.word (ng a) (oQ a b)
theorem Qq {a b:Nat} (ha:rg a<9218868437227405312) (h0:rg b≠0) (hb:rg b≠9218868437227405312):vl (oQ a b)=vl (rg a)%vl (rg b)∧oQ a b≤rg a:=by
 obtain ⟨d,h1,h2⟩:=Qp h0 (rg a) ha;rw[oQ,if_neg hb,←h2,KQ rfl];exact ⟨rfl,h1⟩
theorem Ic {a b:Nat} (ha:rg a<9218868437227405312) (h0:rg b≠0):oQ a b≤rg a:=by
 by_cases hb:rg b=9218868437227405312
 · rw[oQ,if_pos hb];exact Nat.le_refl _
 · exact (Qq ha h0 hb).2
theorem zZ {a b:Nat} (ha:rg a<9218868437227405312) (h0:rg b≠0):rg (WM a b)=oQ a b∧ng (WM a b)=ng a∧WM a b<18446744073709551616:=vv _ _ (by have:=Ic ha h0;omega)
theorem ET {a:Nat} (ha:a<18446744073709551616):double.word (ng a) (rg a)=a:=by
 exact Qi
theorem WO {a b:Nat} (ha:rg a<9218868437227405312) (hb:rg b<9218868437227405312):∃z,cK .add a b=some z:=by
 simp only[cK,Format.add,vm ha,vm hb,Datum.sum,Option.map_some]
 exact ⟨_,rfl⟩
theorem kh {b:Nat} (hb:rg b<9218868437227405312):bO b=false:=decide_eq_false om
theorem Ie {a b:Nat} (ha:rg a<9218868437227405312) (hb:rg b<9218868437227405312) (aBx:b<18446744073709551616):∃z,cK .sub a b=some z:=by
 rw[Vx aBx (kh hb)];exact WO ha (by rw[(zeq aBx).1];exact hb)
theorem zyk (s:Bool) (m:Nat) (p:Int):ng (double.nearest s m p)=s:=by
 unfold Format.nearest;split
 · exact (vv s 0 de).2.1
 · refine (vv s _ (Nat.lt_of_le_of_lt (Nat.min_le_right _ _) ?_)).2.1;rw[c3];decide
theorem Ig {a b:Nat} (ha:bO a=false) (hb:bO b=false) (h0:rg b≠0) (hi:rg a<9218868437227405312∨rg b<9218868437227405312):∃z,cK .quo a b=some z∧ng z=(ng a ^^ ng b):=by
 have hA:rg a<9218868437227405312∨rg a=9218868437227405312:=by have:=of_decide_eq_false ha;omega
 have hB:rg b<9218868437227405312∨rg b=9218868437227405312:=by have:=of_decide_eq_false hb;omega
 rcases hA with hA | hA<;>rcases hB with hB | hB
 · simp only[cK,Format.div,vm hA,vm hB,Datum.quotient]
   rw[if_neg (EL h0)];exact ⟨_,rfl,zyk _ _ _⟩
 · simp only[cK,Format.div,vm hA,kq hB,Datum.quotient]
   exact ⟨_,rfl,zyk _ _ _⟩
 · simp only[cK,Format.div,kq hA,vm hB,Datum.quotient]
   exact ⟨_,rfl,(vv _ _ (by rw[c3];decide)).2.1⟩
 · omega
theorem uW {a:Nat} (ha:bO a=false):∃z,cK .sub a 4607182418800017408=some z:=by
 have h1:rg 4607182418800017408=4607182418800017408:=de;have hA:rg a<9218868437227405312∨rg a=9218868437227405312:=by have:=of_decide_eq_false ha;omega
 rcases hA with hA | hA
 · exact Ie hA (by rw[h1];decide) de
 · simp only[cK,Format.sub,kq hA,vm (b:=4607182418800017408) (by rw[h1];decide),Datum.opposite,Datum.sum,Option.map_some]
   exact ⟨_,rfl⟩
def qvv (a b:Nat):Bool:=bO a || bO b || decide (rg a=9218868437227405312)
noncomputable def ac2 (a b:Nat):Bool:=decide (oQ a b≠0)&&(ng a !=ng b)
noncomputable def aBj (a b:Nat):Nat:=if qvv a b then 9221120237041090560 else if oQ a b=0 then double.word (ng b) 0 else if ac2 a b then oi (cK .add (WM a b) b) else WM a b
noncomputable def KT (a b:Nat):Nat:=oi (cK .sub a (WM a b))
noncomputable def d0F (a b:Nat):Nat:=oi (cK .quo (KT a b) b)
noncomputable def d1F (a b:Nat):Nat:=if ac2 a b then oi (cK .sub (d0F a b) 4607182418800017408) else d0F a b
def upB (d:Nat):Bool:=match cK .sub d (ot .down d) with
 | some z=>ks z 4602678819172646912==some .gt
 | none=>false
def Qr (d:Nat):Nat:=if upB d then oi (cK .add (ot .down d) 4607182418800017408) else ot .down d
noncomputable def Qs (a b:Nat):Nat:=if qvv a b then 9221120237041090560 else if uO (d1F a b) then double.word (ng a ^^ ng b) 0 else Qr (d1F a b)
theorem qR {z:Option Nat} {r:Nat} (h:z=some r):oi z=r:=by rw[h];rfl
section
variable {a b:Nat} (ha:a<18446744073709551616) (hf:rg a<9218868437227405312) (hb:b<18446744073709551616) (hn:bO b=false) (h0:rg b≠0)
include hf h0
theorem Qt:cK .sub a (WM a b)=some (KT a b):=by
 obtain ⟨m1,m2,m3⟩:=zZ hf h0;obtain ⟨z,hz⟩:=Ie hf (by rw[m1];have:=Ic hf h0;omega) m3;rw[KT,hz];rfl
include hn ha
theorem ak7:cK .quo (KT a b) b=some (d0F a b):=by
 have hs:=yax (Qt hf h0);have hB:rg b<9218868437227405312∨rg b=9218868437227405312:=by have:=of_decide_eq_false hn;omega
 have:∃z,cK .quo (KT a b) b=some z∧ng z=(ng (KT a b) ^^ ng b):=by
  refine Ig hs.1 hn h0 ?_;rcases hB with hB | hB
  · exact .inr hB
  · left
    have hm:WM a b=a:=by rw[WM,oQ,if_pos hB];exact ET ha
    have h1:=Qt hf h0;rw[hm,sub_self (kh hf),if_neg om] at h1;rw[←Option.some.inj h1];decide
 obtain ⟨z,hz,_⟩:=this;rw[d0F,hz];rfl
theorem Qu:bO (d0F a b)=false∧d0F a b<18446744073709551616:=yax (ak7 ha hf hn h0)
theorem ak8:cK .sub (d0F a b) 4607182418800017408=some (oi (cK .sub (d0F a b) 4607182418800017408)):=by
 obtain ⟨z,hz⟩:=uW (Qu ha hf hn h0).1;rw[hz];rfl
theorem ak9:bO (d1F a b)=false∧d1F a b<18446744073709551616:=by
 unfold d1F;split
 · exact yax (ak8 ha hf hn h0)
 · exact Qu ha hf hn h0
end
theorem z8 {b:Nat} (hn:bO b=false) (h0:rg b≠0):(ks b 0==some .lt)=ng b:=by
 rw[zvz hn de];have hp:pc 0=0:=de;rw[hp];obtain ⟨p1,p2⟩:=yuk b;cases h:ng b with
 | true=>rw[yqq (by rw[p1 h];omega)];rfl
 | false=>rw[qhq (by rw[p2 h];omega)];rfl
theorem Aa {a b:Nat} (h:bO a=true) (o:Ordering):(ks a b==some o)=false:=by rw[ZR (.inl h)];rfl
end Go.Proofs.YtmnmebdmpigddaaGreatDoor
namespace Go.Proofs.YtmnmebdmpigddaaGreatDoor
open Go.RowKit Proofs.Tryz
attribute [local irreducible] OW RS CW EW
theorem ymk {r:Nat} (h:r<9223372036854775808):rg r=r∧ng r=false:=by
 have:=vv false r h;exact ⟨this.1,this.2.1⟩
theorem Ih {r:Nat} (hr:r<9218868437227405312):iI r=4602678819172646912+(mg (nr r)-4503599627370496):=by
 obtain ⟨h1,h2⟩:=ymk (r:=r) om;rw[iI,h1,h2];rfl
theorem Ii {r:Nat} (hr:r<9218868437227405312):oO r=(ex (nr r):Int)-1021-(nd r:Int):=by
 obtain ⟨h1,_⟩:=ymk (r:=r) om;unfold oO nd;rw[h1];split<;>rfl
theorem KU {r:Nat} (hr:r<9218868437227405312):-1100≤oO r∧oO r≤1100:=by
 rw[Ii hr];have h1:ex (nr r)≤2045:=by
  by_cases h0:r=0
  · subst h0;decide
  · have:=zyq h0 hr;unfold ex;split<;>omega
 have h2:nd r≤52:=by unfold nd;split<;>omega
 omega
section
variable (w:World)
section
variable (a:Nat) (ha:a<18446744073709551616) (h0:rg a≠0) (hf:rg a<9218868437227405312)
include ha
section
include h0 hf
theorem qpv:Calls prog 90 #[.float .f64 a] w (aH w (.tuple #[.float .f64 (iI a),.int .i64 (oO a)])):=by
 refine zc func90 rfl ntmps90 rfl ?_;have LW:=aF (No) w;have aj:=bD (No) w;have E:=aF (No) w;refine gf ?_;refine zh rfl aa1 rfl (KL _ a ha h0 hf) E fun w1 E=>(yu ?_);exact vj
theorem KV (k q:Nat) (hk:k<4096) (hq:q<9218868437227405312) (hv:vl q=vl (rg a)*2^k):Calls prog 145 #[.float .f64 a,.int .i64 ((k:Nat):Int)] w (aH w (.float .f64 (Ieee.double.word (ng a) q))):=by
 rcases Nat.lt_or_ge q 4503599627370496 with hn | hn
 · refine KO w a k q ha h0 hf hk hq hv hn (fun e=>?_);subst e;rw[oj] at hv;have h1:0<vl (rg a):=by
    rcases Nat.eq_zero_or_pos (vl (rg a)) with h' | h'
    · exact absurd (yek.1 h') h0
    · exact h'
   have:=Nat.mul_pos h1 (show 0<2^k from Nat.pow_pos de);omega
 · exact ER w a k q ha h0 hf hk hq hv hn
theorem qpk (k q:Nat) (hk:k<4096) (hq:q<9218868437227405312) (hv:vl q=vl (rg a)*2^k):Calls prog 92 #[.float .f64 a,.int .i64 ((k:Nat):Int)] w (aH w (.float .f64 (Ieee.double.word (ng a) q))):=by
 refine zc func92 rfl ntmps92 rfl ?_;have LW:=aF (No) w;have aj:=bD (No) w;have E:=aF (No) w;refine gf ?_;refine zh rfl aa2 rfl (KV _ a ha h0 hf k q hk hq hv) E fun w1 E=>?_;exact ykq
end
section
variable (hz:rg a=0)
include hz
theorem EU:Calls prog 141 #[.float .f64 a] w (aH w (.tuple #[.float .f64 a,.int .i64 0])):=by
 have _:=ha;have hz2:uO a=true:=decide_eq_true hz;refine zc func141 rfl ntmps141 rfl ?_;have LW:=aF (No) w;have aj:=bD (No) w;have E:=aF (No) w;refine yq ?_;refine yfk ?_;refine ze 5 (.bool true) rfl (by rw[zvx,hz2]<;>rfl) (jm ?_);exact vj
theorem kS:Calls prog 90 #[.float .f64 a] w (aH w (.tuple #[.float .f64 a,.int .i64 0])):=by
 refine zc func90 rfl ntmps90 rfl ?_;have LW:=aF (No) w;have aj:=bD (No) w;have E:=aF (No) w;refine gf ?_;refine zh rfl aa1 rfl (EU _ a ha hz) E fun w1 E=>(yu ?_);exact vj
theorem EX (k:Int):Calls prog 145 #[.float .f64 a,.int .i64 k] w (aH w (.float .f64 a)):=by
 have _:=ha;have hz2:uO a=true:=decide_eq_true hz;refine zc func145 rfl ntmps145 rfl ?_;have LW:=aF (No) w;have aj:=bD (No) w;have E:=aF (No) w;refine zy ?_;refine yfk ?_;refine ze 8 (.bool true) rfl (by rw[zvx,hz2]<;>rfl) (yq ?_);exact vj
theorem kT (k:Int):Calls prog 92 #[.float .f64 a,.int .i64 k] w (aH w (.float .f64 a)):=by
 refine zc func92 rfl ntmps92 rfl ?_;have LW:=aF (No) w;have aj:=bD (No) w;have E:=aF (No) w;refine gf ?_;refine zh rfl aa2 rfl (EX _ a ha hz k) E fun w1 E=>?_;exact ykq
end
section
variable (hi:rg a=9218868437227405312)
include hi
end
end
section
variable (a b:Nat) (ha:a<18446744073709551616) (hbq:b<18446744073709551616) (hz:uO b=false)
include ha hbq hz
section
variable (hf:rg a<9218868437227405312) (hn:bO b=false)
include hf hn
section
variable (ha0:rg a≠0)
include ha0
variable (hq:rg b<9218868437227405312)
include hq
end
end
end
end
end Go.Proofs.YtmnmebdmpigddaaGreatDoor
namespace Go.Proofs.YtmnmebdmpigddaaGreatDoor
open Go.RowKit
attribute [local irreducible] OW RS CW EW
theorem xe (m k:Nat) (hk:k<64):((m:Nat):Int).fdiv (2^(min ((k:Nat):Int).toNat IntKind.u64.bits))=((m/2^k:Nat):Int):=by
 rw[Int.toNat_natCast,show min k IntKind.u64.bits=k from Nat.min_eq_left (by show k≤64;omega),Int.fdiv_eq_ediv_of_nonneg _ (Int.le_of_lt (Int.pow_pos de))];rw[show (2:Int)^k=((2^k:Nat):Int) by simp];rfl
theorem yez (m:Nat):IntKind.u64.wrap ((m:Nat):Int)=((m%18446744073709551616:Nat):Int):=by
 exact ND
theorem WQ (m k:Nat) (hk:k<64):IntKind.u64.wrap (((m:Nat):Int)*2^(min ((k:Nat):Int).toNat IntKind.u64.bits))=((m*2^k%18446744073709551616:Nat):Int):=by
 rw[Int.toNat_natCast,show min k IntKind.u64.bits=k from Nat.min_eq_left (by show k≤64;omega),show (2:Int)^k=((2^k:Nat):Int) by simp,←Int.natCast_mul];exact yez _
theorem kU (m n:Nat):((m:Nat):Int).tmod ((n:Nat):Int)=((m%n:Nat):Int):=rfl
theorem xr {p q:Prop} [Decidable p] [Decidable q] (h:p↔q):(Value.bool (decide p))= .bool (decide q):=by
 congr 1
 by_cases hp:p
 · rw[decide_eq_true hp,decide_eq_true (h.1 hp)]
 · rw[decide_eq_false hp,decide_eq_false (fun k=>hp (h.2 k))]
section
variable (w:World)
section
variable (a b:Nat) (ha:a<18446744073709551616) (hbq:b<18446744073709551616)
include ha hbq
section
variable (ha0:rg a≠0) (hb0:rg b≠0) (hf:rg a<9218868437227405312) (hq:rg b<9218868437227405312)
include ha0 hb0 hf hq
end
end
end
end Go.Proofs.YtmnmebdmpigddaaGreatDoor
namespace Go.Proofs.YtmnmebdmpigddaaGreatDoor
open Go.RowKit Proofs.Tryz
theorem yyz {P Q:Prop} (k:Q) (h:(Unit→Q)→P:=by
 intro zK;refine za rfl (kg (z:=0) rfl rfl kr ?_);exact zK ()):P:=h fun _=>k
theorem Ab {P Q:Prop} (k:Q) (h:(Unit→Q)→P:=by
 intro zK;refine zu ?_;refine bV rfl (xn rfl rfl (wrap_u64 om) (aQ ?_));refine bV rfl (xn rfl rfl (wrap_u64 om) (aQ ?_));refine bV rfl (jc rfl rfl (wrap_u64 om) (ye ?_));exact zK ()):P:=h fun _=>k
theorem zhk {P Q:Prop} (k:Q) (h:(Unit→Q)→P:=by
 intro zK;refine za rfl (jn rfl rfl (wrap_u64 om) ?_);exact zK ()):P:=h fun _=>k
theorem WR {P Q:Prop} (k:Q) (h:(Unit→Q)→P:=by
 intro zK;refine za rfl (xn rfl rfl (wrap_u64 om) ?_);exact zK ()):P:=h fun _=>k
theorem oh {P Q:Prop} (k:Q) (h:(Unit→Q)→P:=by
 intro zK;refine za rfl (jc rfl rfl (wrap_u64 om) ?_);exact zK ()):P:=h fun _=>k
attribute [local irreducible] OW RS CW EW
theorem Qv (m n:Nat):((m:Nat):Int).tdiv ((n:Nat):Int)=((m/n:Nat):Int):=rfl
theorem uX {m n:Nat} (h:m<18446744073709551616):IntKind.u64.wrap (((m:Nat):Int).tdiv ((n:Nat):Int))=((m/n:Nat):Int):=by
 rw[Qv];exact yex (Nat.lt_of_le_of_lt (Nat.div_le_self m n) h)
theorem qwz (m n:Nat):IntKind.u64.wrap (((m:Nat):Int)*((n:Nat):Int))=((m*n%18446744073709551616:Nat):Int):=by rw[←Int.natCast_mul];exact yez _
theorem Ij (m n:Nat):IntKind.u64.wrap (((m:Nat):Int)+((n:Nat):Int))=(((m+n)%18446744073709551616:Nat):Int):=by rw[←Int.natCast_add];exact yez _
theorem qrx {M x y W:Nat} (hW:W<M) (h:(W+y)%M=x%M):((x:Int)-(y:Int))%(M:Int)=(W:Int):=by
 have h':((W:Int)+(y:Int))%(M:Int)=(x:Int)%(M:Int):=by exact_mod_cast h
 rw[Int.sub_emod,←h',←Int.sub_emod,Int.add_sub_cancel];exact Int.emod_eq_of_lt om om
theorem Ik {x y W:Nat} (hW:W<18446744073709551616) (h:(W+y)%18446744073709551616=x%18446744073709551616):IntKind.u64.wrap (((x:Nat):Int)-((y:Nat):Int))=((W:Nat):Int):=by
 rw[IntKind.wrap_u64];exact qrx hW h
theorem WS {lo B V:Nat} (hB:B=lo%2147483648) (hV:V=B*8589934592):lo*2^33%18446744073709551616=V:=by
 rw[hV,hB];exact Nat.mul_mod_mul_right 8589934592 lo 2147483648
theorem xu {U d q r:Nat} (hq:q=U/d) (hr:r=U%d):q*d+r=U:=by rw[hq,hr,Nat.mul_comm];exact Nat.div_add_mod U d
theorem zav {r U d:Nat} (hd:0<d) (hr:r=U%d):r<d:=by rw[hr];exact Nat.mod_lt _ hd
theorem qU {M m q r d e f W x y:Nat} (hU:q*d+r=e) (hW:W=r*m+f) (hx:x=(e*m%M+f)%M) (hy:y=q*(d*m)%M):(W+y)%M=x%M:=by
 subst hx hy hW;rw[Nat.mod_mod,Nat.add_mod_mod,Nat.mod_add_mod,←hU,Nat.add_mul,Nat.mul_assoc];congr 1
 omega
theorem WT {hi A B U V1 V0 q1 r1 q0 r0 m h y1 P a M:Nat} (hM:M=m*m) (hM2:M=a*h) (hU:U=hi*h+A) (hV:V1*m+V0=B*h)
 (h1:q1*y1+r1=U) (h3:q0*y1+r0=r1*m+V1) (hy:y1*m=P*h):(hi*M+(A*a+B))*h=(q1*m+q0)*P*h+(r0*m+V0):=by
 have e1:(hi*M+(A*a+B))*h=(hi*h+A)*M+B*h:=by
  rw[Nat.add_mul,Nat.add_mul,Nat.add_mul,Nat.mul_assoc A,←hM2,Nat.mul_right_comm hi M h,Nat.add_assoc]
 have e2:(q1*m+q0)*P*h=(q1*y1*m+q0*y1)*m:=by
  rw[Nat.mul_assoc,←hy,Nat.mul_comm y1 m,←Nat.mul_assoc,Nat.mul_right_comm,Nat.add_mul,Nat.mul_right_comm q1 m y1]
 rw[e1,←hU,←hV,←h1,hM,e2,Nat.add_mul,Nat.add_mul];have e3:q0*y1*m+r0*m=r1*m*m+V1*m:=by rw[←Nat.add_mul,h3,Nat.add_mul]
 rw[←Nat.mul_assoc,←Nat.mul_assoc];omega
theorem aC0 {S Q P h m r0 V0 y1:Nat} (h0:0<h) (e:S*h=Q*P*h+(r0*m+V0)) (hr:r0<y1) (hv:V0<m) (hy:y1*m=P*h):∃R,r0*m+V0=R*h∧R<P∧S=Q*P+R:=by
 have hle:Q*P≤S:=Nat.le_of_mul_le_mul_right om h0;obtain ⟨R,rfl⟩:∃R,S=Q*P+R:=⟨S-Q*P,om⟩;rw[Nat.add_mul] at e;have e1:r0*m+V0=R*h:=om;refine ⟨R,e1,?_,rfl⟩;have e2:(r0+1)*m≤y1*m:=Nat.mul_le_mul_right m hr;rw[Nat.add_mul,Nat.one_mul,hy] at e2;exact Nat.lt_of_mul_lt_mul_right (a:=h) om
theorem WU {hi A B U V1 V0 q1 r1 q0 r0:Nat} (hU:U=hi*8589934592+A) (hV:V1*4294967296+V0=B*8589934592)
 (h1:q1*4294967294+r1=U) (h3:q0*4294967294+r0=r1*4294967296+V1) (h4:r0<4294967294) (h5:V0<4294967296) :
 ∃R,r0*4294967296+V0=R*8589934592∧R<2147483647∧hi*18446744073709551616+(A*2147483648+B)=(q1*4294967296+q0)*2147483647+R:=
 aC0 de (WT (m:=4294967296) (a:=2147483648) rfl rfl hU hV h1 h3 rfl) h4 h5 rfl
theorem WV:Gives 196 #[.int .u64 2147483647] (.int .i64 31):=by
 intro w;refine zc func196 rfl ntmps196 rfl ?_;have LW:=aF (No) w;have aj:=bD (No) w;have E:=aF (No) w;refine MX ?_;refine za rfl (jo (z:=32767) rfl rfl de kr (zv ?_));refine za rfl (jc (z:=16) rfl rfl kr (go ?_));refine za rfl (jo (z:=127) rfl rfl de kr (zv ?_));refine za rfl (jc (z:=24) rfl rfl kr (zr ?_));refine za rfl (jl (z:=127) u5 u25 rfl kr (za rfl (yp (j:=127) (b:=7) u9 rfl rfl rfl kr (za rfl (jl (z:=7) underlying3 u5 rfl kr (za rfl (jc (z:=31) rfl rfl kr (ye ?_))))))));refine ki (rs:=[.tmp 2]) (vs:=[.int .i64 31]) rfl ⟨rfl,trivial⟩ ?_;exact vj
theorem WW:Gives 174 #[.int .u64 2147483647] (.int .i64 33):=by
 intro w;refine zc func174 rfl ntmps174 rfl ?_;have LW:=aF (No) w;have aj:=bD (No) w;have E:=aF (No) w;refine yu ?_;refine zh rfl aa4 rfl (WV _) E fun w1 E=>(za rfl (jn (z:=33) rfl rfl kr (ye ?_)));refine ki (rs:=[.tmp 2]) (vs:=[.int .i64 33]) rfl ⟨rfl,trivial⟩ ?_;exact vj
section
variable (w:World)
theorem Ac (hi lo:Nat) (h1:hi<2147483647) (h2:lo<18446744073709551616):Calls prog 146 #[.int .u64 ((hi:Nat):Int),.int .u64 ((lo:Nat):Int),.int .u64 2147483647] w (aH w (.tuple #[.int .u64 (((hi*18446744073709551616+lo)/2147483647:Nat):Int),.int .u64 (((hi*18446744073709551616+lo)%2147483647:Nat):Int)])):=by
 obtain ⟨A,hA⟩:∃A,A=lo/2147483648:=⟨_,rfl⟩;obtain ⟨B,hB⟩:∃B,B=lo%2147483648:=⟨_,rfl⟩;obtain ⟨U,hU⟩:∃U,U=hi*8589934592+A:=⟨_,rfl⟩;obtain ⟨V,hV⟩:∃V,V=B*8589934592:=⟨_,rfl⟩;have eV:lo*2^33%18446744073709551616=V:=WS hB hV;have eA:lo/2^31=A:=hA.symm;have ehi:hi*2^33%18446744073709551616=hi*8589934592:=Nat.mod_eq_of_lt (Nat.lt_of_lt_of_le (Nat.mul_lt_mul_of_pos_right h1 de) de);have bA:A<8589934592:=om;have eor:hi*8589934592 ||| A=U:=by rw[hU];exact kL 33 bA (Nat.mul_mod_left hi 8589934592)
 have bB:B<2147483648:=zav de hB;obtain ⟨V1,hV1⟩:∃V1,V1=V/4294967296:=⟨_,rfl⟩;obtain ⟨V0,hV0⟩:∃V0,V0=V%4294967296:=⟨_,rfl⟩;obtain ⟨q1,hq1⟩:∃q1,q1=U/4294967294:=⟨_,rfl⟩;obtain ⟨r1,hr1⟩:∃r1,r1=U%4294967294:=⟨_,rfl⟩;obtain ⟨W,hW⟩:∃W,W=r1*4294967296+V1:=⟨_,rfl⟩;obtain ⟨q0,hq0⟩:∃q0,q0=W/4294967294:=⟨_,rfl⟩;obtain ⟨r0,hr0⟩:∃r0,r0=W%4294967294:=⟨_,rfl⟩;obtain ⟨R,e1,e2,e3⟩:=WU (hi:=hi) (A:=A) (B:=B) (U:=U) (V1:=V1) (V0:=V0) (q1:=q1) (r1:=r1) (q0:=q0) (r0:=r0) hU ((xu hV1 hV0).trans hV) (xu hq1 hr1) ((xu hq0 hr0).trans hW) (zav de hr0) (zav de hV0);have elo:A*2147483648+B=lo:=xu hA hB;have b1:=zav de hr1;have b0:=zav de hr0;have bV0:=zav de hV0;rw[elo] at e3;have eR:(hi*18446744073709551616+lo)%2147483647=R:=by rw[e3,Nat.add_comm,Nat.add_mul_mod_self_right,Nat.mod_eq_of_lt e2]
 have eQ:(hi*18446744073709551616+lo)/2147483647=q1*4294967296+q0:=by rw[e3,Nat.add_comm,Nat.add_mul_div_right _ _ de,Nat.div_eq_of_lt e2,Nat.zero_add]
 have bU:U<18446744073709551616:=om;have bq1:q1<4294967296:=om;have bq0:q0<4294967296:=om;have bW:W<18446744073709551616:=om;refine zc func146 rfl ntmps146 rfl ?_;have LW:=aF (No) w;have aj:=bD (No) w;have E:=aF (No) w;refine yI ?_;refine ze 24 (.bool false) rfl (by rw[decide_eq_false om]<;>rfl) (zy ?_);refine zj rfl (fun h=>?_) (fun h=>?_)
 ·
  have h:=beq_iff_eq.1 h;obtain rfl:hi=0:=om;refine aQ ?_;have OY:∀q9,(ak (km [])) q9→q9<(World.drew w).heap.size→(No) q9:=fun k h _=>(ak.none_) k h;refine yx (No) ak.none_ [] [] (xq [Fx.of (.int .u64 ((lo:Nat):Int)),
   Fx.of (.int .u64 2147483647),
   Fx.of (.int .u64 ((lo/2147483647:Nat):Int)),
   Fx.of (.int .u64 ((lo:Nat):Int)),
   Fx.of (.int .u64 2147483647),
   Fx.of (.int .u64 ((lo%2147483647:Nat):Int)),
   Fx.of (.int .u64 ((lo/2147483647:Nat):Int)),
   Fx.of (.int .u64 ((lo%2147483647:Nat):Int))]) mixed rfl trivial (fun _ h=>by cases h) ?_ ?_
  · refine ⟨arm,arm,?_,arm,arm,?_,arm,arm,trivial⟩
    · refine qh ?_;intro vs X wq K;exact yvx (z:=((lo/2147483647:Nat):Int)) rfl rfl de (uX (n:=2147483647) h2) ⟨Below.refl _ _,Left.of rfl⟩
    · refine qh ?_;intro vs X wq K;exact MV (z:=((lo%2147483647:Nat):Int)) rfl rfl de (kU lo 2147483647) ⟨Below.refl _ _,Left.of rfl⟩
  intro vs w1 LE AO AL AF AA;replace E:=E.drew.trans (LE.mono OY);obtain ⟨_,e6,k6⟩:=AL.2.2.2.2.2.2.1;obtain ⟨_,e7,k7⟩:=AL.2.2.2.2.2.2.2.1;refine vo (τ:=[(0,_),(1,_),(2,_),(6,.int .u64 ((lo/2147483647:Nat):Int)),(7,.int .u64 ((lo%2147483647:Nat):Int))]) ⟨rfl,rfl,rfl,congrArg some e6,congrArg some e7,trivial⟩ ?_;clear AL AF AA LE AO OY e6 e7 k6 k7;refine ye ?_;exact ⟨by rw[Nat.zero_mul,Nat.zero_add];rfl,(LW.step E aj).toBelow⟩
 ·
  refine zv ?_;refine zh rfl aw0 rfl (WW _) E fun w2 E=>(za rfl (jl (z:=33) Oo underlying3 rfl kr (zr ?_)));refine za rfl (gk (z:=18446744065119617024) rfl rfl de kr (zt ?_));refine za rfl (jo (z:=4294967294) rfl rfl de kr (zt ?_));refine yyz ?_;refine zr ?_;refine za rfl (gk rfl rfl de (WQ hi 33 de) (zd 46 (.int .u64 ((hi*8589934592:Nat):Int)) rfl (by rw[ehi]<;>rfl) (zu ?_)));refine za rfl (jn (z:=31) rfl rfl kr (za rfl (jo rfl rfl de (xe lo 31 de) (zd 50 (.int .u64 ((A:Nat):Int)) rfl (by rw[eA]<;>rfl) (za rfl (pJ rfl rfl (gz om om) (zd 51 (.int .u64 ((U:Nat):Int)) rfl (by rw[eor]<;>rfl) (zr ?_))))))));refine za rfl (gk rfl rfl de (WQ lo 33 de) (zd 54 (.int .u64 ((V:Nat):Int)) rfl (by rw[eV]<;>rfl) (zt ?_)));refine za rfl (jo rfl rfl de (xe V 32 de) (zd 56 (.int .u64 ((V1:Nat):Int)) rfl (by rw[hV1]<;>rfl) (zt ?_)));refine za rfl (kg rfl rfl (kt (n:=4294967295) om de) (zd 58 (.int .u64 ((V0:Nat):Int)) rfl (by rw[show V &&& 4294967295=V%4294967296 from Nat.and_two_pow_sub_one_eq_mod V 32,hV0]<;>rfl) (zr ?_)));refine za rfl (yvx (z:=((U/4294967294:Nat):Int)) rfl rfl de (uX (n:=4294967294) bU) (zd 61 (.int .u64 ((q1:Nat):Int)) rfl (by rw[hq1]<;>rfl) (yu ?_)));refine WR ?_;refine zhk ?_;refine zv ?_;refine zlq (zt ?_);refine zd 16 (.int .u64 ((r1:Nat):Int)) rfl (by congr 1;omega) (zd 69 (.bool false) rfl (by rw[decide_eq_false om]<;>rfl) (Ab ?_));refine ze 78 (.bool false) rfl (by rw[decide_eq_false om]<;>rfl) (qo ?_);refine za rfl (xn rfl rfl (qwz U 4294967296) (aQ ?_));refine za rfl (jc rfl rfl (Ij _ V1) (zu ?_));refine za rfl (xn rfl rfl (qwz q1 18446744065119617024) (za rfl (jn (z:=((W:Nat):Int)) rfl rfl (Ik bW (qU (m:=4294967296) (xu hq1 hr1) hW rfl rfl)) (zr ?_))));refine za rfl (yvx (z:=((W/4294967294:Nat):Int)) rfl rfl de (uX (n:=4294967294) bW) (zd 96 (.int .u64 ((q0:Nat):Int)) rfl (by rw[hq0]<;>rfl) (yu ?_)));refine WR ?_;refine zhk ?_;refine zv ?_;refine zlq (zt ?_);refine zd 16 (.int .u64 ((r0:Nat):Int)) rfl (by congr 1;omega) (zd 104 (.bool false) rfl (by rw[decide_eq_false om]<;>rfl) (Ab ?_));refine ze 113 (.bool false) rfl (by rw[decide_eq_false om]<;>rfl) (qo ?_);refine WR ?_;refine aQ ?_;refine oh ?_;refine aQ ?_;refine zd 124 (.int .u64 ((q1*4294967296+q0:Nat):Int)) rfl (by rw[Int.natCast_add,Int.natCast_mul];rfl) (za rfl (xn rfl rfl (qwz W 4294967296) (aQ ?_)));refine za rfl (jc rfl rfl (Ij _ V0) (zu ?_));refine za rfl (xn rfl rfl (qwz q0 18446744065119617024) (za rfl (jn (z:=((R*8589934592:Nat):Int)) rfl rfl (Ik (Nat.lt_of_lt_of_le (Nat.mul_lt_mul_of_pos_right e2 de) de) (qU (m:=4294967296) (xu hq0 hr0) e1.symm rfl rfl)) (aQ ?_))));refine za rfl (jo rfl rfl de (xe (R*8589934592) 33 de) (zd 134 (.int .u64 ((R:Nat):Int)) rfl (by rw[show R*8589934592/2^33=R from Nat.mul_div_cancel R (show 0<8589934592 from de)]<;>rfl) (zt ?_)));exact ⟨by rw[eR,eQ];rfl,(LW.step E aj).toBelow⟩
theorem qlk (hi lo:Nat) (h1:hi<18446744073709551616) (h2:lo<18446744073709551616):Calls prog 115 #[.int .u64 ((hi:Nat):Int),.int .u64 ((lo:Nat):Int),.int .u64 2147483647] w (aH w (.int .u64 (((hi*18446744073709551616+lo)%2147483647:Nat):Int))):=by
 have e:(hi%2147483647*18446744073709551616+lo)%2147483647=(hi*18446744073709551616+lo)%2147483647:=om;have _:=h1;refine zc func115 rfl ntmps115 rfl ?_;have LW:=aF (No) w;have aj:=bD (No) w;have E:=aF (No) w;refine qo ?_;refine za rfl (MV (z:=((hi%2147483647:Nat):Int)) rfl rfl de (kU hi 2147483647) (zu ?_));refine zh rfl aa3 rfl (Ac _ (hi%2147483647) lo (Nat.mod_lt _ de) h2) E fun w1 E=>(xd ?_);exact ⟨by rw[←e];rfl,(LW.step E aj).toBelow⟩
end
end Go.Proofs.YtmnmebdmpigddaaGreatDoor
namespace Go.Proofs.YtmnmebdmpigddaaGreatDoor
open Go.RowKit
theorem qX {r:Nat} (hr:r<9218868437227405312) (h0:r≠0):iI r<9218868437227405312∧iI r≠0∧vl (iI r)=mg (nr r)*2^1021:=by
 obtain ⟨m1,m2⟩:=WC h0;obtain ⟨p1,p2⟩:=zxk (e:=1021) m1 m2;have e:iI r=1021*4503599627370496+mg (nr r):=by rw[Ih hr];omega
 refine ⟨om,om,?_⟩;rw[e,vl,p1,p2]
theorem ac3 {r:Nat} (h0:r≠0):vl (1074*4503599627370496+mg (nr r))=mg (nr r)*2^1074∧1074*4503599627370496+mg (nr r)<9218868437227405312:=by
 obtain ⟨m1,m2⟩:=WC h0;obtain ⟨p1,p2⟩:=zxk (e:=1074) m1 m2;refine ⟨?_,om⟩;show mg _*2^ex _=_
 rewrite [p1,p2];rfl
end Go.Proofs.YtmnmebdmpigddaaGreatDoor
namespace Go.Proofs.YtmnmebdmpigddaaGreatDoor
open Go.RowKit
attribute [local irreducible] OW RS CW EW
theorem gX.isn {r:Nat} {w w':World} (h:gX none r w w'):bO r=true:=by
 rcases h with ⟨h1,_⟩ | ⟨_,hn,_⟩
 · cases h1
 · exact G8 hn
theorem gX.nan {z:Option Nat} {r:Nat} {w w':World} (h:gX z r w w') (hz:z=none):bO r=true:=by subst hz;exact h.isn
theorem Fe {d:Nat} (h:bO d=false):bO (ot .down d)=false∧ot .down d<18446744073709551616:=by
 refine zrv ?_;have:(Ieee.double.read d).isNaN=false:=(xX d).trans h;show ((Ieee.double.read d).integral .down).isNaN=false
 cases hd:Ieee.double.read d with
 | nan s t=>rw[hd] at this;cases this
 | infinity s=>rfl
 | number s m e=>rfl
theorem K8 {m:Nat} (h:bO m=false):qz m=m:=by rw[qz,if_neg (by rw[h];decide)]
section
variable (w:World)
section
variable (a b:Nat) (ha:a<18446744073709551616) (hbq:b<18446744073709551616) (hz:uO b=false)
include ha hbq hz
section
variable (hf:rg a<9218868437227405312) (hn:bO b=false)
include hf hn
end
end
end
end Go.Proofs.YtmnmebdmpigddaaGreatDoor
namespace Go.Proofs.YtmnmebdmpigddaaGreatDoor
open Ieee
def aH0 (z:Nat):Prop:=rg z=9218868437227405312∨(rg z<9218868437227405312∧WL (rg z))
theorem an1 {d:Nat} (h:bO d=false):rg d<9218868437227405312∨rg d=9218868437227405312:=by have:=of_decide_eq_false h;omega
section
variable {a b:Nat} (ha:a<18446744073709551616) (hf:rg a<9218868437227405312) (hb:b<18446744073709551616) (hn:bO b=false) (h0:rg b≠0)
include ha hf hn h0
include hb
end
end Go.Proofs.YtmnmebdmpigddaaGreatDoor
namespace Go.Proofs.YtmnmebdmpigddaaGreatDoor
open Go.RowKit Ieee
theorem Rt {P:Prop} (h:P:=by
 exact ⟨z,h1,(yax h1).1,by rw[h2,ha.sg,hs,Bool.xor_false],(yax h1).2⟩):P:=h
structure gU (n:Bool) (b:Nat):Prop where
 num:bO b=false
 sg:ng b=n
 lt:b<18446744073709551616
theorem XQ {a b:Nat} {n:Bool} (ha:gU n a) (hb:rg b<9218868437227405312) (h0:rg b≠0) (hs:ng b=false):∃z,cK .mul a b=some z∧gU n z:=by
 have key:∃z,cK .mul a b=some z∧ng z=(ng a ^^ ng b):=by
  rcases an1 ha.num with hA | hA
  · simp only[cK,Format.mul,vm hA,vm hb,Datum.product]
    exact ⟨_,rfl,zyk _ _ _⟩
  · simp only[cK,Format.mul,kq hA,vm hb,Datum.product]
    rw[if_neg (EL h0)];exact ⟨_,rfl,(vv _ _ (by rw[c3];decide)).2.1⟩
 obtain ⟨z,h1,h2⟩:=key;exact Rt
theorem XR {a b:Nat} {n:Bool} (ha:gU n a) (hb:rg b<9218868437227405312) (h0:rg b≠0) (hs:ng b=false):∃z,cK .quo a b=some z∧gU n z:=by
 obtain ⟨z,h1,h2⟩:=Ig ha.num (kh hb) h0 (.inr hb);exact Rt
theorem gU.aLz {b:Nat} (h:gU false b):b≤9218868437227405312:=by
 have h1:=of_decide_eq_false h.num;have hs:=h.sg;have h3:=h.lt;unfold ng at hs;unfold rg at h1;have h4:¬b/9223372036854775808%2=1:=beq_eq_false_iff_ne.1 hs;omega
end Go.Proofs.YtmnmebdmpigddaaGreatDoor
namespace Go.Proofs.YtmnmebdmpigddaaGreatDoor
open Go.RowKit
theorem Ru {P:Prop} (h:P:=by
 split
 · rename_i e;exact Rv hk (h.first e.symm)
 · exact h.lead om):P:=h
theorem Rw {P:Prop} (h:P:=by
 have h3:2^k≤10^k:=Nat.pow_le_pow_left de k;have:=h.hn;rw[Nat.pow_succ];omega):P:=h
theorem vr {α:Type} {done:α→Bool} {step:α→α} (I:α→Prop) (m:α→Nat) (hs:∀s,I s→done s=false→I (step s)∧m (step s)<m s) {s:α} (h:I s) :
 I (qm done step s)∧done (qm done step s)=true:=by
 generalize hn:m s=n
 induction n using Nat.strongRecOn generalizing s with
 | _ n ih=>
  cases hd:done s with
  | true=>rw[yv hd];exact ⟨h,hd⟩
  | false=>
   rw[qx hd];obtain ⟨h1,h2⟩:=hs s h hd;exact ih (m (step s)) om h1 rfl
structure Dec where
 d:List Nat
 nd:Nat
 dp:Int
 neg:Bool
 tr:Bool
def dg (l:List Nat) (i:Nat):Nat:=l.getD i 48
theorem ykv {l:List Nat} {j b i:Nat} (hj:j<l.length):dg (l.set j b) i=if i=j then b else dg l i:=by
 unfold dg;rw[List.getD_eq_getElem?_getD,List.getD_eq_getElem?_getD,List.getElem?_set];split
 · rename_i h;subst h;rw[if_pos rfl];simp[hj]
 · rename_i h;rw[if_neg (fun e=>h e.symm)]
theorem IW {l:List Nat} {j:Nat} (hj:j<l.length):l[j]? =some (dg l j):=by
 unfold dg;rw[List.getD_eq_getElem?_getD,List.getElem?_eq_getElem hj];rfl
def vP (t:Dec):List Value:=t.d.map (fun b=>(.int .u8 ((b:Nat):Int):Value))++ [.int .i64 (t.nd:Int),.int .i64 t.dp,.bool t.neg,.bool t.tr]
def yg (t:Dec):Array Value:=(vP t).toArray
section
variable {t:Dec} (h:t.d.length=800)
include h
theorem Rx:(yg t).size=804:=by simp[yg,vP,h]
theorem XT {j:Nat} (hj:j<800):(vP t)[j]? =some (.int .u8 ((dg t.d j:Nat):Int)):=by
 unfold vP;rw[List.getElem?_append_left (by simp[h];exact hj),List.getElem?_map,IW (by rw[h];exact hj)];rfl
theorem RA {j:Nat} (hj:j<800):(yg t)[j]? =some (.int .u8 ((dg t.d j:Nat):Int)):=by
 unfold yg;rw[List.getElem?_toArray];exact XT h hj
theorem yqx {j:Nat}:(vP t)[800+j]? =([.int .i64 (t.nd:Int),.int .i64 t.dp,.bool t.neg,.bool t.tr]:List Value)[j]? :=by
 unfold vP;rw[List.getElem?_append_right (by simp[h])];simp[h]
theorem an2:(yg t)[800]? =some (.int .i64 (t.nd:Int)):=by unfold yg;rw[List.getElem?_toArray];exact yqx h (j:=0)
theorem an3:(yg t)[801]? =some (.int .i64 t.dp):=by unfold yg;rw[List.getElem?_toArray];exact yqx h (j:=1)
theorem XU:(yg t)[802]? =some (.bool t.neg):=by unfold yg;rw[List.getElem?_toArray];exact yqx h (j:=2)
theorem an4:(yg t)[803]? =some (.bool t.tr):=by unfold yg;rw[List.getElem?_toArray];exact yqx h (j:=3)
theorem ad8 {j b:Nat} (hj:j<800):(yg t).setIfInBounds j (.int .u8 ((b:Nat):Int))=yg { t with d:=t.d.set j b }:=by
 unfold yg vP;rw[List.setIfInBounds_toArray,List.set_append_left _ _ (by simp[h];exact hj),List.map_set]
theorem qcx {j:Nat} {v:Value}:(yg t).setIfInBounds (800+j) v=(t.d.map (fun b=>(.int .u8 ((b:Nat):Int):Value))++([.int .i64 (t.nd:Int),.int .i64 t.dp,.bool t.neg,.bool t.tr]:List Value).set j v).toArray:=by
 unfold yg vP;rw[List.setIfInBounds_toArray,List.set_append_right _ _ (by simp[h])];simp[h]
theorem l6 (n:Nat):(yg t).setIfInBounds 800 (.int .i64 ((n:Nat):Int))=yg { t with nd:=n }:=qcx h (j:=0)
theorem qkk (p:Int):(yg t).setIfInBounds 801 (.int .i64 p)=yg { t with dp:=p }:=qcx h (j:=1)
theorem IX (b:Bool):(yg t).setIfInBounds 802 (.bool b)=yg { t with neg:=b }:=qcx h (j:=2)
theorem FP (b:Bool):(yg t).setIfInBounds 803 (.bool b)=yg { t with tr:=b }:=qcx h (j:=3)
end
attribute [irreducible] yg
structure bH (t:Dec):Prop where
 len:t.d.length=800
 hn:t.nd≤800
 dh:∀i,i<t.nd→48≤dg t.d i∧dg t.d i≤57
 lead:0<t.nd→49≤dg t.d 0
def ke (d:List Nat):Nat→Nat
 | 0=>0
 | n+1=>if dg d n=48 then ke d n else n+1
theorem Br (d:List Nat):∀n,ke d n≤n
 | 0=>Nat.le_refl _
 | n+1=>by
  unfold ke;split
  · exact Nat.le_trans (Br d n) (Nat.le_succ n)
  · exact Nat.le_refl _
theorem rD {d:List Nat} (h:49≤dg d 0):∀ {n},0<n→0<ke d n
 | 0,h0=>absurd h0 (Nat.lt_irrefl _)
 | n+1,_=>by
  unfold ke;split
  · rename_i h1
    rcases Nat.eq_zero_or_pos n with h2 | h2
    · subst h2;omega
    · exact rD h h2
  · exact Nat.succ_pos _
def XV (t:Dec):Dec:={ t with nd:=ke t.d t.nd,dp:=if ke t.d t.nd=0 then 0 else t.dp }
theorem qqq {t:Dec} (h:bH t):bH (XV t):=by
 have h1:=Br t.d t.nd;have h2:=h.hn;exact ⟨h.len,by show ke t.d t.nd≤800;omega,fun i hi=>h.dh i (Nat.lt_of_lt_of_le hi h1),fun h0=>h.lead (Nat.lt_of_lt_of_le h0 h1)⟩
theorem qjv {t:Dec} (h:bH t) (h0:0<t.nd):0<(XV t).nd:=rD (h.lead h0) h0
theorem Bt {t:Dec} (h:bH t) (h0:0<t.nd):(XV t).dp=t.dp:=by
 have:=qjv h h0;show (if ke t.d t.nd=0 then 0 else t.dp)=t.dp
 rw[if_neg (by intro e;rw[show (XV t).nd=ke t.d t.nd from rfl,e] at this;omega)]
structure eU where
 r:Nat
 n:Nat
def zxv (t:Dec) (k:Nat) (s:eU):Bool:=decide (s.n/2^k≠0∨t.nd≤s.r)
def quk (t:Dec) (s:eU):eU:=⟨s.r+1,s.n*10+(dg t.d s.r-48)⟩
def zpv (k:Nat) (s:eU):Bool:=decide (s.n/2^k≠0)
def qcz (s:eU):eU:=⟨s.r+1,s.n*10⟩
noncomputable def XW (t:Dec) (k:Nat):eU:=qm (zxv t k) (quk t) ⟨0,0⟩
noncomputable def iA (t:Dec) (k:Nat):eU:=qm (zpv k) qcz (XW t k)
structure RsC where
 d:List Nat
 r:Nat
 w:Nat
 n:Nat
def ymz (t:Dec) (s:RsC):Bool:=decide (t.nd≤s.r)
def quq (k:Nat) (s:RsC):RsC:=⟨s.d.set s.w (s.n/2^k+48),s.r+1,s.w+1,s.n%2^k*10+(dg s.d s.r-48)⟩
noncomputable def RB (t:Dec) (k:Nat):RsC:=qm (ymz t) (quq k) ⟨t.d,(iA t k).r,0,(iA t k).n⟩
structure Va where
 d:List Nat
 w:Nat
 n:Nat
 tr:Bool
def RD (s:Va):Bool:=decide (s.n=0)
def gu (k:Nat) (s:Va):Va:=
 if s.w<800 then ⟨s.d.set s.w (s.n/2^k+48),s.w+1,s.n%2^k*10,s.tr⟩
 else ⟨s.d,s.w,s.n%2^k*10,if 0<s.n/2^k then true else s.tr⟩
noncomputable def rsE (t:Dec) (k:Nat):Va:=qm RD (gu k) ⟨(RB t k).d,(RB t k).w,(RB t k).n,t.tr⟩
noncomputable def js (t:Dec) (k:Nat):Dec:=XV { t with d:=(rsE t k).d,nd:=(rsE t k).w,dp:=t.dp-(((iA t k).r:Nat)-1),tr:=(rsE t k).tr }
structure LH (t:Dec) (k:Nat) (s:eU):Prop where
 hr:s.r≤t.nd
 hn:s.n<10*2^k
 zero:s.r=0→s.n=0
 pos:0<s.r→0<s.n
 one:s.r=1→s.n=dg t.d 0-48
theorem rE {t:Dec} {k:Nat} {s:eU} (ht:bH t) (h:LH t k s) (hd:zxv t k s=false):LH t k (quk t s)∧s.n<2^k∧s.r<t.nd:=by
 have hd:=of_decide_eq_false hd;have h1:s.n/2^k=0:=Classical.byContradiction fun e=>hd (.inl e);have h2:s.r<t.nd:=Nat.lt_of_not_le fun e=>hd (.inr e);have hp:0<2^k:=Nat.two_pow_pos k;have h3:s.n<2^k:=(Nat.div_eq_zero_iff_lt hp).1 h1;have hg:=ht.dh s.r h2;refine ⟨⟨h2,?_,fun e=>?_,fun _=>?_,fun e=>?_⟩,h3,h2⟩
 · show s.n*10+(dg t.d s.r-48)<10*2^k;omega
 · exact absurd e (Nat.succ_ne_zero _)
 · show 0<s.n*10+(dg t.d s.r-48)
   rcases Nat.eq_zero_or_pos s.r with h4 | h4
   · rw[h4];have:=ht.lead om;omega
   · have:=h.pos h4;omega
 · have h4:s.r=0:=by have:s.r+1=1:=e;omega
   show s.n*10+(dg t.d s.r-48)=dg t.d 0-48
   rw[h.zero h4,h4];omega
theorem rF (t:Dec) (k:Nat):LH t k ⟨0,0⟩:=⟨Nat.zero_le _,by have:=Nat.two_pow_pos k;show 0<10*2^k;omega,fun _=>rfl,fun h=>absurd h (Nat.lt_irrefl _),fun h=>absurd h de⟩
theorem l7 {t:Dec} (k:Nat) (ht:bH t):LH t k (XW t k)∧zxv t k (XW t k)=true:=by
 refine vr (LH t k) (fun s=>t.nd-s.r) (fun s h hd=>?_) (rF t k);obtain ⟨h1,_,h2⟩:=rE ht h hd;exact ⟨h1,by show t.nd-(s.r+1)<t.nd-s.r;omega⟩
theorem RF {t:Dec} {k:Nat} (ht:bH t) (h0:0<t.nd):0<(XW t k).r:=by
 obtain ⟨h1,h2⟩:=l7 k ht;rcases Nat.eq_zero_or_pos (XW t k).r with h | h
 · have h2:=of_decide_eq_true h2;rw[h1.zero h,h,Nat.zero_div] at h2;omega
 · exact h
structure RG (t:Dec) (k:Nat) (s:eU):Prop where
 hn:s.n<10*2^k
 pos:0<s.n
 hr:0<s.r
 one:s.r=1→s.n=dg t.d 0-48
 far:s.r≤t.nd∨10^(s.r-t.nd)≤s.n
theorem LJ {t:Dec} {k:Nat} {s:eU} (h:RG t k s) (hd:zpv k s=false) (hx:t.nd≤s.r):RG t k (qcz s)∧s.n<2^k:=by
 have hd:=of_decide_eq_false hd;have hp:0<2^k:=Nat.two_pow_pos k;have h3:s.n<2^k:=(Nat.div_eq_zero_iff_lt hp).1 (Classical.byContradiction fun e=>hd e);have:=h.pos;have:=h.hr;refine ⟨⟨by show s.n*10<10*2^k;omega,by show 0<s.n*10;omega,Nat.succ_pos _,fun e=>?_,.inr ?_⟩,h3⟩
 · have:s.r+1=1:=e;omega
 · show 10^(s.r+1-t.nd)≤s.n*10
   have e:s.r+1-t.nd=(s.r-t.nd)+1:=om;rw[e,Nat.pow_succ];rcases h.far with h4 | h4
   · have:s.r-t.nd=0:=om;rw[this];omega
   · exact Nat.mul_le_mul_right 10 h4
theorem LK {t:Dec} {k:Nat} (ht:bH t) (h0:0<t.nd):RG t k (XW t k):=by
 have h1:=(l7 k ht).1;have h2:=RF (k:=k) ht h0;exact ⟨h1.hn,h1.pos h2,h2,h1.one,.inl h1.hr⟩
def LM (t:Dec) (k:Nat) (s:eU):Prop:=RG t k s∧(s.n/2^k≠0∨t.nd≤s.r)
theorem l8 {t:Dec} {k:Nat} {s:eU} (h:LM t k s) (hd:zpv k s=false):LM t k (qcz s)∧s.n<2^k:=by
 have hx:t.nd≤s.r:=h.2.resolve_left (of_decide_eq_false hd);obtain ⟨h1,h2⟩:=LJ h.1 hd hx;exact ⟨⟨h1,.inr (Nat.le_succ_of_le hx)⟩,h2⟩
theorem l9 {t:Dec} {k:Nat} (ht:bH t) (h0:0<t.nd):LM t k (XW t k):=⟨LK ht h0,of_decide_eq_true (l7 k ht).2⟩
theorem ztq {t:Dec} (k:Nat) (ht:bH t) (h0:0<t.nd):LM t k (iA t k)∧zpv k (iA t k)=true:=by
 refine vr (LM t k) (fun s=>2^k-s.n) (fun s h hd=>?_) (l9 ht h0);obtain ⟨h1,h2⟩:=l8 h hd;have:=h.1.pos;exact ⟨h1,by show 2^k-s.n*10<2^k-s.n;omega⟩
theorem XY {t:Dec} (k:Nat) (ht:bH t) (h0:0<t.nd):2^k≤(iA t k).n:=by
 have h:=of_decide_eq_true (ztq k ht h0).2;rcases Nat.lt_or_ge (iA t k).n (2^k) with h1 | h1
 · exact absurd (Nat.div_eq_of_lt h1) h
 · exact h1
theorem ad9 {t:Dec} (k:Nat) (ht:bH t) (h0:0<t.nd):(iA t k).r≤t.nd+k+1:=by
 have h:=(ztq k ht h0).1.1;rcases h.far with h1 | h1
 · omega
 · have h2:10^((iA t k).r-t.nd)<10^(k+1):=by
    exact Rw
   have:=(Nat.pow_lt_pow_iff_right (a:=10) de).1 h2;omega
structure LP (t:Dec) (k r0:Nat) (s:RsC):Prop where
 len:s.d.length=800
 hw:s.r=s.w+r0
 hr:s.w=0∨s.r≤t.nd
 old:∀i,s.w≤i→dg s.d i=dg t.d i
 dh:∀i,i<s.w→48≤dg s.d i∧dg s.d i≤57
 lead:0<s.w→49≤dg s.d 0∧(r0=1→dg s.d 0<dg t.d 0)
 hn:s.n<10*2^k
 first:s.w=0→2^k≤s.n∧(r0=1→s.n=dg t.d 0-48)
theorem qyz {n k:Nat} (h:n<10*2^k):n/2^k≤9:=by
 have:=(Nat.div_lt_iff_lt_mul (Nat.two_pow_pos k)).2 h;omega
theorem Rv {t:Dec} {k n r0:Nat} (hk:1≤k) (h:2^k≤n∧(r0=1→n=dg t.d 0-48)):49≤n/2^k+48∧(r0=1→n/2^k+48<dg t.d 0):=by
 have h1:1≤n/2^k:=(Nat.le_div_iff_mul_le (Nat.two_pow_pos k)).2 om;refine ⟨om,fun e=>?_⟩;have h2:=h.2 e;have h3:n/2^k<n:=Nat.div_lt_self (by have:=Nat.two_pow_pos k;omega) (Nat.one_lt_two_pow om);omega
theorem rG {t:Dec} {k r0:Nat} {s:RsC} (ht:bH t) (hk:1≤k) (hr0:1≤r0) (h:LP t k r0 s) (hd:ymz t s=false):LP t k r0 (quq k s):=by
 have hd:¬t.nd≤s.r:=of_decide_eq_false hd;have h1:=h.hw;have hn:=ht.hn;have hl:=h.len;have hw:s.w<s.d.length:=om;have hg:=ht.dh s.r om;rw[←h.old s.r om] at hg;have hq:=qyz h.hn;have hq0:=Nat.zero_le (s.n/2^k);have hm:=Nat.mod_lt s.n (Nat.two_pow_pos k);refine ⟨by show (s.d.set s.w _).length=800;rw[List.length_set];exact hl,by show s.r+1=s.w+1+r0;omega,.inr (by show s.r+1≤t.nd;omega),fun i hi=>?_,fun i hi=>?_,fun _=>?_,?_,fun e=>absurd e (Nat.succ_ne_zero _)⟩
 · show dg (s.d.set s.w _) i=_
   have hi:s.w+1≤i:=hi;rw[ykv hw,if_neg om];exact h.old i om
 · show 48≤dg (s.d.set s.w _) i∧dg (s.d.set s.w _) i≤57
   have hi:i<s.w+1:=hi;rw[ykv hw];split
   · omega
   · exact h.dh i om
 · show 49≤dg (s.d.set s.w _) 0∧(r0=1→dg (s.d.set s.w _) 0<dg t.d 0)
   rw[ykv hw];exact Ru
 · show s.n%2^k*10+(dg s.d s.r-48)<10*2^k
   omega
theorem rH {t:Dec} {k:Nat} (ht:bH t) (h0:0<t.nd):LP t k (iA t k).r ⟨t.d,(iA t k).r,0,(iA t k).n⟩:=by
 have h:=(ztq k ht h0).1.1;exact ⟨ht.len,(Nat.zero_add _).symm,.inl rfl,fun _ _=>rfl,fun _ hi=>absurd hi (Nat.not_lt_zero _),fun hi=>absurd hi (Nat.lt_irrefl _),h.hn,fun _=>⟨XY k ht h0,h.one⟩⟩
theorem Bu {t:Dec} {k:Nat} (ht:bH t) (hk:1≤k) (h0:0<t.nd):LP t k (iA t k).r (RB t k)∧ymz t (RB t k)=true:=by
 have hr:=(ztq k ht h0).1.1.hr;refine vr (LP t k (iA t k).r) (fun s=>t.nd-s.r) (fun s h hd=>⟨rG ht hk hr h hd,?_⟩) (rH ht h0);have hd:¬t.nd≤s.r:=of_decide_eq_false hd;show t.nd-(s.r+1)<t.nd-s.r;omega
structure FQ (t:Dec) (k r0:Nat) (s:Va):Prop where
 len:s.d.length=800
 hw:s.w≤800
 dh:∀i,i<s.w→48≤dg s.d i∧dg s.d i≤57
 lead:0<s.w→49≤dg s.d 0∧(r0=1→dg s.d 0<dg t.d 0)
 hn:s.n<10*2^k
 first:s.w=0→2^k≤s.n∧(r0=1→s.n=dg t.d 0-48)
theorem rJ {t:Dec} {k r0:Nat} {s:Va} (hk:1≤k) (h:FQ t k r0 s):FQ t k r0 (gu k s):=by
 have hl:=h.len;have hq:=qyz h.hn;have hq0:=Nat.zero_le (s.n/2^k);have hm:=Nat.mod_lt s.n (Nat.two_pow_pos k);have hn:s.n%2^k*10<10*2^k:=om;unfold gu;split
 · rename_i hw
   have hw':s.w<s.d.length:=om;refine ⟨by show (s.d.set s.w _).length=800;rw[List.length_set];exact hl,hw,fun i hi=>?_,fun _=>?_,hn,fun e=>absurd e (Nat.succ_ne_zero _)⟩
   · show 48≤dg (s.d.set s.w _) i∧dg (s.d.set s.w _) i≤57
     have hi:i<s.w+1:=hi;rw[ykv hw'];split
     · omega
     · exact h.dh i om
   · show 49≤dg (s.d.set s.w _) 0∧(r0=1→dg (s.d.set s.w _) 0<dg t.d 0)
     rw[ykv hw'];exact Ru
 · rename_i hw
   exact ⟨hl,h.hw,h.dh,h.lead,hn,fun e=>absurd (show s.w=0 from e) om⟩
theorem rM {t:Dec} {k:Nat} (ht:bH t) (hk:1≤k) (h0:0<t.nd):FQ t k (iA t k).r ⟨(RB t k).d,(RB t k).w,(RB t k).n,t.tr⟩:=by
 have h:=(Bu ht hk h0).1;have hn:=ht.hn;have hw:=h.hw;refine ⟨h.len,?_,h.dh,h.lead,h.hn,h.first⟩;show (RB t k).w≤800
 rcases h.hr with h1 | h1<;>omega
theorem Bv {k j:Nat} {s:Va} (h:2^j∣s.n∧j≤k+1∧(j=k+1→s.n=0)) (hd:RD s=false):j≤k∧(2^(j+1)∣(gu k s).n∧j+1≤k+1∧(j+1=k+1→(gu k s).n=0)):=by
 have hd:s.n≠0:=of_decide_eq_false hd;obtain ⟨h1,h2,h3⟩:=h;have hj:j≤k:=by
  rcases Nat.lt_or_ge k j with h4 | h4
  · exact absurd (h3 om) hd
  · exact h4
 have e:(gu k s).n=s.n%2^k*10:=by unfold gu;split<;>rfl
 refine ⟨hj,?_,om,fun ej=>?_⟩
 · rw[e,Nat.pow_succ];have h5:2^j∣s.n%2^k:=(Nat.dvd_mod_iff (Nat.pow_dvd_pow 2 hj)).2 h1;exact Nat.mul_dvd_mul h5 de
 · have:j=k:=om;subst this;rw[e,Nat.mod_eq_zero_of_dvd h1]
theorem Bw {t:Dec} {k:Nat} (ht:bH t) (hk:1≤k) (h0:0<t.nd):FQ t k (iA t k).r (rsE t k)∧RD (rsE t k)=true:=by
 have key:∀(m j:Nat) (s:Va),k+1-j=m→FQ t k (iA t k).r s→(2^j∣s.n∧j≤k+1∧(j=k+1→s.n=0))→FQ t k (iA t k).r (qm RD (gu k) s)∧RD (qm RD (gu k) s)=true:=by
  intro m;induction m with
  | zero=>
   intro j s hm h hj;have hd:RD s=true:=decide_eq_true (hj.2.2 om);rw[yv hd];exact ⟨h,hd⟩
  | succ m ih=>
   intro j s hm h hj;cases hd:RD s with
   | true=>rw[yv hd];exact ⟨h,hd⟩
   | false=>
    rw[qx hd];obtain ⟨h1,h2⟩:=Bv hj hd;exact ih (j+1) _ om (rJ hk h) h2
 exact key (k+1) 0 _ rfl (rM ht hk h0) ⟨Nat.one_dvd _,om,fun e=>absurd e om⟩
theorem xv {t:Dec} {k:Nat} (ht:bH t) (hk:1≤k) (h0:0<t.nd) :
 bH (js t k)∧0<(js t k).nd∧t.dp-801-k≤(js t k).dp∧((js t k).dp<t.dp∨((js t k).dp=t.dp∧dg (js t k).d 0<dg t.d 0))∧(js t k).neg=t.neg:=by
 obtain ⟨h1,h2⟩:=Bw ht hk h0;have h2:(rsE t k).n=0:=of_decide_eq_true h2;have hw:0<(rsE t k).w:=by
  rcases Nat.eq_zero_or_pos (rsE t k).w with h | h
  · have:=(h1.first h).1;have:=Nat.two_pow_pos k;omega
  · exact h
 have hI:bH { t with d:=(rsE t k).d,nd:=(rsE t k).w,dp:=t.dp-(((iA t k).r:Nat)-1),tr:=(rsE t k).tr }:=⟨h1.len,h1.hw,h1.dh,fun _=>(h1.lead hw).1⟩;have hdp:(js t k).dp=t.dp-(((iA t k).r:Nat)-1):=Bt hI hw;have hr:=ad9 k ht h0;have hr0:=(ztq k ht h0).1.1.hr;have hn:=ht.hn;refine ⟨qqq hI,qjv hI hw,by rw[hdp];omega,?_,rfl⟩;rw[hdp];rcases Nat.lt_or_ge 1 (iA t k).r with h | h
 · exact .inl om
 · exact .inr ⟨om,(h1.lead hw).2 om⟩
end Go.Proofs.YtmnmebdmpigddaaGreatDoor
namespace Go.Proofs.YtmnmebdmpigddaaGreatDoor
open Go.RowKit
def jh:List Nat→List Nat→Bool
 | _,[]=>false
 | [],_::_=>true
 | b::bs,c::cs=>if b=c then jh bs cs else decide (b<c)
def mh:List Nat→Nat
 | []=>0
 | c::l=>(c-48)*10^l.length+mh l
def Bz (l:List Nat):Prop:=∀c∈l,48≤c∧c≤57
theorem qyx:∀ {l:List Nat},Bz l→mh l<10^l.length
 | [],_=>by simp[mh]
 | c::l,h=>by
  have h1:=h c (List.mem_cons_self ..);have h2:=qyx (fun x hx=>h x (List.mem_cons_of_mem _ hx));show (c-48)*10^l.length+mh l<10^(l.length+1)
  have h3:(c-48)*10^l.length≤9*10^l.length:=Nat.mul_le_mul_right _ om;rw[Nat.pow_succ];omega
def Tail:List Nat→Prop
 | []=>True
 | [c]=>49≤c
 | _::l=>Tail l
theorem LQ {c:Nat} {l:List Nat} (h:Tail (c::l)):Tail l:=by
 cases l with
 | nil=>trivial
 | cons x l=>exact h
theorem BA:∀ {c:Nat} {l:List Nat},Tail (c::l)→0<mh (c::l)
 | c,[],h=>by
  have h:49≤c:=h;show 0<(c-48)*10^0+0
  omega
 | c,x::l,h=>by
  have:=BA (c:=x) (l:=l) h;show 0<(c-48)*10^(l.length+1)+mh (x::l)
  omega
theorem BD {a c p q u v:Nat} (h:a<c) (h1:u<p) (hq:0<q):(a*p+u)*(q*10)<(c*q+v)*(p*10):=by
 have h2:a*p+u<(a+1)*p:=by rw[Nat.add_mul,Nat.one_mul];omega
 have h3:(a+1)*p≤c*p:=Nat.mul_le_mul_right p h;calc (a*p+u)*(q*10)<(c*p)*(q*10):=Nat.mul_lt_mul_of_pos_right om om
  _=(c*q)*(p*10):=by ac_rfl
  _≤(c*q+v)*(p*10):=Nat.mul_le_mul_right _ (Nat.le_add_right _ _)
theorem BF:∀ {b s:List Nat},Bz b→Bz s→Tail s→
 (jh b s=true→mh b*10^s.length<mh s*10^b.length)∧(jh b s=false→mh s*10^b.length≤mh b*10^s.length)
 | b,[],_,_,_=>by
  refine ⟨fun h=>?_,fun _=>?_⟩
  · unfold jh at h;cases h
  · show 0*_≤_;rw[Nat.zero_mul];exact Nat.zero_le _
 | [],c::cs,_,_,ht=>by
  refine ⟨fun _=>?_,fun h=>?_⟩
  · have:=BA ht;show 0*_<mh (c::cs)*1
    omega
  · unfold jh at h;cases h
 | x::bs,c::cs,hb,hs,ht=>by
  have hx:=hb x (List.mem_cons_self ..);have hc:=hs c (List.mem_cons_self ..);have hbs:Bz bs:=fun y hy=>hb y (List.mem_cons_of_mem _ hy);have hcs:Bz cs:=fun y hy=>hs y (List.mem_cons_of_mem _ hy);have lb:=qyx hbs;have lc:=qyx hcs;have p1:0<10^bs.length:=Nat.pow_pos de;have p2:0<10^cs.length:=Nat.pow_pos de;show (jh (x::bs) (c::cs)=true→((x-48)*10^bs.length+mh bs)*10^(cs.length+1)<((c-48)*10^cs.length+mh cs)*10^(bs.length+1))∧
   (jh (x::bs) (c::cs)=false→((c-48)*10^cs.length+mh cs)*10^(bs.length+1)≤((x-48)*10^bs.length+mh bs)*10^(cs.length+1))
  unfold jh;rw[Nat.pow_succ,Nat.pow_succ];generalize hP:10^bs.length=P at *
  generalize hR:10^cs.length=R at *
  split
  · rename_i e
    subst e;obtain ⟨h1,h2⟩:=BF (b:=bs) (s:=cs) hbs hcs (LQ ht);rw[hP,hR] at h1 h2;have e:(x-48)*P*(R*10)=(x-48)*R*(P*10):=by ac_rfl
    rw[Nat.add_mul,Nat.add_mul,e,←Nat.mul_assoc (mh bs),←Nat.mul_assoc (mh cs)];exact ⟨fun h=>by have:=h1 h;omega,fun h=>by have:=h2 h;omega⟩
  · rename_i e
    refine ⟨fun h=>?_,fun h=>?_⟩
    · have h:=of_decide_eq_true h;exact BD om lb p2
    · have h:=of_decide_eq_false h;exact Nat.le_of_lt (BD om lc p1)
def Nh (d:List Nat) (nd:Nat):Nat→Nat
 | 0=>0
 | m+1=>(dg d (nd-1-m)-48)*10^m+Nh d nd m
theorem mo {d:List Nat} {nd:Nat} (hn:nd≤d.length):∀ {m:Nat},m≤nd→Nh d nd m=mh ((d.take nd).drop (nd-m))
 | 0,_=>by
  rw[Nat.sub_zero,List.drop_eq_nil_of_le (by rw[List.length_take];omega)];rfl
 | m+1,hm=>by
  have hl:(d.take nd).length=nd:=by rw[List.length_take];omega
  have h1:nd-(m+1)<(d.take nd).length:=om;have e:nd-(m+1)+1=nd-m:=om;rw[List.drop_eq_getElem_cons h1,e];have h2:(d.take nd)[nd-(m+1)]=dg d (nd-1-m):=by
   have:nd-(m+1)=nd-1-m:=om;have h3:=IW (l:=d) (j:=nd-(m+1)) om;rw[←this];rw[List.getElem_take];exact Option.some.inj ((List.getElem?_eq_getElem om).symm.trans h3)
  show (dg d (nd-1-m)-48)*10^m+Nh d nd m=(_-48)*10^((d.take nd).drop (nd-m)).length+mh _
  rw[h2,mo hn om,List.length_drop,hl];have:nd-(nd-m)=m:=om;rw[this]
theorem rO {d:List Nat} {nd:Nat} (hn:nd≤d.length):Nh d nd nd=mh (d.take nd):=by
 rw[mo hn (Nat.le_refl _),Nat.sub_self,List.drop_zero]
theorem rP {t:Dec} (ht:bH t):Bz (t.d.take t.nd):=by
 intro c hc;obtain ⟨i,hi,e⟩:=List.getElem_of_mem hc;rw[List.length_take] at hi;have h1:i<t.nd:=om;rw[List.getElem_take] at e;have h2:=IW (l:=t.d) (j:=i) om;rw[List.getElem?_eq_getElem om,e] at h2;rw[Option.some.inj h2];exact ht.dh i h1
theorem FR {t:Dec} (ht:bH t) (h0:0<t.nd):10^(t.nd-1)≤Nh t.d t.nd t.nd:=by
 obtain ⟨n,hn⟩:∃n,t.nd=n+1:=⟨t.nd-1,om⟩;rw[hn];show 10^(n+1-1)≤(dg t.d (n+1-1-n)-48)*10^n+_
 have h1:=ht.lead h0;have e:n+1-1-n=0:=om;rw[e,Nat.add_sub_cancel];have:1*10^n≤(dg t.d 0-48)*10^n:=Nat.mul_le_mul_right _ om;omega
theorem RH {t:Dec} (ht:bH t):Nh t.d t.nd t.nd<10^t.nd:=by
 have hn:=ht.hn;have hl:=ht.len;rw[rO om];have h:=qyx (rP ht);rwa [List.length_take,Nat.min_eq_left om] at h
def cy (t:Dec) (k m:Nat):Nat:=Nh t.d t.nd m*2^k/10^m
theorem IY (t:Dec) (k m:Nat):cy t k (m+1)=(cy t k m+(dg t.d (t.nd-1-m)-48)*2^k)/10:=by
 unfold cy;show ((dg t.d (t.nd-1-m)-48)*10^m+Nh t.d t.nd m)*2^k/10^(m+1)=_
 generalize dg t.d (t.nd-1-m)-48=c
 generalize Nh t.d t.nd m=v
 have hp:0<10^m:=Nat.pow_pos de;rw[Nat.pow_succ,←Nat.div_div_eq_div_mul];congr 1
 have e:(c*10^m+v)*2^k=v*2^k+c*2^k*10^m:=by rw[Nat.add_mul,Nat.mul_right_comm];omega
 rw[e,Nat.add_mul_div_right _ _ hp]
def nU (k:Nat):Nat:=if k≤3 then 1 else if k=6 then 2 else if k=9 then 3 else if k=13 then 4 else if k=16 then 5 else if k=19 then 6 else if k=23 then 7 else if k=26 then 8 else if k=27 then 9 else 16
def an5 (n:Nat):Nat→List Nat
 | 0=>[]
 | m+1=>(n/10^m%10+48)::an5 n m
def lcL (k:Nat):Nat:=k+1-nU k
def rQ (k:Nat):List Nat:=an5 (5^k) (lcL k)
def wX (k:Nat):Prop:=k=1∨k=3∨k=6∨k=9∨k=13∨k=16∨k=19∨k=23∨k=26∨k=27∨k=53
structure aLx (k:Nat):Prop where
 k1:1≤k∧k≤60
 d1:1≤nU k∧nU k≤16
 up:2^k≤10^nU k
 lo:10^(nU k-1)≤2^k
 cut:10^(nU k-1)*10^(rQ k).length=mh (rQ k)*2^k
 bI:Bz (rQ k)
 tail:Tail (rQ k)
instance (l:List Nat):Decidable (Bz l):=inferInstanceAs (Decidable (∀c∈l,48≤c∧c≤57))
theorem vQ {k:Nat} (h:wX k):aLx k:=by
 rcases h with rfl | rfl | rfl | rfl | rfl | rfl | rfl | rfl | rfl | rfl | rfl<;>
 exact ⟨de,de,by decide +kernel,by decide +kernel,by decide +kernel,by decide +kernel,by simp[rQ,lcL,nU,an5,Tail]⟩
def qe (t:Dec) (k:Nat):Nat:=if jh (t.d.take t.nd) (rQ k) then nU k-1 else nU k
theorem zlz (a b c:Nat):a*b*c=a*c*b:=Nat.mul_right_comm a b c
theorem qhz {t:Dec} {k:Nat} (ht:bH t) (h0:0<t.nd) (hk:wX k) :
 qe t k≤16∧Nh t.d t.nd t.nd*2^k<10^(qe t k+t.nd)∧(0<qe t k→10^(qe t k-1+t.nd)≤Nh t.d t.nd t.nd*2^k):=by
 have q:=vQ hk;have hn:=ht.hn;have hl:=ht.len;have hlen:(t.d.take t.nd).length=t.nd:=by rw[List.length_take];omega
 have hp:=BF (rP ht) q.bI q.tail;rw[hlen,←rO om] at hp;have h1:=RH ht;have h2:=FR ht h0;have hd1:=q.d1;have hP:0<2^k:=Nat.two_pow_pos k;generalize hN:Nh t.d t.nd t.nd=n at *
 have hL:0<10^(rQ k).length:=Nat.pow_pos de;unfold qe;cases hb:jh (t.d.take t.nd) (rQ k) with
 | true=>
  have h3:=hp.1 hb;rw[if_pos rfl];refine ⟨om,?_,fun hpos=>?_⟩
  · refine Nat.lt_of_mul_lt_mul_right (a:=10^(rQ k).length) ?_;rw[Nat.pow_add,zlz n,zlz (10^(nU k-1)),q.cut,zlz (mh (rQ k))];exact Nat.mul_lt_mul_of_pos_right h3 hP
  · have e:nU k-1-1+t.nd=nU k-1+(t.nd-1):=om;rw[e,Nat.pow_add,Nat.mul_comm];exact Nat.mul_le_mul h2 q.lo
 | false=>
  have h3:=hp.2 hb;rw[if_neg de];refine ⟨om,?_,fun hpos=>?_⟩
  · rw[Nat.pow_add,Nat.mul_comm (10^nU k)];exact Nat.lt_of_lt_of_le (Nat.mul_lt_mul_of_pos_right h1 hP) (Nat.mul_le_mul_left _ q.up)
  · refine Nat.le_of_mul_le_mul_right (c:=10^(rQ k).length) ?_ hL;rw[Nat.pow_add,zlz n,zlz (10^(nU k-1)),q.cut,zlz (mh (rQ k))];exact Nat.mul_le_mul_right _ h3
theorem aD1 {t:Dec} {k:Nat} (ht:bH t) (h0:0<t.nd) (hk:wX k) :
 cy t k t.nd<10^qe t k∧(0<qe t k→10^(qe t k-1)≤cy t k t.nd):=by
 obtain ⟨_,h1,h2⟩:=qhz ht h0 hk;have hp:0<10^t.nd:=Nat.pow_pos de;unfold cy;refine ⟨(Nat.div_lt_iff_lt_mul hp).2 (by rwa [←Nat.pow_add]),fun h=>(Nat.le_div_iff_mul_le hp).2 (by rw[←Nat.pow_add];exact h2 h)⟩
structure BG where
 d:List Nat
 r:Nat
 w:Nat
 n:Nat
 tr:Bool
def rR (d:List Nat) (w x:Nat):List Nat:=if w<800 then d.set w (x+48) else d
def oW (tr:Bool) (w x:Nat):Bool:=if w<800 then tr else if x≠0 then true else tr
def Ni (k:Nat) (s:BG):Nat:=s.n+(dg s.d (s.r-1)-48)*2^k
def yov (s:BG):Bool:=decide (s.r=0)
def qwk (k:Nat) (s:BG):BG:=⟨rR s.d (s.w-1) (Ni k s%10),s.r-1,s.w-1,Ni k s/10,oW s.tr (s.w-1) (Ni k s%10)⟩
def yok (s:BG):Bool:=decide (s.n=0)
def qwq (s:BG):BG:=⟨rR s.d (s.w-1) (s.n%10),s.r,s.w-1,s.n/10,oW s.tr (s.w-1) (s.n%10)⟩
noncomputable def lsA (t:Dec) (k:Nat):BG:=qm yov (qwk k) ⟨t.d,t.nd,t.nd+qe t k,0,t.tr⟩
noncomputable def lsB (t:Dec) (k:Nat):BG:=qm yok qwq (lsA t k)
noncomputable def vp (t:Dec) (k:Nat):Dec:=XV { t with d:=(lsB t k).d,nd:=if 800≤t.nd+qe t k then 800 else t.nd+qe t k,dp:=t.dp+((qe t k:Nat):Int),tr:=(lsB t k).tr }
theorem IZ {d:List Nat} {w x:Nat} (h:d.length=800):(rR d w x).length=800:=by
 unfold rR;split
 · rw[List.length_set];exact h
 · exact h
theorem mq {d:List Nat} {w x i:Nat} (h:d.length=800) (hi:i<800):dg (rR d w x) i=if i=w then x+48 else dg d i:=by
 unfold rR;split
 · rw[ykv om]
 · rw[if_neg om]
structure LU (t:Dec) (k:Nat) (s:BG):Prop where
 len:s.d.length=800
 hw:s.w=s.r+qe t k
 hr:s.r≤t.nd
 old:∀i,i<s.r→dg s.d i=dg t.d i
 hn:s.n=cy t k (t.nd-s.r)
 small:s.n<2^k
 dh:∀i,s.w≤i→i<t.nd+qe t k→i<800→48≤dg s.d i∧dg s.d i≤57
 last:s.r<t.nd→s.w<800→dg s.d s.w=(cy t k (t.nd-s.r-1)+(dg t.d s.r-48)*2^k)%10+48
theorem rT {t:Dec} {k:Nat} {s:BG} (ht:bH t) (h:LU t k s) (hd:yov s=false):LU t k (qwk k s)∧0<s.r∧Ni k s<10*2^k:=by
 have hd:s.r≠0:=of_decide_eq_false hd;have hr:=h.hr;have hn:=ht.hn;have hw:=h.hw;have ho:=h.old (s.r-1) om;have hg:=ht.dh (s.r-1) om;have hs:=h.small;have e1:t.nd-1-(t.nd-s.r)=s.r-1:=om;have e2:t.nd-(s.r-1)=t.nd-s.r+1:=om;have hN:Ni k s=cy t k (t.nd-s.r)+(dg t.d (t.nd-1-(t.nd-s.r))-48)*2^k:=by
  unfold Ni;rw[h.hn,ho,e1]
 have hlt:Ni k s<10*2^k:=by
  unfold Ni;rw[ho];have:(dg t.d (s.r-1)-48)*2^k≤9*2^k:=Nat.mul_le_mul_right _ om;omega
 refine ⟨⟨IZ h.len,by show s.w-1=s.r-1+_;omega,by show s.r-1≤_;omega,fun i hi=>?_,?_,?_,fun i hi h1 h2=>?_,fun h1 h2=>?_⟩,om,hlt⟩
 · have hi:i<s.r-1:=hi;show dg (rR s.d (s.w-1) _) i=_
   rw[mq h.len om,if_neg om];exact h.old i om
 · show Ni k s/10=cy t k (t.nd-(s.r-1))
   rw[e2,IY,hN]
 · show Ni k s/10<2^k
   exact (Nat.div_lt_iff_lt_mul de).2 om
 · have hi:s.w-1≤i:=hi;show 48≤dg (rR s.d (s.w-1) _) i∧dg (rR s.d (s.w-1) _) i≤57
   rw[mq h.len h2];split
   · have:=Nat.mod_lt (Ni k s) (show 0<10 from de);omega
   · exact h.dh i om h1 h2
 · have h2:s.w-1<800:=h2;show dg (rR s.d (s.w-1) _) (s.w-1)=(cy t k (t.nd-(s.r-1)-1)+(dg t.d (s.r-1)-48)*2^k)%10+48
   rw[mq h.len h2,if_pos rfl,hN,e1,e2,Nat.add_sub_cancel]
theorem rU {t:Dec} {k:Nat} (ht:bH t):LU t k ⟨t.d,t.nd,t.nd+qe t k,0,t.tr⟩:=by
 refine ⟨ht.len,rfl,Nat.le_refl _,fun _ _=>rfl,?_,Nat.two_pow_pos k,fun i hi h1=>absurd h1 (Nat.not_lt.2 hi),fun h1=>absurd h1 (Nat.lt_irrefl _)⟩;show 0=cy t k (t.nd-t.nd)
 rw[Nat.sub_self];show 0=0*2^k/10^0
 rw[Nat.zero_mul,Nat.zero_div]
theorem RI {t:Dec} (k:Nat) (ht:bH t):LU t k (lsA t k)∧yov (lsA t k)=true:=by
 refine vr (LU t k) (fun s=>s.r) (fun s h hd=>?_) (rU ht);obtain ⟨h1,h2,_⟩:=rT ht h hd;exact ⟨h1,by show s.r-1<s.r;omega⟩
structure LV (t:Dec) (k:Nat) (s:BG):Prop where
 len:s.d.length=800
 hw:s.w≤qe t k
 hn:(s.w=0∧s.n=0)∨(0<s.w∧10^(s.w-1)≤s.n∧s.n<10^s.w)
 small:s.n<2^k
 dh:∀i,s.w≤i→i<t.nd+qe t k→i<800→48≤dg s.d i∧dg s.d i≤57
 lead:s.w=0→49≤dg s.d 0∧(qe t k=0→dg t.d 0<dg s.d 0)
theorem rV {t:Dec} {k:Nat} (ht:bH t) (h0:0<t.nd) (hk:wX k):LV t k (lsA t k):=by
 obtain ⟨h1,h2⟩:=RI k ht;have h2:(lsA t k).r=0:=of_decide_eq_true h2;obtain ⟨c1,c2⟩:=aD1 ht h0 hk;have hw:=h1.hw;rw[h2,Nat.zero_add] at hw;have hn:=h1.hn;rw[h2,Nat.sub_zero] at hn;have q:=vQ hk;refine ⟨h1.len,om,?_,h1.small,h1.dh,fun e=>?_⟩
 · rw[hn,hw];rcases Nat.eq_zero_or_pos (qe t k) with e | e
   · rw[e] at c1;exact .inl ⟨e,by simpa using c1⟩
   · exact .inr ⟨e,c2 e,c1⟩
 · have ed:qe t k=0:=om;have hl:=h1.last om om;rw[h2,Nat.sub_zero,e] at hl;rw[ed] at c1;obtain ⟨n,hnd⟩:∃n,t.nd=n+1:=⟨t.nd-1,om⟩;have hc:=IY t k n;rw[←hnd,show t.nd-1-n=0 from om] at hc;rw[show t.nd-1=n from om] at hl;have hz:cy t k t.nd=0:=by simpa using c1
   rw[hz] at hc;generalize hX:cy t k n+(dg t.d 0-48)*2^k=X at *
   have aLj:X<10:=by
    rcases Nat.lt_or_ge X 10 with h | h
    · exact h
    · have:1≤X/10:=(Nat.le_div_iff_mul_le de).2 om;omega
   rw[Nat.mod_eq_of_lt aLj] at hl;have hlead:=ht.lead h0;have h2k:2≤2^k:=by
    have:2^1≤2^k:=Nat.pow_le_pow_right de q.k1.1;simpa using this
   have hm:(dg t.d 0-48)*2≤(dg t.d 0-48)*2^k:=Nat.mul_le_mul_left _ h2k;rw[hl];exact ⟨om,fun _=>om⟩
theorem rW {t:Dec} {k:Nat} {s:BG} (ht:bH t) (hk:wX k) (h0:0<t.nd) (h:LV t k s) (hd:yok s=false):LV t k (qwq s)∧0<s.w∧s.w≤16:=by
 have hd:s.n≠0:=of_decide_eq_false hd;have aD2:=(qhz ht h0 hk).1;have hw:=h.hw;obtain ⟨h1,h2,h3⟩:=h.hn.resolve_left (fun e=>hd e.2);have hs:=h.small;have hq:s.n/10≤s.n:=Nat.div_le_self _ _;have hl:=h.len;refine ⟨⟨IZ h.len,by show s.w-1≤_;omega,?_,by show s.n/10<_;omega,fun i hi h4 h5=>?_,fun e=>?_⟩,h1,om⟩
 · show (s.w-1=0∧s.n/10=0)∨(0<s.w-1∧10^(s.w-1-1)≤s.n/10∧s.n/10<10^(s.w-1))
   rcases Nat.eq_zero_or_pos (s.w-1) with e | e
   · have:s.w=1:=om;rw[this] at h3;exact .inl ⟨e,by simpa using h3⟩
   · refine .inr ⟨e,(Nat.le_div_iff_mul_le de).2 ?_,(Nat.div_lt_iff_lt_mul de).2 ?_⟩
     · rw[←Nat.pow_succ,show (s.w-1-1).succ=s.w-1 from om];exact h2
     · rw[←Nat.pow_succ,show (s.w-1).succ=s.w from om];exact h3
 · have hi:s.w-1≤i:=hi;show 48≤dg (rR s.d (s.w-1) _) i∧dg (rR s.d (s.w-1) _) i≤57
   rw[mq hl h5];split
   · have:=Nat.mod_lt s.n (show 0<10 from de);omega
   · exact h.dh i om h4 h5
 · have e:s.w-1=0:=e;have e1:s.w=1:=om;rw[e1] at h2 h3;show 49≤dg (rR s.d (s.w-1) _) 0∧(_→dg t.d 0<dg (rR s.d (s.w-1) _) 0)
   rw[e,mq hl de,if_pos rfl,Nat.mod_eq_of_lt (by simpa using h3)];have:1≤s.n:=by simpa using h2
   exact ⟨om,fun e2=>om⟩
theorem BH {t:Dec} {k:Nat} (ht:bH t) (h0:0<t.nd) (hk:wX k):LV t k (lsB t k)∧yok (lsB t k)=true:=by
 refine vr (LV t k) (fun s=>s.w) (fun s h hd=>?_) (rV ht h0 hk);obtain ⟨h1,h2,_⟩:=rW ht hk h0 h hd;exact ⟨h1,by show s.w-1<s.w;omega⟩
theorem zzx {t:Dec} {k:Nat} (ht:bH t) (h0:0<t.nd) (hk:wX k) :
 bH (vp t k)∧0<(vp t k).nd∧t.dp≤(vp t k).dp∧(vp t k).dp≤t.dp+16∧(t.dp<(vp t k).dp∨((vp t k).dp=t.dp∧dg t.d 0<dg (vp t k).d 0))∧(vp t k).neg=t.neg:=by
 obtain ⟨h1,h2⟩:=BH ht h0 hk;have h2:(lsB t k).n=0:=of_decide_eq_true h2;have aD2:=(qhz ht h0 hk).1;have hw:(lsB t k).w=0:=by
  rcases h1.hn with h | h
  · exact h.1
  · have:0<10^((lsB t k).w-1):=Nat.pow_pos de;omega
 have hl:=h1.lead hw;have hI:bH { t with d:=(lsB t k).d,nd:=if 800≤t.nd+qe t k then 800 else t.nd+qe t k,dp:=t.dp+((qe t k:Nat):Int),tr:=(lsB t k).tr }:=by
  refine ⟨h1.len,?_,fun i hi=>?_,fun _=>hl.1⟩
  · show (if 800≤t.nd+qe t k then 800 else t.nd+qe t k)≤800
    by_cases e:800≤t.nd+qe t k
    · rw[if_pos e];exact Nat.le_refl _
    · rw[if_neg e];omega
  · have hi:i<(if 800≤t.nd+qe t k then 800 else t.nd+qe t k):=hi;refine h1.dh i om ?_ ?_
    · split at hi<;>omega
    · split at hi<;>omega
 have hpos:0<(if 800≤t.nd+qe t k then 800 else t.nd+qe t k):=by split<;>omega
 have hdp:(vp t k).dp=t.dp+((qe t k:Nat):Int):=Bt hI hpos;refine ⟨qqq hI,qjv hI hpos,by rw[hdp];omega,by rw[hdp];omega,?_,rfl⟩;rw[hdp];rcases Nat.eq_zero_or_pos (qe t k) with e | e
 · exact .inr ⟨om,hl.2 e⟩
 · exact .inl om
def aL (s:ByteArray) (i:Nat):Nat:=((s.data[i]?).map (·.toNat)).getD 0
theorem va {s:ByteArray} {i:Nat} (h:i<s.size):(s.data[i]?).map (·.toNat)=some (aL s i):=by
 have h1:s.data[i]? =some s.data[i]:=Array.getElem?_eq_getElem h;unfold aL;rw[h1];rfl
theorem FV (s:ByteArray) (i:Nat):aL s i<256:=by
 unfold aL;cases h:s.data[i]? with
 | none=>decide
 | some c=>exact c.toNat_lt
structure Nj where
 i:Nat
 m:Nat
 nd:Nat
 nm:Nat
 dp:Int
 dot:Bool
 dh:Bool
 tr:Bool
def BN (c:Nat):Bool:=decide (48≤c∧c≤57)
def I8 (s:ByteArray) (t:Nj):Bool:=
 decide (s.size≤t.i) || (if aL s t.i=46 then t.dot else !BN (aL s t.i))
def gh (s:ByteArray) (t:Nj):Nj:=
 if aL s t.i=46 then { t with i:=t.i+1,dot:=true,dp:=t.nd }
 else if aL s t.i=48∧t.nd=0 then { t with i:=t.i+1,dh:=true,dp:=t.dp-1 }
 else if t.nm<19 then { t with i:=t.i+1,dh:=true,nd:=t.nd+1,nm:=t.nm+1,m:=t.m*10+(aL s t.i-48) }
 else { t with i:=t.i+1,dh:=true,nd:=t.nd+1,tr:=t.tr || decide (aL s t.i≠48) }
structure RdI (s:ByteArray) (t:Nj):Prop where
 hi:t.i≤s.size
 hm:t.m<10^t.nm
 hn:t.nm≤19
 hd:t.nd≤t.i
 hp:-(t.i:Int)≤t.dp∧t.dp≤(t.i:Int)
theorem RZ {s:ByteArray} {t:Nj} (h:RdI s t) (hd:I8 s t=false):RdI s (gh s t):=by
 obtain ⟨h1,h2,h3,h4,h5⟩:=h;unfold I8 at hd;rw[Bool.or_eq_false_iff] at hd;have hi:=of_decide_eq_false hd.1;have hd2:=hd.2;unfold gh;split
 · exact ⟨by show t.i+1≤s.size;omega,h2,h3,by show t.nd≤t.i+1;omega,by show -((t.i+1:Nat):Int)≤(t.nd:Int)∧(t.nd:Int)≤((t.i+1:Nat):Int);omega⟩
 · rename_i hc
   rw[if_neg hc] at hd2;have hg:BN (aL s t.i)=true:=by simpa using hd2
   have hg:=of_decide_eq_true hg;split
   · exact ⟨by show t.i+1≤s.size;omega,h2,h3,by show t.nd≤t.i+1;omega,by show -((t.i+1:Nat):Int)≤t.dp-1∧t.dp-1≤((t.i+1:Nat):Int);omega⟩
   · split
     · refine ⟨by show t.i+1≤s.size;omega,?_,by show t.nm+1≤19;omega,by show t.nd+1≤t.i+1;omega,by show -((t.i+1:Nat):Int)≤t.dp∧t.dp≤((t.i+1:Nat):Int);omega⟩;show t.m*10+(aL s t.i-48)<10^(t.nm+1)
       rw[Nat.pow_succ];omega
     · exact ⟨by show t.i+1≤s.size;omega,h2,h3,by show t.nd+1≤t.i+1;omega,by show -((t.i+1:Nat):Int)≤t.dp∧t.dp≤((t.i+1:Nat):Int);omega⟩
def pt (i:Nat):Nat:=if i≥9 then 27 else ([1,3,6,9,13,16,19,23,26]:List Nat).getD i 0
theorem FW (i:Nat):wX (pt i):=by
 unfold pt;split
 · exact .inr (.inr (.inr (.inr (.inr (.inr (.inr (.inr (.inr (.inl rfl)))))))))
 · rename_i h
   have hi:i<9:=om;have key:∀j:Fin 9,wX (([1,3,6,9,13,16,19,23,26]:List Nat).getD j.val 0):=by
    intro j;match j with
    | ⟨0,_⟩=>exact .inl rfl
    | ⟨1,_⟩=>exact .inr (.inl rfl)
    | ⟨2,_⟩=>exact .inr (.inr (.inl rfl))
    | ⟨3,_⟩=>exact .inr (.inr (.inr (.inl rfl)))
    | ⟨4,_⟩=>exact .inr (.inr (.inr (.inr (.inl rfl))))
    | ⟨5,_⟩=>exact .inr (.inr (.inr (.inr (.inr (.inl rfl)))))
    | ⟨6,_⟩=>exact .inr (.inr (.inr (.inr (.inr (.inr (.inl rfl))))))
    | ⟨7,_⟩=>exact .inr (.inr (.inr (.inr (.inr (.inr (.inr (.inl rfl)))))))
    | ⟨8,_⟩=>exact .inr (.inr (.inr (.inr (.inr (.inr (.inr (.inr (.inl rfl))))))))
   exact key ⟨i,hi⟩
theorem BO (i:Nat):1≤pt i∧pt i≤27:=by
 unfold pt;split
 · exact ⟨de,de⟩
 · rename_i h
   have key:∀j:Fin 9,1≤([1,3,6,9,13,16,19,23,26]:List Nat).getD j.val 0∧([1,3,6,9,13,16,19,23,26]:List Nat).getD j.val 0≤27:=de;exact key ⟨i,om⟩
structure wY where
 t:Dec
 e:Int
def zqk (s:wY):Bool:=decide (s.t.dp≤0)
noncomputable def zqz (s:wY):wY:=⟨js s.t (pt s.t.dp.toNat),s.e+((pt s.t.dp.toNat:Nat):Int)⟩
def yaz (s:wY):Bool:=decide (¬(s.t.dp<0∨(s.t.dp=0∧dg s.t.d 0<53)))
noncomputable def zqq (s:wY):wY:=⟨vp s.t (pt (-s.t.dp).toNat),s.e-((pt (-s.t.dp).toNat:Nat):Int)⟩
structure FbI (s:wY):Prop where
 dec:bH s.t
 pos:0<s.t.nd
def Sc (t:Dec):Nat:=10*t.dp.toNat+(dg t.d 0-48)
structure BP (s:wY):Prop extends FbI s where
 dp:-830≤s.t.dp∧s.t.dp≤310
 e:0≤s.e∧s.e+27*((Sc s.t:Nat):Int)≤84000
theorem qnk {s:wY} (h:BP s) (hd:zqk s=false):BP (zqz s)∧Sc (zqz s).t<Sc s.t:=by
 have hd:¬s.t.dp≤0:=of_decide_eq_false hd;have hp:=BO s.t.dp.toNat;obtain ⟨h1,h2,h3,h4,h5⟩:=xv (k:=pt s.t.dp.toNat) h.dec hp.1 h.pos;have h6:=h.dp;have h7:=h.e;have h8:=(h1.dh 0 h2);have h9:=(h.dec.dh 0 h.pos);have ha:=h.dec.lead h.pos;have hb:=h1.lead h2;have hm:Sc (zqz s).t<Sc s.t:=by
  show 10*(js s.t (pt s.t.dp.toNat)).dp.toNat+(dg (js s.t (pt s.t.dp.toNat)).d 0-48)<10*s.t.dp.toNat+(dg s.t.d 0-48)
  rcases h4 with h4 | ⟨h4,h4'⟩<;>omega
 refine ⟨⟨⟨h1,h2⟩,?_,?_⟩,hm⟩
 · show -830≤(js s.t (pt s.t.dp.toNat)).dp∧(js s.t (pt s.t.dp.toNat)).dp≤310
   omega
 · show 0≤s.e+((pt s.t.dp.toNat:Nat):Int)∧s.e+((pt s.t.dp.toNat:Nat):Int)+27*((Sc (zqz s).t:Nat):Int)≤84000
   omega
theorem qnq {t:Dec} (h:bH t) (h0:0<t.nd) (hd:-330≤t.dp∧t.dp≤310):BP ⟨t,0⟩:=by
 have h9:=(h.dh 0 h0);refine ⟨⟨h,h0⟩,by show -830≤t.dp∧t.dp≤310;omega,Int.le_refl 0,?_⟩;show (0:Int)+27*((Sc t:Nat):Int)≤84000
 unfold Sc;omega
noncomputable def fbR (t:Dec):wY:=qm zqk zqz ⟨t,0⟩
theorem mE {t:Dec} (h:bH t) (h0:0<t.nd) (hd:-330≤t.dp∧t.dp≤310):BP (fbR t)∧zqk (fbR t)=true:=
 vr BP (fun s=>Sc s.t) (fun _ h hd=>qnk h hd) (qnq h h0 hd)
def Sd (t:Dec):Nat:=10*(1-t.dp).toNat+(57-dg t.d 0)
structure FX (s:wY):Prop extends FbI s where
 dp:-830≤s.t.dp∧s.t.dp≤16
 e:s.e≤84000∧27*((Sd s.t:Nat):Int)-225000≤s.e
theorem qox {s:wY} (h:FX s) (hd:yaz s=false):FX (zqq s)∧Sd (zqq s).t<Sd s.t:=by
 have hd:s.t.dp<0∨(s.t.dp=0∧dg s.t.d 0<53):=Classical.byContradiction fun e=>(of_decide_eq_false hd) e;have hp:=BO (-s.t.dp).toNat;obtain ⟨h1,h2,h3,h3',h4,h5⟩:=zzx (k:=pt (-s.t.dp).toNat) h.dec h.pos (FW _);have h6:=h.dp;have h7:=h.e;have h8:=(h1.dh 0 h2);have h9:=(h.dec.dh 0 h.pos);have ha:=h.dec.lead h.pos;have hb:=h1.lead h2;have hm:Sd (zqq s).t<Sd s.t:=by
  show 10*(1-(vp s.t (pt (-s.t.dp).toNat)).dp).toNat+(57-dg (vp s.t (pt (-s.t.dp).toNat)).d 0)<10*(1-s.t.dp).toNat+(57-dg s.t.d 0)
  rcases h4 with h4 | ⟨h4,h4'⟩<;>omega
 refine ⟨⟨⟨h1,h2⟩,?_,?_⟩,hm⟩
 · show -830≤(vp s.t (pt (-s.t.dp).toNat)).dp∧(vp s.t (pt (-s.t.dp).toNat)).dp≤16
   omega
 · show s.e-((pt (-s.t.dp).toNat:Nat):Int)≤84000∧27*((Sd (zqq s).t:Nat):Int)-225000≤s.e-((pt (-s.t.dp).toNat:Nat):Int)
   omega
theorem qnv {s:wY} (h:BP s) (hd:zqk s=true):FX s:=by
 have hd:s.t.dp≤0:=of_decide_eq_true hd;have h1:=h.dp;have h2:=h.e;have h3:=h.dec.dh 0 h.pos;refine ⟨h.toFbI,om,om,?_⟩;unfold Sd;omega
noncomputable def Ye (t:Dec):wY:=qm yaz zqq (fbR t)
theorem Sg {t:Dec} (h:bH t) (h0:0<t.nd) (hd:-330≤t.dp∧t.dp≤310):FX (Ye t)∧yaz (Ye t)=true:=by
 obtain ⟨h1,h2⟩:=mE h h0 hd;exact vr FX (fun s=>Sd s.t) (fun _ h hd=>qox h hd) (qnv h1 h2)
structure ShS where
 t:Dec
 k:Nat
def yhq (s:ShS):Bool:=decide (s.k≤60)
noncomputable def yux (s:ShS):ShS:=⟨js s.t 60,s.k-60⟩
noncomputable def Nk (t:Dec) (k:Nat):ShS:=qm yhq yux ⟨t,k⟩
noncomputable def gB (t:Dec) (k:Nat):Dec:=js (Nk t k).t (Nk t k).k
structure Nl (s:ShS):Prop where
 dec:bH s.t
 pos:0<s.t.nd
 k1:1≤s.k∧s.k≤300000
 dp:-10000000+15*(s.k:Int)≤s.t.dp∧s.t.dp≤1000000
theorem mG {s:ShS} (h:Nl s) (hd:yhq s=false):Nl (yux s)∧(yux s).k<s.k:=by
 have hd:¬s.k≤60:=of_decide_eq_false hd;obtain ⟨h1,h2,h3,h4,h5⟩:=xv (k:=60) h.dec de h.pos;have h6:=h.dp;have h7:=h.k1;refine ⟨⟨h1,h2,by show 1≤s.k-60∧s.k-60≤300000;omega,?_⟩,by show s.k-60<s.k;omega⟩;show -10000000+15*((s.k-60:Nat):Int)≤(js s.t 60).dp∧(js s.t 60).dp≤1000000
 omega
theorem I9 {t:Dec} {k:Nat} (h:Nl ⟨t,k⟩):Nl (Nk t k)∧yhq (Nk t k)=true:=
 vr Nl (fun s=>s.k) (fun _ h hd=>mG h hd) h
theorem FY {t:Dec} {k:Nat} (h:Nl ⟨t,k⟩):bH (gB t k)∧0<(gB t k).nd∧ -11000000≤(gB t k).dp∧(gB t k).dp≤1000000:=by
 obtain ⟨h1,h2⟩:=I9 h;have h2:(Nk t k).k≤60:=of_decide_eq_true h2;obtain ⟨h3,h4,h5,h6,_⟩:=xv (k:=(Nk t k).k) h1.dec h1.k1.1 h1.pos;have h7:=h1.dp;refine ⟨h3,h4,?_,?_⟩<;>unfold gB<;>omega
def rup (t:Dec) (p:Int):Bool:=
 if p<0∨(t.nd:Int)≤p then false
 else if dg t.d p.toNat=53∧p+1=(t.nd:Int) then (if t.tr then true else if 0<p then decide ((dg t.d (p.toNat-1)-48)%2≠0) else false)
 else decide (53≤dg t.d p.toNat)
def ymq (t:Dec) (s:eU):Bool:=decide (¬((s.r:Int)<t.dp∧s.r<t.nd))
def qck (t:Dec) (s:eU):eU:=⟨s.r+1,(s.n*10%18446744073709551616+(dg t.d s.r-48))%18446744073709551616⟩
def qcv (t:Dec) (s:eU):Bool:=decide (¬(s.r:Int)<t.dp)
def qcq (s:eU):eU:=⟨s.r+1,s.n*10%18446744073709551616⟩
noncomputable def riA (t:Dec):eU:=qm (ymq t) (qck t) ⟨0,0⟩
noncomputable def riB (t:Dec):eU:=qm (qcv t) qcq (riA t)
noncomputable def Ja (t:Dec):Nat:=if 20<t.dp then 18446744073709551615 else if rup t t.dp then ((riB t).n+1)%18446744073709551616 else (riB t).n
structure Vb (s:eU):Prop where
 hr:s.r≤20
 hn:s.n<18446744073709551616
theorem qlq {t:Dec} {s:eU} (hp:t.dp≤20) (_:Vb s) (hd:ymq t s=false):Vb (qck t s):=by
 have hd:(s.r:Int)<t.dp∧s.r<t.nd:=Classical.byContradiction fun e=>(of_decide_eq_false hd) e;exact ⟨by show s.r+1≤20;omega,Nat.mod_lt _ de⟩
theorem qlz {t:Dec} {s:eU} (hp:t.dp≤20) (_:Vb s) (hd:qcv t s=false):Vb (qcq s):=by
 have hd:(s.r:Int)<t.dp:=Classical.byContradiction fun e=>(of_decide_eq_false hd) e;exact ⟨by show s.r+1≤20;omega,Nat.mod_lt _ de⟩
theorem BQ {t:Dec} (hp:t.dp≤20):Vb (riA t):=by
 refine (vr Vb (fun s=>20-s.r) (fun s h hd=>⟨qlq hp h hd,?_⟩) ⟨Nat.zero_le _,de⟩).1;have:=(qlq hp h hd).hr;have e:(qck t s).r=s.r+1:=rfl;omega
theorem BR {t:Dec} (hp:t.dp≤20):Vb (riB t):=by
 refine (vr Vb (fun s=>20-s.r) (fun s h hd=>⟨qlz hp h hd,?_⟩) (BQ hp)).1;have:=(qlz hp h hd).hr;have e:(qcq s).r=s.r+1:=rfl;omega
theorem Ma (t:Dec):Ja t<18446744073709551616:=by
 unfold Ja;split
 · decide
 · rename_i h
   split
   · exact Nat.mod_lt _ de
   · exact (BR om).hn
def rY (m e:Nat) (neg:Bool):Nat:=if neg then ((m &&& 4503599627370495) ||| (e*4503599627370496)) ||| 9223372036854775808 else (m &&& 4503599627370495) ||| (e*4503599627370496)
noncomputable def qtq (t:Dec) (e:Int):Nat×Nat×Bool:=
 if Ja t=9007199254740992 then (if 1023≤e then (0,2047,true) else (4503599627370496,(e+1+1023).toNat,false))
 else (Ja t,if Ja t &&& 4503599627370496=0 then 0 else (e+1023).toNat,false)
noncomputable def rZ (t:Dec) (e:Int):Nat×Nat×Bool:=
 if e< -1022 then qtq (vp (gB t (-1022-e).toNat) 53) (-1022)
 else if 1024≤e then (0,2047,true)
 else qtq (vp t 53) e
noncomputable def vV (t:Dec):Nat×Nat×Bool:=
 if t.nd=0 then (0,0,false)
 else if 310<t.dp then (0,2047,true)
 else if t.dp< -330 then (0,0,false)
 else rZ (Ye t).t ((Ye t).e-1)
noncomputable def Jc (t:Dec):Nat:=rY (vV t).1 (vV t).2.1 t.neg
theorem Si {P:Prop} (h:P:=by
 have h2:=(hs.exp om).1;rw[e,h2,if_neg de] at hd;exact absurd hd.2 de):P:=h
theorem vW {P:Prop} (h:P:=by
 split
 · rfl
 · split
   · rfl
   · split<;>rfl):P:=h
theorem adz {P:Prop} (h:P:=by
 rw[Bool.or_eq_false_iff];refine ⟨decide_eq_false om,?_⟩;rcases hs.at_ h.fi hi with ⟨_,h1⟩ | ⟨h1,h2⟩
 · rw[if_neg om,qxq h1];rfl
 · rw[if_pos h2];cases hd:t.dot with
   | false=>rfl
   | true=>have:=h.dt hd;omega):P:=h
structure Nm (s:ByteArray) (f p E q:Nat):Prop where
 fp:f<p
 pE:p≤E
 hE:E≤s.size
 aD4:∀i,f≤i→i<p→48≤aL s i∧aL s i≤57
 dot:p<E→aL s p=46∧p+1<E
 aM0:∀i,p<i→i<E→48≤aL s i∧aL s i≤57
 exp:E<s.size→aL s E=101∧((q=E+1∧aL s (E+1)≠43∧aL s (E+1)≠45)∨(q=E+2∧(aL s (E+1)=43∨aL s (E+1)=45)))∧q<s.size∧ ∀i,q≤i→i<s.size→48≤aL s i∧aL s i≤57
theorem qxq {c:Nat} (h:48≤c∧c≤57):BN c=true:=decide_eq_true h
theorem Nm.at_ {s:ByteArray} {f p E q i:Nat} (h:Nm s f p E q) (h1:f≤i) (h2:i<E):(i≠p∧48≤aL s i∧aL s i≤57)∨(i=p∧aL s i=46):=by
 rcases Nat.lt_trichotomy i p with h3 | h3 | h3
 · exact .inl ⟨om,h.aD4 i h1 h3⟩
 · subst h3;exact .inr ⟨rfl,(h.dot h2).1⟩
 · exact .inl ⟨om,h.aM0 i h3 h2⟩
structure RdN (s:ByteArray) (f p E q:Nat) (t:Nj):Prop extends RdI s t where
 fi:f≤t.i
 iE:t.i≤E
 dt:t.dot=true→p<t.i
 dg:f<t.i→t.dh=true
theorem BS {s:ByteArray} {f p E q:Nat} {t:Nj} (hs:Nm s f p E q) (h:RdN s f p E q t) (hi:t.i<E):I8 s t=false:=by
 have hE:=hs.hE;unfold I8;exact adz
theorem r9 {s:ByteArray} {f p E q:Nat} {t:Nj} (hs:Nm s f p E q) (h:RdN s f p E q t) (hd:I8 s t=false):RdN s f p E q (gh s t)∧t.i<E:=by
 have hi:t.i<E:=by
  refine Nat.lt_of_not_le fun hge=>?_;have e:t.i=E:=by have:=h.iE;omega
  unfold I8 at hd;rw[Bool.or_eq_false_iff] at hd;have h1:¬s.size≤t.i:=of_decide_eq_false hd.1;exact Si
 have hstep:(gh s t).i=t.i+1:=by
  unfold gh;exact vW
 have hk:=RZ h.toRdI hd;have hfi:=h.fi;refine ⟨⟨hk,by rw[hstep];omega,by rw[hstep];omega,?_,?_⟩,hi⟩
 · rw[hstep];rcases hs.at_ h.fi hi with ⟨_,h1⟩ | ⟨h1,h2⟩
   · intro e;have hdt:(gh s t).dot=t.dot:=by
      unfold gh;rw[if_neg om];split
      · rfl
      · split<;>rfl
     rw[hdt] at e;have:=h.dt e;omega
   · intro _;omega
 · intro _;rcases hs.at_ h.fi hi with ⟨_,h1⟩ | ⟨h1,h2⟩
   · unfold gh;rw[if_neg om];split
     · rfl
     · split<;>rfl
   · have hp:=hs.fp;unfold gh;rw[if_pos h2];exact h.dg om
theorem sj {s:ByteArray} {f p E q:Nat} (hs:Nm s f p E q):RdN s f p E q ⟨f,0,0,0,0,false,false,false⟩:=by
 have h1:=hs.fp;have h2:=hs.pE;have h3:=hs.hE;exact ⟨⟨by show f≤s.size;omega,by show 0<10^0;decide,Nat.zero_le _,Nat.zero_le _,by show -((f:Nat):Int)≤0∧0≤((f:Nat):Int);omega⟩,Nat.le_refl _,by show f≤E;omega,fun e=>(by cases e),fun e=>absurd e (Nat.lt_irrefl _)⟩
noncomputable def Mc (s:ByteArray) (f:Nat):Nj:=qm (I8 s) (gh s) ⟨f,0,0,0,0,false,false,false⟩
theorem an8 {s:ByteArray} {f p E q:Nat} {t:Nj} (hs:Nm s f p E q) (h:RdN s f p E q t) (hd:I8 s t=true):t.i=E:=by
 rcases Nat.lt_or_ge t.i E with h1 | h1
 · rw[BS hs h h1] at hd;cases hd
 · have:=h.iE;omega
theorem BU {s:ByteArray} {f p E q:Nat} (hs:Nm s f p E q):RdN s f p E q (Mc s f)∧(Mc s f).i=E:=by
 have h:=vr (done:=I8 s) (step:=gh s) (RdN s f p E q) (fun t=>E-t.i) (fun t h hd=>?_) (sj hs)
 · exact ⟨h.1,an8 hs h.1 h.2⟩
 · obtain ⟨h1,h2⟩:=r9 hs h hd;refine ⟨h1,?_⟩;have hstep:(gh s t).i=t.i+1:=by
    unfold gh;exact vW
   omega
structure Sj where
 i:Nat
 e:Nat
def og (s:ByteArray) (t:Sj):Bool:=decide (s.size≤t.i) || !BN (aL s t.i)
def Nn (s:ByteArray) (t:Sj):Sj:=⟨t.i+1,if t.e<10000 then t.e*10+(aL s t.i-48) else t.e⟩
structure ExI (s:ByteArray) (q:Nat) (t:Sj):Prop where
 hi:q≤t.i∧t.i≤s.size
 he:t.e<100000
theorem mH {s:ByteArray} {q:Nat} {t:Sj} (h:ExI s q t) (hd:og s t=false):ExI s q (Nn s t)∧t.i<s.size∧BN (aL s t.i)=true:=by
 unfold og at hd;rw[Bool.or_eq_false_iff] at hd;have h1:¬s.size≤t.i:=of_decide_eq_false hd.1;have h2:BN (aL s t.i)=true:=by simpa using hd.2
 have h3:=of_decide_eq_true h2;have h4:=h.hi;have h5:=h.he;refine ⟨⟨by show q≤t.i+1∧t.i+1≤s.size;omega,?_⟩,om,h2⟩;show (if t.e<10000 then t.e*10+(aL s t.i-48) else t.e)<100000
 split<;>omega
noncomputable def Yf (s:ByteArray) (q:Nat):Sj:=qm (og s) (Nn s) ⟨q,0⟩
theorem yjv {s:ByteArray} {q:Nat} (hq:q≤s.size):ExI s q (Yf s q)∧og s (Yf s q)=true:=
 vr (ExI s q) (fun t=>s.size-t.i) (fun t h hd=>by
  obtain ⟨h1,h2,_⟩:=mH h hd;exact ⟨h1,by show s.size-(t.i+1)<s.size-t.i;omega⟩) ⟨⟨Nat.le_refl _,hq⟩,by show 0<100000;decide⟩
theorem Sk {s:ByteArray} {q:Nat} {t:Sj} (hs:∀i,q≤i→i<s.size→48≤aL s i∧aL s i≤57) (h:ExI s q t) (hd:og s t=true):t.i=s.size:=by
 rcases Nat.lt_or_ge t.i s.size with h1 | h1
 · have h2:=hs t.i h.hi.1 h1;unfold og at hd;rw[qxq h2,decide_eq_false om] at hd;cases hd
 · have:=h.hi;omega
noncomputable def nW (s:ByteArray) (E:Nat):Int:=
 if s.size≤E then 0
 else if aL s (E+1)=45 then -(((Yf s (E+2)).e:Nat):Int)
 else if aL s (E+1)=43 then (((Yf s (E+2)).e:Nat):Int)
 else (((Yf s (E+1)).e:Nat):Int)
theorem qgq {s:ByteArray} {f p E q:Nat} (hs:Nm s f p E q):-100000≤nW s E∧nW s E≤100000:=by
 unfold nW;split
 · omega
 · rename_i h
   obtain ⟨_,h2,h3,_⟩:=hs.exp om;split
   · have:=(yjv (s:=s) (q:=E+2) om).1.he;omega
   · split
     · have:=(yjv (s:=s) (q:=E+2) om).1.he;omega
     · have:=(yjv (s:=s) (q:=E+1) om).1.he;omega
noncomputable def rdP (s:ByteArray) (f:Nat):Int:=(if (Mc s f).dot then (Mc s f).dp else (((Mc s f).nd:Nat):Int))+nW s (Mc s f).i
noncomputable def Ca (s:ByteArray) (f:Nat):Int:=if (Mc s f).m≠0 then rdP s f-(((Mc s f).nm:Nat):Int) else 0
structure Jd where
 i:Nat
 dot:Bool
 dh:Bool
 t:Dec
def Md (s:ByteArray) (t:Jd):Bool:=decide (s.size≤t.i) || (if aL s t.i=46 then t.dot else !BN (aL s t.i))
def kk (s:ByteArray) (a:Jd):Jd:=
 if aL s a.i=46 then { a with i:=a.i+1,dot:=true,t:={ a.t with dp:=(a.t.nd:Int) } }
 else if aL s a.i=48∧a.t.nd=0 then { a with i:=a.i+1,dh:=true,t:={ a.t with dp:=a.t.dp-1 } }
 else if a.t.nd<800 then { a with i:=a.i+1,dh:=true,t:={ a.t with d:=a.t.d.set a.t.nd (aL s a.i),nd:=a.t.nd+1 } }
 else { a with i:=a.i+1,dh:=true,t:={ a.t with tr:=if aL s a.i≠48 then true else a.t.tr } }
structure Yg (s:ByteArray) (f p E q:Nat) (a:Jd):Prop where
 fi:f≤a.i
 iE:a.i≤E
 dt:a.dot=true→p<a.i
 dg:f<a.i→a.dh=true
 dec:bH a.t
 hp:-(a.i:Int)≤a.t.dp∧a.t.dp≤800
theorem Cb {s:ByteArray} {f p E q:Nat} {t:Jd} (hs:Nm s f p E q) (h:Yg s f p E q t) (hi:t.i<E):Md s t=false:=by
 have hE:=hs.hE;unfold Md;exact adz
theorem aD5 (s:ByteArray) (a:Jd):(kk s a).i=a.i+1:=by
 unfold kk;exact vW
theorem qkz {s:ByteArray} {f p E q:Nat} {a:Jd} (hs:Nm s f p E q) (h:Yg s f p E q a) (hd:Md s a=false):Yg s f p E q (kk s a)∧a.i<E:=by
 have hi:a.i<E:=by
  refine Nat.lt_of_not_le fun hge=>?_;have e:a.i=E:=by have:=h.iE;omega
  unfold Md at hd;rw[Bool.or_eq_false_iff] at hd;have h1:¬s.size≤a.i:=of_decide_eq_false hd.1;exact Si
 have hfi:=h.fi;have hp:=h.hp;have hdec:=h.dec;have hn:=hdec.hn;refine ⟨?_,hi⟩;rcases hs.at_ h.fi hi with ⟨hne,h1⟩ | ⟨h1,h2⟩
 · have hno:aL s a.i≠46:=om;have hdt:a.dot=true→p<a.i+1:=fun e=>by have:=h.dt e;omega
   unfold kk;rw[if_neg hno];split
   · exact ⟨by show f≤a.i+1;omega,by show a.i+1≤E;omega,hdt,fun _=>rfl,⟨hdec.len,hdec.hn,hdec.dh,hdec.lead⟩,by show -((a.i+1:Nat):Int)≤a.t.dp-1∧a.t.dp-1≤800;omega⟩
   · rename_i hz
     split
     · rename_i hlt
       refine ⟨by show f≤a.i+1;omega,by show a.i+1≤E;omega,hdt,fun _=>rfl,⟨?_,by show a.t.nd+1≤800;omega,fun i hi=>?_,fun _=>?_⟩,by show -((a.i+1:Nat):Int)≤a.t.dp∧a.t.dp≤800;omega⟩
       · show (a.t.d.set _ _).length=800
         rw[List.length_set];exact hdec.len
       · have hi:i<a.t.nd+1:=hi;show 48≤dg (a.t.d.set a.t.nd (aL s a.i)) i∧dg (a.t.d.set a.t.nd (aL s a.i)) i≤57
         rw[ykv (by rw[hdec.len];exact hlt)];split
         · exact h1
         · exact hdec.dh i om
       · show 49≤dg (a.t.d.set a.t.nd (aL s a.i)) 0
         rw[ykv (by rw[hdec.len];exact hlt)];split
         · rename_i e
           have:aL s a.i≠48:=fun e2=>hz ⟨e2,e.symm⟩;omega
         · exact hdec.lead om
     · exact ⟨by show f≤a.i+1;omega,by show a.i+1≤E;omega,hdt,fun _=>rfl,⟨hdec.len,hdec.hn,hdec.dh,hdec.lead⟩,by show -((a.i+1:Nat):Int)≤a.t.dp∧a.t.dp≤800;omega⟩
 · have hpp:=hs.fp;unfold kk;rw[if_pos h2];exact ⟨by show f≤a.i+1;omega,by show a.i+1≤E;omega,fun _=>by show p<a.i+1;omega,fun _=>h.dg om,⟨hdec.len,hdec.hn,hdec.dh,hdec.lead⟩,by show -((a.i+1:Nat):Int)≤(a.t.nd:Int)∧(a.t.nd:Int)≤800;omega⟩
def vX (neg:Bool):Dec:=⟨List.replicate 800 0,0,0,neg,false⟩
theorem Je (neg:Bool):bH (vX neg):=⟨List.length_replicate,Nat.zero_le _,fun _ hi=>absurd hi (Nat.not_lt_zero _),fun hi=>absurd hi (Nat.lt_irrefl _)⟩
theorem qkx {s:ByteArray} {f p E q:Nat} (neg:Bool) (hs:Nm s f p E q):Yg s f p E q ⟨f,false,false,vX neg⟩:=by
 have h1:=hs.fp;have h2:=hs.pE;exact ⟨Nat.le_refl _,by show f≤E;omega,fun e=>(by cases e),fun e=>absurd e (Nat.lt_irrefl _),Je neg,by show -((f:Nat):Int)≤0∧(0:Int)≤800;omega⟩
noncomputable def stA (s:ByteArray) (f:Nat) (neg:Bool):Jd:=qm (Md s) (kk s) ⟨f,false,false,vX neg⟩
theorem an9 {s:ByteArray} {f p E q:Nat} {t:Jd} (hs:Nm s f p E q) (h:Yg s f p E q t) (hd:Md s t=true):t.i=E:=by
 rcases Nat.lt_or_ge t.i E with h1 | h1
 · rw[Cb hs h h1] at hd;cases hd
 · have:=h.iE;omega
theorem mI {s:ByteArray} {f p E q:Nat} (neg:Bool) (hs:Nm s f p E q):Yg s f p E q (stA s f neg)∧(stA s f neg).i=E:=by
 have h:=vr (done:=Md s) (step:=kk s) (Yg s f p E q) (fun t=>E-t.i) (fun t h hd=>?_) (qkx neg hs)
 · exact ⟨h.1,an9 hs h.1 h.2⟩
 · obtain ⟨h1,h2⟩:=qkz hs h hd;refine ⟨h1,?_⟩;rw[aD5];omega
noncomputable def fB (s:ByteArray) (f:Nat) (neg:Bool):Dec:=
 { (stA s f neg).t with dp:=(if (stA s f neg).dot then (stA s f neg).t.dp else (((stA s f neg).t.nd:Nat):Int))+nW s (stA s f neg).i }
theorem Yh {s:ByteArray} {f p E q:Nat} (neg:Bool) (hs:Nm s f p E q):bH (fB s f neg):=
 let h:=(mI neg hs).1.dec
 ⟨h.len,h.hn,h.dh,h.lead⟩
def anq (s:ByteArray) (i:Nat):Bool:=decide (s.size≤i) || !BN (aL s i)
noncomputable def Yi (s:ByteArray) (a:Nat):Nat:=qm (anq s) (fun i=>i+1) a
structure RuI (s:ByteArray) (a i:Nat):Prop where
 lo:a≤i
 hi:i≤s.size
 dh:∀j,a≤j→j<i→48≤aL s j∧aL s j≤57
theorem Yj {s:ByteArray} {i:Nat} (h:s.size≤i):aL s i=0:=by
 unfold aL;have h1:s.data[i]? =none:=Array.getElem?_eq_none h;rw[h1];rfl
theorem FZ {s:ByteArray} {i:Nat} (h:aL s i≠0):i<s.size:=by
 rcases Nat.lt_or_ge i s.size with h1 | h1
 · exact h1
 · exact absurd (Yj h1) h
noncomputable def nB (s:ByteArray) (a:Nat):Nat:=if aL s a=46 then Yi s (a+1) else a
def nQ (s:ByteArray) (b:Nat):Nat:=if aL s (b+1)=43∨aL s (b+1)=45 then b+2 else b+1
noncomputable def nC (s:ByteArray) (b:Nat):Nat:=if aL s b=101 then Yi s (nQ s b) else b
def aM1 (s:ByteArray) (b:Nat):Prop:=nC s b=s.size∧(aL s b=101→nQ s b<nC s b)
def aM2 (s:ByteArray) (a:Nat):Prop:=(aL s a=46→a+1<nB s a)∧aM1 s (nB s a)
def aM3 (s:ByteArray) (f:Nat):Prop:=f<Yi s f∧aM2 s (Yi s f)
noncomputable def aD6 (s:ByteArray) (f:Nat):Bool:=@decide (aM3 s f) (Classical.propDecidable _)
section
variable {P:Program} {N:Nat} {Q:Exit→Act→World→Prop} {σ:Env} {w:World} {body:Code} {n:Nat}
theorem Gb:∀(n:Nat) (e:Exit) (a:Act) (w:World),kp P body Q 0 e a w→kp P body Q n e a w
 | 0,_,_,_,h=>h
 | n+1,e,_,_,h=>by
  cases e<;>first | exact h | exact .inl h
theorem Jg {l:Nat} {rest:Code} {ι:Type} (s:ι→Env) (R:ι→World→Prop) (_:findLabel body l=some rest)
 (hb:(∀i w,R i w→CW P N rest (kp P body Q 0) (s i) w)→CW P N body (kp P body Q n) σ w) (ht:∀i w,R i w→CW P N rest (kp P body Q 0) (s i) w):CW P N body (kp P body Q n) σ w:=hb ht
theorem ypv {l k:Nat} {rest:Code} {ι:Type} {s:ι→Env} {R:ι→World→Prop} (hl:findLabel body l=some rest) (ht:∀i w,R i w→CW P N rest (kp P body Q 0) (s i) w) (i:ι) (hs:Sub σ (s i)) (hr:R i w):EW N (kp P body Q (k+1)) (.goto l) σ w:=
 oC hl (fun a ha=>Code.wp_mono (fun e a w q=>Gb k e a w q) (ht i w hr a (ha.weak (qmv hs))))
end
end Go.Proofs.YtmnmebdmpigddaaGreatDoor
namespace Go.Proofs.YtmnmebdmpigddaaGreatDoor
open Go.RowKit
attribute [local irreducible] OW RS CW EW
end Go.Proofs.YtmnmebdmpigddaaGreatDoor
namespace Go.Proofs.YtmnmebdmpigddaaGreatDoor
open Go.RowKit
attribute [local irreducible] OW RS CW EW
def aH3 (W:World) (base:Nat) (key:Option Nat) (n:Nat) (xs:List Value) (e:Ending) (w':World):Prop:=
 ∃A c,e= .returned (.slice A n c)∧w'.ownsRow base 5 1 (.slice A n c) n xs∧Ext (ak [key]) W w'∧ ∀q,(Value.slice A n c).ownBlock=some q→key=some q∨W.heap.size≤q
section
variable (w:World) (base:Nat) (A:Option Addr) (c:Nat) (HB:base≤w.heap.size) (ho:w.ownsRow base 5 1 (.slice A 0 c) 0 [])
include HB ho
end
section
variable (w:World)
end
end Go.Proofs.YtmnmebdmpigddaaGreatDoor
namespace Go.Proofs.YtmnmebdmpigddaaGreatDoor
open Go.RowKit
attribute [local irreducible] OW RS CW EW
def aEx (w:World):Prop:=w.cell? ⟨13,728,none⟩=some (.int .u64 10240000000000000000)∧w.cell? ⟨13,729,none⟩=some (.int .u64 0)
section
variable (w:World)
end
end Go.Proofs.YtmnmebdmpigddaaGreatDoor
