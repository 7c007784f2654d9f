/- Texts of this claim. -/
import Derived.Test.YtebjkmjfcijebaaGreatB9
import Derived.Test.YtebjkmjfcijebaaGreatProg
import Derived.Lib.ConvBytes
import Derived.Lib.SmallJoins
set_option maxRecDepth 100000
namespace Go.Proofs.YtebjkmjfcijebaaGreat
open Go.RowKit
def LoopW (P:Program) (c:Code) (Q:Exit→Act→World→Prop) (a:Act) (w:World):Prop:=∀b k cs,∃e a' w',Q e a' w'∧Arrives P (lone (b.at a (.inLoop c::k)) cs w) b k cs e a' w'
theorem loopW_of {P:Program} {c:Code} {Q:Exit→Act→World→Prop} {a:Act} {w:World} (h:c.wp P (Exit.then (LoopW P c Q) Q) a w) (b:Frame) (k:List Item) (cs:List Frame) :
 ∃e a' w',Q e a' w'∧Arrives P (lone (b.at a (.code c:: .inLoop c::k)) cs w) b k cs e a' w':=by
 obtain ⟨e,a₁,w₁,hq,harr⟩:=h b (.inLoop c::k) cs;cases e with
 | normal=>
  obtain ⟨e₂,a₂,w₂,hq₂,harr₂⟩:=hq b k cs;exact ⟨e₂,a₂,w₂,hq₂,.of_steps harr harr₂⟩
 | exit id=>exact ⟨_,a₁,w₁,hq,.pass (x:=.inLoop c) rfl (fun _ _=>.inl (by simp)) harr⟩
 | goto l=>exact ⟨_,a₁,w₁,hq,.pass (x:=.inLoop c) rfl (fun _ _=>.inl (by simp)) harr⟩
 | ret=>exact ⟨_,a₁,w₁,hq,.pass (x:=.inLoop c) rfl (fun _ _=>.inl (by simp)) harr⟩
 | panic ch=>exact ⟨_,a₁,w₁,hq,.pass (x:=.inLoop c) rfl (fun _ _=>.inl (by simp)) harr⟩
 | outgrown=>exact ⟨_,a₁,w₁,hq,.pass (x:=.inLoop c) rfl (fun _ _=>.inl (by simp)) harr⟩
section
variable {P:Program} {N:Nat} {ops:Array Oper} {Q:Exit→Act→World→Prop} {σ:Env} {w:World} {ty:TypeId} {pos:String} {af:Array Edge} {dst:Option Nat} {Post:Value→World→Prop}
theorem qaq {c:Code} (h:CW P N c (Exit.then (LoopW P c Q) Q) σ w):CW P N (.loop c) Q σ w:=fun a ha b k cs=>by
 obtain ⟨e,a',w',hq,harr⟩:=loopW_of (h a ha) b k cs;exact ⟨e,a',w',hq,.of_steps (.one step_loop) harr⟩
/-! ### floating-point numbers -/
/-! ### functions that the model gives itself -/
theorem run_f64bits (b:Nat) (w:World):(Extern.MathFloatBits.float64bits #[.float .f64 b]).run P w= .ok (.int .u64 ((b:Nat):Int)) w:=rfl
theorem run_frombits (b:Nat) (w:World):(Extern.MathFloatBits.float64frombits #[.int .u64 ((b:Nat):Int)]).run P w= .ok (.float .f64 b) w:=rfl
theorem zwk {f:FuncId} {ts:Array TypeId} {x:Operand} {b:Nat} (hf:Ext_ P f Extern.MathFloatBits.float64bits) (hx:ev σ x=some (.float .f64 b)) (k:Post (.int .u64 ((b:Nat):Int)) w):OW P N ops Q ⟨dst,.call ⟨.value (.func f),#[x],ts⟩,ty,pos,af,none⟩ σ w Post:=
 ow_ext (xs:=[x]) (args:=[.float .f64 b]) hf (by simp[evs,hx]) (run_f64bits b w) k
theorem qp {f:FuncId} {ts:Array TypeId} {x:Operand} {b:Nat} (hf:Ext_ P f Extern.MathFloatBits.float64frombits) (hx:ev σ x=some (.int .u64 ((b:Nat):Int))) (k:Post (.float .f64 b) w):OW P N ops Q ⟨dst,.call ⟨.value (.func f),#[x],ts⟩,ty,pos,af,none⟩ σ w Post:=
 ow_ext (xs:=[x]) (args:=[.int .u64 ((b:Nat):Int)]) hf (by simp[evs,hx]) (run_frombits b w) k
def od (way:Ieee.Toward) (b:Nat):Nat:=FloatKind.f64.encode ((FloatKind.f64.decode b).integral way)
theorem ow_round {f:FuncId} {ts:Array TypeId} {x:Operand} {b:Nat} {name:String} {way:Ieee.Toward} (hf:Ext_ P f (Extern.MathFloor.toIntegral name way)) (hx:ev σ x=some (.float .f64 b)) (hn:(FloatKind.f64.decode b).isNaN=false) (k:Post (.float .f64 (od way b)) w):OW P N ops Q ⟨dst,.call ⟨.value (.func f),#[x],ts⟩,ty,pos,af,none⟩ σ w Post:=
 ow_ext (xs:=[x]) (args:=[.float .f64 b]) (v:=.float .f64 (od way b)) (w':=w) hf (by simp[evs,hx]) (by
  have e:Extern.MathFloor.toIntegral name way #[.float .f64 b]=(match FloatKind.f64.decode b with
   | .nan s t=>if FloatKind.f64.format.quiet t=t then pure (.float .f64 b) else do
    let kept←choose (.extern "math.Floor,Ceil,Trunc,RoundToEven.signallingNaN kept" 2)
    pure (.float .f64 (if kept==1 then b else FloatKind.f64.encode (.nan s (FloatKind.f64.format.quiet t))))
   | d=>pure (.float .f64 (FloatKind.f64.encode (d.integral way)))):=rfl
  rw[e];unfold od;cases h:FloatKind.f64.decode b with
  | nan s t=>rw[h] at hn;cases hn
  | infinity s=>rfl
  | number s m e=>rfl) k
/-! ### strings that are written out -/
theorem ow_indexSL {x i:Operand} {T:TypeId} {s:ByteArray} {q:IntKind} {m:Int} {j:Nat} {b:Nat} (hd:P.underlying T=some .string) (hx:ev σ x=some (.string s)) (hi:ev σ i=some (.int q m)) (hm:m=(j:Int)) (hb:(s.data[j]?).map (·.toNat)=some b)
 (k:Post (.int .u8 (b:Int)) w):OW P N ops Q ⟨dst,.index T x i,ty,pos,af,none⟩ σ w Post:=by
 obtain ⟨c,h1,rfl⟩:=Option.map_eq_some_iff.1 hb;exact ow_indexS hd hx hi hm (show s[j]? =some c by
  have h2:s[j]? =s.data[j]? :=rfl;rw[h2,h1]) k
/-! ### an error that is none -/
def RowL (w:World) (g:Nat) (xs:List Value):Prop:=∀j v,xs[j]? =some v→w.cell? ⟨g,j,none⟩=some v
theorem Per.rowL {w:World} {g:Nat} {xs:List Value} (h:RowL w g xs):Per No w (fun b=>RowL b g xs):=fun b hb j v hj=>by
 have h1:=h j v hj;rw[hb.cell (p:=⟨g,j,none⟩) (World.block_lt_of_cell? w _ h1) (fun e=>e.elim)];exact h1
theorem ow_strBytes {S D e:TypeId} {x:Operand} {s:ByteArray} {n:Nat} {xs:List Value} (hS:P.underlying S=some .string) (hD:P.underlying D=some (.slice e)) (he:P.underlying e=some (.int .u8)) (hx:ev σ x=some (.string s)) (hn:s.size=n) (hl:s.data.toList.map (fun b=>Value.int .u8 (b.toNat:Int))=xs)
 (k:∀g c w',RowL w' g xs→Ext No w w'→w.heap.size≤g→Post (.slice (some ⟨g,0,none⟩) n c) w'):OW P N ops Q ⟨dst,.convert S D x,ty,pos,af,none⟩ σ w Post:=
 yw (v:=.slice (some ⟨w.heap.size,0,none⟩) s.size (grownCap w s.size 0 e)) (w':=Lib.bytesWorld w e s) (fun ρ ha=>by
  simp only[execOp,ha hx,Sem.run_bind,Lib.run_convert_string_bytes w S D e s hS hD he,Result.andThen_ok,Sem.run_pure]) (by
  subst hn;refine k _ _ _ (fun j v hj=>?_) (Ext.of_below (Joins.below_bytesWorld _ _ _ _ (Nat.le_refl _)) No) (Nat.le_refl _);rw[←hl,List.getElem?_map] at hj;obtain ⟨b,hb,rfl⟩:=Option.map_eq_some_iff.1 hj;have hlt:j<s.size:=by
   have h1:=(List.getElem?_eq_some_iff.1 hb).1;have h2:s.data.toList.length=s.size:=Array.length_toList;omega
  rw[Lib.bytesWorld_cell w e s j hlt,List.getD_eq_getElem?_getD,hb];rfl)
end
abbrev Gives (f:FuncId) (args:Array Value) (v:Value):Prop:=∀w,Calls Tryz.prog f args w fun e w'=>e= .returned v∧Below w.heap.size w w'
section
variable {P:Program} {N:Nat} {Q:Exit→Act→World→Prop} {σ:Env} {w:World} {l:List Oper}
def trL (k n:Nat):Array Bool:=(List.replicate k true++List.replicate (n-k) false).toArray
def AK (P:Program) (N k:Nat) (l:List Oper) (Q:Exit→Act→World→Prop) (σ:Env) (w:World):Prop:=∀a,At N σ a→wpAny P .any l.toArray Q (l.length-k) (trL k l.length) a w
theorem zcz {id:Nat} (hm:P.follows .mixedOrders=true) (h:AK P N 0 l Q σ w.drew):CW P N (.region id l.toArray true) Q σ w:=fun a ha=>by
 refine wp_region_any hm ?_;have:=h a ha;unfold trL at this;simpa using this
theorem trL_get {k n j:Nat} {d:Bool} (hj:j<n) (hk:k≤n):(trL k n).getD j d=decide (j<k):=by
 unfold trL;by_cases h:j<k
 · simp[Array.getD_eq_getD_getElem?,List.getElem?_append,h]
 · have h2:j-k<n-k:=by omega
   simp[Array.getD_eq_getD_getElem?,List.getElem?_append,h,List.getElem?_replicate,h2]
theorem trL_set {k n:Nat} (h:k<n):(trL k n).setIfInBounds k true=trL (k+1) n:=by
 unfold trL;apply Array.toList_inj.1
 rw[Array.toList_setIfInBounds];have e:n-k=(n-(k+1))+1:=by omega
 rw[e,List.replicate_succ,List.replicate_succ',List.append_assoc];simp
def quiet (o:Oper):Bool:=match o.guard with
 | some _=>false
 | none=>match o.op with
  | .move _=>true
  | .assign _=>true
  | .extract _ _=>true
  | _=>false
theorem quiet_yields {ops:Array Oper} {o:Oper} {a:Act} {w:World} {K:Act→World→Prop} (hq:quiet o=true) (h:o.wp P a w K Q∨(o.asks P a w∧LetsOut Q)):∃v,Yields P ops o v a∧K (a.put o.dst v) w:=by
 obtain ⟨dst,op,type,pos,after,guard⟩:=o;cases guard with
 | some g=>simp[quiet] at hq
 | none=>
  cases op<;>first | (simp[quiet] at hq;done) | skip
  case move x=>
   refine ⟨a.eval x,.inl ⟨by simp[Region.wanted],fun w=>by simp[execOp,go_sem]⟩,?_⟩;rcases h with h | ⟨h,_⟩
   · simpa [Oper.wp,execOp,go_sem,Oper.upon] using h
   · exact absurd h (by simp[Oper.asks,execOp,Sem.runT,Sem.events,pure,bind])
  case assign x=>
   refine ⟨a.eval x,.inl ⟨by simp[Region.wanted],fun w=>by simp[execOp,go_sem]⟩,?_⟩;rcases h with h | ⟨h,_⟩
   · simpa [Oper.wp,execOp,go_sem,Oper.upon] using h
   · exact absurd h (by simp[Oper.asks,execOp,Sem.runT,Sem.events,pure,bind])
  case extract x i=>
   rcases h with h | ⟨h,_⟩
   · unfold Oper.wp at h;simp only[execOp,Instr.extract] at h
     split at h
     · rename_i vs hx
       split at h
       · rename_i v hv
         refine ⟨v,.inl ⟨by simp[Region.wanted],fun w=>by simp only[execOp,hx,Instr.extract,hv];rfl⟩,?_⟩;simpa [go_sem,Oper.upon] using h
       · simp[go_sem,Oper.upon,stuck] at h
     · simp[go_sem,Oper.upon,stuck] at h
   · exfalso
     unfold Oper.asks at h;simp only[execOp,Instr.extract] at h
     split at h
     · split at h
       · simp[Sem.runT,Sem.events,Sem.bind,pure,bind] at h
       · simp[Sem.runT,Sem.events,Sem.bind,pure,bind,stuck] at h
     · simp[Sem.runT,Sem.events,Sem.bind,pure,bind,stuck] at h
def qfv (l:List Oper):Nat→Nat→Bool
 | _,0=>true
 | k,m+1=>(match Region.ready .any l.toArray (trL k l.length) with
  | []=>false
  | [j]=>Nat.beq j k
  | r=>memN k r&&(match l.toArray[k]? with
   | some o=>quiet o
   | none=>false)&&Region.free .any l.toArray (trL k l.length) k)&&qfv l (k+1) m
theorem any_of_list (hn:Region.noSelect l.toArray=true) (hQ:∀c (a:Act) d v w,Q (.panic c) (a.put d v) w→Q (.panic c) a w) :
 ∀(m k:Nat),k+m=l.length→qfv l k m=true→ ∀a w,wpList P l.toArray Q (l.drop k) a w→wpAny P .any l.toArray Q m (trL k l.length) a w:=by
 intro m;induction m with
 | zero=>
  intro k hk _ a w h;have hk:k=l.length:=by omega
  subst hk;rw[List.drop_length] at h;refine ⟨List.eq_nil_iff_forall_not_mem.2 fun j hj=>?_,h⟩;obtain ⟨h0,o,ho,_⟩:=mem_ready.1 hj;have hlt:j<l.length:=by simpa using (Array.getElem?_eq_some_iff.1 ho).1
  rw[trL_get hlt (Nat.le_refl _)] at h0;simp[hlt] at h0
 | succ m ih=>
  intro k hk hs a w h;have hkl:k<l.length:=by omega
  simp only[qfv,Bool.and_eq_true] at hs
  rw[List.drop_eq_getElem_cons hkl] at h;have hok:l.toArray[k]? =some l[k]:=by simp[hkl]
  have hnext:=fun a w h=>ih (k+1) (by omega) hs.2 a w h;rw[←trL_set hkl] at hnext;have hone:wpOp P l.toArray Q k (wpAny P .any l.toArray Q m ((trL k l.length).setIfInBounds k true)) a w:=by
   unfold wpOp;rw[hok];simp only[]
   unfold wpList at h;split
   · rename_i hw
     rw[if_pos hw] at h;exact h.imp (Oper.wp_mono hnext) id
   · rename_i hw
     rw[if_neg hw] at h;exact hnext _ _ h
  have h1:=hs.1;split at h1
  · cases h1
  · rename_i j hr
    have hj:j=k:=Nat.eq_of_beq_eq_true h1;subst hj;exact wpAny_all hr (by simp) fun i hi=>by rw[List.mem_singleton.1 hi];exact hone
  · rename_i hr hr1
    rw[hok] at h1;simp only[Bool.and_eq_true] at h1
    have hq:=h1.1.2;unfold wpList at h;have hg:Region.wanted l[k] (yielded l.toArray a.tmps)=true:=by
     unfold quiet at hq;split at hq
     · cases hq
     · rename_i hg;simp[Region.wanted,hg]
    rw[if_pos hg] at h;obtain ⟨v,hy,hv⟩:=quiet_yields (ops:=l.toArray) hq h;exact wpAny_take hok hn h1.2 (by simpa using gf.1 h1.1.1) (fun c a w h=>hQ c a _ _ w h) hy (hnext _ _ hv)
theorem gn {k:Nat} (hs:(qfv l k (l.length-k)&&Region.noSelect l.toArray&&Nat.ble k l.length)=true) (hQ:∀c (a:Act) d v w,Q (.panic c) (a.put d v) w→Q (.panic c) a w)
 (h:RS P N l.toArray Q (l.drop k) σ w):AK P N k l Q σ w:=fun a ha=>by
 simp only[Bool.and_eq_true] at hs
 have:=Nat.le_of_ble_eq_true hs.2;exact any_of_list hs.1.2 hQ _ k (by omega) hs.1.1 a w (h a ha)
def covers (ops:Array Oper):Nat→List Nat→Bool
 | 0,_=>true
 | j+1,S=>memN j S&&covers ops j (S++va ops j)
def gateOK (l:List Oper) (m:Nat):Bool:=Nat.ble m l.length&&zhv 0 (l.take m) []&&((l.take m).all fun o=>match o.guard with
 | some (g,_)=>Nat.blt g m
 | none=>true)&&(List.range (l.length-m)).all fun t=>(va l.toArray (m+t)).any (fun d=>Nat.ble m d) || covers l.toArray m (va l.toArray (m+t))
theorem covers_all {ops:Array Oper} {L:Nat→Prop} (hd:∀i,L i→ ∀j∈va ops i,L j):∀(m:Nat) (S:List Nat),covers ops m S=true→(∀j∈S,L j)→ ∀j,j<m→L j:=by
 intro m;induction m with
 | zero=>intro S _ _ j hj;omega
 | succ m ih=>
  intro S hc hS j hj;simp only[covers,Bool.and_eq_true] at hc
  have hm:=hS m (gf.1 hc.1);rcases Nat.lt_or_ge j m with h | h
  · refine ih _ hc.2 (fun j hj=>?_) j h;rcases List.mem_append.1 hj with h | h
    · exact hS j h
    · exact hd m hm j h
  · have:j=m:=by omega
    subst this;exact hm
theorem upon_then {o:Oper} {a:Act} {K K' Z:Act→World→Prop} (h:∀a w,K a w→K' a w):∀ {r:Result Next},o.upon P a K (Exit.then Z Q) r→o.upon P a K' Q r:=by
 intro r hh;cases r with
 | ok n w'=>
  cases n<;>simp only[Oper.upon] at hh ⊢ <;>
   first
    | exact h _ _ hh
    | exact Calls.mono hh (fun e w'' he=>by cases e<;>first | exact h _ _ he | exact he)
    | exact Rows.mono hh (fun _ _ he=>h _ _ he)
    | exact hh
 | halt x w'=>cases x<;>simp only[Oper.upon] at hh ⊢ <;>exact hh
end
section
variable {P:Program} {N:Nat} {Q:Exit→Act→World→Prop} {σ:Env} {l:List Oper}
theorem zux {w:World} (Y:Nat→Prop) (hY:∀k,Y k→k<w.heap.size) (bs:List Bx) (os:List Ox) (F:Nat→Fx) (hok:(zhv 0 l []&&bxOK bs&&bxWF l bs bs&&dstOK N l&&oxOK bs os)=true) (hos:zyq Y w os) (hin:∀o∈os,l[o.st]? ≠none)
 (hsteps:yxx P N l.toArray Q σ bs os F w 0 l)
 (hend:∀vs w',Ext (Mut (ybq os)) w w'→AllOut σ l.toArray vs w' os→zyk Y bs F vs w' 0 l→zuz P σ l.toArray vs w w' bs→yfx vs bs→EW N Q .normal (envEnd σ l vs) w'):AK P N 0 l Q σ w:=by
 simp only[Bool.and_eq_true] at hok
 obtain ⟨⟨⟨⟨hrow,hbx⟩,hwf⟩,hdl⟩,hox⟩:=hok;have hoat:∀ {r:List Ox},zyq Y w r→ ∀o∈r,Y o.g∧Blk w o.g o.T o.cs:=by
  intro r;induction r with
  | nil=>intro _ o ho;cases ho
  | cons x r ih=>
   intro h o ho;rcases List.mem_cons.1 ho with rfl | ho
   · exact ⟨h.1.1,h.1.2.1⟩
   · exact ih h.2 o ho
 have hopw:∀ {r:List Ox},zyq Y w r→oxOK bs r=true→ ∀a∈r,∀b∈r,a≠b→a.g≠b.g∧a.st≠b.st:=by
  intro r;induction r with
  | nil=>intro _ _ a ha;cases ha
  | cons x r ih=>
   intro h hk a ha b hb hab;simp only[oxOK,Bool.and_eq_true,List.all_eq_true,Bool.not_eq_true'] at hk
   rcases List.mem_cons.1 ha with rfl | ha'
   · rcases List.mem_cons.1 hb with rfl | hb'
     · exact absurd rfl hab
     · exact ⟨h.1.2.2 b hb',fun e=>by have:=hk.1.2 b hb';rw[e] at this;simp at this⟩
   · rcases List.mem_cons.1 hb with rfl | hb'
     · exact ⟨fun e=>h.1.2.2 a ha' e.symm,fun e=>by have:=hk.1.2 a ha';rw[e] at this;simp at this⟩
     · exact ih h.2 hk.2 a ha' b hb' hab
 have hos1:∀ {r:List Ox},oxOK bs r=true→ ∀o∈r,ov bs o.st=none∧ky bs o.st=none:=by
  intro r;induction r with
  | nil=>intro _ o ho;cases ho
  | cons x r ih=>
   intro hk o ho;simp only[oxOK,Bool.and_eq_true] at hk
   rcases List.mem_cons.1 ho with rfl | ho
   · exact ⟨by simpa using hk.1.1.1,by simpa using hk.1.1.2⟩
   · exact ih hk.2 o ho
 intro a ha;rw[show trL 0 l.length=Array.replicate l.toArray.size false by simp[trL]];have m0:Mid P N Y l σ w bs os F (Array.replicate l.toArray.size false) a w (fun _=>undef) Y:=by
  have hno:∀i,¬Ran (Array.replicate l.toArray.size false) i:=fun i h=>by
   unfold Ran at h;by_cases hi:i<l.length<;>simp[hi] at h
  exact ⟨by simp,ha.defers,ha.size,fun t v h=>ha.get t v (zxq h).1,fun i d h=>absurd h (hno i),fun i d v _ _ h=>ha.get d v h,fun i h=>absurd h (hno i),Ext.refl _ _,hY,fun _ h=>h,hY,
   fun i h=>absurd h (hno i),fun b _ h=>absurd h (hno _),fun o ho=>⟨fun _=>(hoat hos o ho).2,fun h=>absurd h (hno _)⟩,fun o ho=>(hoat hos o ho).1,fun b _ c _ h=>absurd h (hno _)⟩
 refine wpAny_mid (l:=l) hrow hbx hwf (yvz hdl) (fun o ho h=>by rw[(hos1 hox o ho).1] at h;cases h) (fun o ho h=>by rw[(hos1 hox o ho).2] at h;cases h) (hopw hos hox) hsteps ?_ _ _ _ _ _ _ ?_ m0
 · intro listed a w' vs X hall m;have hlen:∀i (o:Oper),l[i]? =some o→Ran listed i:=fun i o h=>hall i (List.getElem?_eq_some_iff.1 h).1;refine hend vs w' m.ext ?_ ?_ ?_ ?_ a ?_
   · have hst:∀o∈os,l[o.st]? ≠none→Ran listed o.st:=fun o _ h=>hall _ (by
      rcases Nat.lt_or_ge o.st l.length with h1 | h1
      · exact h1
      · exact absurd (List.getElem?_eq_none h1) h)
     have key:∀r:List Ox,(∀b∈r,b∈os)→AllOut σ l.toArray vs w' r:=by
      intro r;induction r with
      | nil=>intro _;trivial
      | cons b r ih=>
       intro hr;refine ⟨?_,ih fun c hc=>hr c (List.mem_cons.2 (Or.inr hc))⟩;have hb:=hr b (List.mem_cons.2 (Or.inl rfl));exact (m.outs b hb).2 (hst b hb (hin b hb))
     exact key os (fun _ h=>h)
   · have key:∀(r:List Oper) (k:Nat),(∀(i:Nat) (o:Oper),r[i]? =some o→l[k+i]? =some o)→zyk Y bs F vs w' k r:=by
      intro r;induction r with
      | nil=>intro k _;trivial
      | cons o r ih=>
       intro k hk;refine ⟨?_,ih (k+1) (fun i o' h=>by have:=hk (i+1) o' (by simpa using h);rwa [show k+(i+1)=k+1+i by omega] at this)⟩;split
       · rename_i hb hf
         exact (m.facts k (hlen k o (by simpa using hk 0 o rfl)) hb hf).less m.outer
       · trivial
     exact key l 0 (fun i o h=>by simpa using h)
   · have key:∀r:List Bx,(∀b∈r,b∈bs)→zuz P σ l.toArray vs w w' r:=by
      intro r;induction r with
      | nil=>intro _;trivial
      | cons b r ih=>
       intro hr;refine ⟨?_,ih fun c hc=>hr c (List.mem_cons.2 (Or.inr hc))⟩;have hb:=hr b (List.mem_cons.2 (Or.inl rfl));obtain ⟨w1,w2⟩:=ykq hwf hb;have hst:Ran listed b.st:=by
        unfold va at w1;split at w1
        · rename_i o ho;exact hlen b.st o (by simpa using ho)
        · cases w1
       obtain ⟨g,cs,h1,h2,h20,h3,_,h5⟩:=m.boxes b hb (m.down _ hst _ w1);obtain ⟨v,y,rfl,h6,h7⟩:=h5 hst;exact ⟨g,v,y,h1,h20,h3,h6,h7⟩
     exact key bs (fun _ h=>h)
   · have key:∀r:List Bx,(∀b∈r,b∈bs)→bxOK r=true→yfx vs r:=by
      intro r;induction r with
      | nil=>intro _ _;trivial
      | cons b r ih=>
       intro hr hok;have hok':=hok;simp only[bxOK,Bool.and_eq_true,List.all_eq_true,Bool.not_eq_true'] at hok
       refine ⟨fun c hc=>?_,ih (fun c hc=>hr c (List.mem_cons.2 (Or.inr hc))) hok.2⟩;have hb:=hr b (List.mem_cons.2 (Or.inl rfl));have hc':=hr c (List.mem_cons.2 (Or.inr hc));have hran:∀b∈bs,Ran listed b.at_:=by
        intro b hb;obtain ⟨w1,w2⟩:=ykq hwf hb;have hst:Ran listed b.st:=by
         unfold va at w1;split at w1
         · rename_i o ho;exact hlen b.st o (by simpa using ho)
         · cases w1
        exact m.down _ hst _ w1
       refine m.apart b hb c hc' (hran b hb) (hran c hc') (fun e=>?_);have:=(hok.1 c hc).1;rw[e] at this;simp at this
     exact key bs (fun _ h=>h) hbx
   · refine ⟨m.defers,m.tmps,fun t v h=>?_⟩;rcases ot h with h | h
     · obtain ⟨j,_,hjd,rfl⟩:=zxz h;obtain ⟨o,ho,_⟩:=ybv hjd;exact m.ran j t (hlen j o ho) hjd
     · exact m.kept t v h
 · simp
end
section
variable {P:Program} {N:Nat} {Q:Exit→Act→World→Prop} {σ:Env} {w:World} {l:List Oper}
theorem any_prefix {m:Nat} (hg:gateOK l m=true):∀(f:Nat) (ls:List Bool) (a:Act) (w:World),ls.length=m→ls.count false=f→
 (∀i,Ran ls.toArray i→ ∀j∈va l.toArray i,Ran ls.toArray j)→
 wpAny P .any (l.take m).toArray (Exit.then (fun a w=>wpAny P .any l.toArray Q (l.length-m) (trL m l.length) a w) Q) f ls.toArray a w→
 wpAny P .any l.toArray Q (f+(l.length-m)) (ls++List.replicate (l.length-m) false).toArray a w:=by
 unfold gateOK at hg;simp only[Bool.and_eq_true] at hg
 obtain ⟨⟨⟨hml,hrow⟩,hgd⟩,hcov⟩:=hg;have hml:=Nat.le_of_ble_eq_true hml;have htk:∀i,i<m→(l.take m).toArray[i]? =l.toArray[i]? :=fun i hi=>by simp[List.getElem?_take,hi]
 have hget:∀(ls:List Bool) (i:Nat) (d:Bool),ls.length=m→i<m→(ls++List.replicate (l.length-m) false).toArray.getD i d=ls.toArray.getD i d:=by
  intro ls i d hl hi;simp[Array.getD_eq_getD_getElem?,List.getElem?_append,hl,hi]
 have hget2:∀(ls:List Bool) (i:Nat),ls.length=m→m≤i→(ls++List.replicate (l.length-m) false).toArray.getD i false=false:=by
  intro ls i hl hi;have hni:¬i<m:=by omega
  simp only[Array.getD_eq_getD_getElem?,List.getElem?_toArray,List.getElem?_append,hl,hni,if_false,List.getElem?_replicate]
  split<;>rfl
 have hfull:∀ls:List Bool,ls.length=m→(∀i,i<m→Ran ls.toArray i)→ls.count false=0:=by
  intro ls hl h;refine List.count_eq_zero.2 fun hf=>?_;obtain ⟨i,hi,he⟩:=List.getElem_of_mem hf;have:=h i (by omega);unfold Ran at this;simp[hi,he] at this
 intro f;induction f with
 | zero=>
  intro ls a w hl hc hd h;have hall:ls=List.replicate m true:=by
   refine List.eq_replicate_iff.2 ⟨hl,fun b hb=>?_⟩;cases b with
   | true=>rfl
   | false=>exact absurd hb (List.count_eq_zero.1 hc)
  have h2:=h.2;rw[Nat.zero_add,hall];exact h2
 | succ f ih=>
  intro ls a w hl hc hd h;rw[Nat.succ_add];refine ⟨fun hr=>?_,fun i hi=>?_⟩
  · exfalso
    have hall:∀i,i<m→Ran ls.toArray i:=by
     intro i;induction i using Nat.strongRecOn with
     | _ i ihi=>
      intro him;rcases Classical.em (Ran ls.toArray i) with h' | h'
      · exact h'
      · exfalso
        have:i∈Region.ready .any l.toArray (ls++List.replicate (l.length-m) false).toArray:=by
         have hil:i<l.length:=by omega
         refine mem_ready.2 ⟨?_,l[i],by simp[hil],fun e he hb=>?_⟩
         · rw[hget ls i true hl him];unfold Ran at h';have:i<ls.length:=by omega
           simp[this] at h' ⊢
           exact h'
         · have hlt:=(zgq hrow (i:=i) (o:=l[i]) (by simp[List.getElem?_take,him,hil])).1 e.on (ztx (by simpa using he) hb);have hei:e.on<i:=by omega
           rw[hget ls e.on false hl (by omega)];exact ihi e.on hei (by omega)
        rw[hr] at this;cases this
    have:=hfull ls hl hall;omega
  · obtain ⟨h0,o,ho,hdep⟩:=mem_ready.1 hi;rcases Nat.lt_or_ge i m with him | him
    · have hdl:∀j∈va l.toArray i,Ran ls.toArray j:=by
       intro j hj;have ho':l[i]? =some o:=by simpa using ho
       unfold va at hj;rw[ho] at hj;obtain ⟨e,he,hb,rfl⟩:=zjz hj;have hlt:=(zgq hrow (i:=i) (o:=o) (by simp[List.getElem?_take,him,ho'])).1 e.on (ztx he hb);have:=hdep e (by simpa using he) hb;rwa [hget ls e.on false hl (by omega)] at this
      rw[hget ls i true hl him] at h0;have hi1:i∈Region.ready .any (l.take m).toArray ls.toArray:=by
       refine mem_ready.2 ⟨h0,o,by rw[htk i him];exact ho,fun e he hb=>?_⟩;refine hdl e.on ?_;unfold va;rw[ho];exact ztx (by simpa using he) hb
      have h1:=h.2 i hi1;have hset:((ls++List.replicate (l.length-m) false).toArray.setIfInBounds i true)=(ls.set i true++List.replicate (l.length-m) false).toArray:=by
       apply Array.toList_inj.1
       rw[Array.toList_setIfInBounds];simp[List.set_append,hl,him]
      have hset1:ls.toArray.setIfInBounds i true=(ls.set i true).toArray:=by
       apply Array.toList_inj.1
       rw[Array.toList_setIfInBounds]
      rw[hset1] at h1;rw[hset];have hlsi:ls[i]? =some false:=by
       have hil:i<ls.length:=by omega
       have e:ls[i]=false:=by simpa [hil] using h0
       simp[hil,e]
      have hK:∀a w,wpAny P .any (l.take m).toArray (Exit.then (fun a w=>wpAny P .any l.toArray Q (l.length-m) (trL m l.length) a w) Q) f (ls.set i true).toArray a w→
       wpAny P .any l.toArray Q (f+(l.length-m)) (ls.set i true++List.replicate (l.length-m) false).toArray a w:=by
       intro a w h;refine ih (ls.set i true) a w (by simpa using hl) (by have:=yjv ls i hlsi;omega) ?_ h;have hup:∀j,Ran ls.toArray j→Ran (ls.set i true).toArray j:=by
        intro j hj;unfold Ran at hj ⊢;rw[←hset1];exact getD_set_true hj
       intro j hj k hk;rcases Classical.em (j=i) with rfl | hji
       · exact hup k (hdl k hk)
       · refine hup k (hd j ?_ k hk);unfold Ran at hj ⊢;rw[←hset1,getD_set_ne false (Ne.symm hji)] at hj;exact hj
      unfold wpOp at h1 ⊢;rw[htk i him,ho] at h1;rw[ho];simp only[] at h1 ⊢
      have hy:Region.wanted o (yielded (l.take m).toArray a.tmps)=Region.wanted o (yielded l.toArray a.tmps):=by
       unfold Region.wanted;cases hgo:o.guard with
       | none=>rfl
       | some gw=>
        obtain ⟨g,want⟩:=gw;have hmem:o∈l.take m:=by
         have ho':l[i]? =some o:=by simpa using ho
         exact List.mem_of_getElem? (i:=i) (by simp[List.getElem?_take,him,ho'])
        have:=(List.all_eq_true.1 hgd) o hmem;rw[hgo] at this;have hgm:g<m:=Nat.le_of_ble_eq_true this;simp only[yielded,htk g hgm]
      rw[←hy];split
      · rename_i hw
        rw[if_pos hw] at h1;rcases h1 with h1 | ⟨h1,h2⟩
        · exact .inl (upon_then hK h1)
        · exact .inr ⟨h1,h2⟩
      · rename_i hw
        rw[if_neg hw] at h1;exact hK _ _ h1
    · exfalso
      have hil:i<l.length:=by simpa using (Array.getElem?_eq_some_iff.1 ho).1
      have hdl:∀j∈va l.toArray i,(ls++List.replicate (l.length-m) false).toArray.getD j false=true:=by
       intro j hj;unfold va at hj;rw[ho] at hj;obtain ⟨e,he,hb,rfl⟩:=zjz hj;exact hdep e (by simpa using he) hb
      have hc2:=(List.all_eq_true.1 hcov) (i-m) (List.mem_range.2 (by omega));rw[show m+(i-m)=i by omega,Bool.or_eq_true] at hc2;rcases hc2 with hc2 | hc2
      · obtain ⟨j,hj,hmj⟩:=List.any_eq_true.1 hc2;have:=hdl j hj;rw[hget2 ls j hl (Nat.le_of_ble_eq_true hmj)] at this;cases this
      · have hall:=covers_all (L:=fun j=>(Ran ls.toArray j)) hd m _ hc2 (fun j hj=>by
         have:=hdl j hj;rcases Nat.lt_or_ge j m with h' | h'
         · rwa [hget ls j false hl h'] at this
         · rw[hget2 ls j hl h'] at this;cases this)
        have:=hfull ls hl hall;omega
theorem zck (m:Nat) (hg:gateOK l m=true) (h:AK P N 0 (l.take m) (Exit.then (fun a w=>wpAny P .any l.toArray Q (l.length-m) (trL m l.length) a w) Q) σ w):AK P N 0 l Q σ w:=fun a ha=>by
 have hml:m≤l.length:=by
  unfold gateOK at hg;simp only[Bool.and_eq_true] at hg
  exact Nat.le_of_ble_eq_true hg.1.1.1
 have hlen:(l.take m).length=m:=by simp[hml]
 have h1:=h a ha;have:=any_prefix hg m (List.replicate m false) a w (by simp) (by simp) (fun i hi=>by
  unfold Ran at hi;by_cases h':i<m<;>simp[h'] at hi) (by
   unfold trL at h1;rw[hlen] at h1;simpa [trL] using h1)
 rw[List.replicate_append_replicate] at this;have e:m+(l.length-m)=l.length:=by omega
 rw[e] at this;unfold trL;simpa using this
theorem zov {m:Nat} (h:AK P N m l Q σ w):EW N (Exit.then (fun a w=>wpAny P .any l.toArray Q (l.length-m) (trL m l.length) a w) Q) .normal σ w:=fun a ha=>h a ha
end
section
variable {P:Program} {N:Nat} {ops:Array Oper} {Q:Exit→Act→World→Prop} {σ:Env} {w:World} {ty:TypeId} {pos:String} {af:Array Edge} {dst:Option Nat} {Post:Value→World→Prop}
end
section
variable {P:Program} {N:Nat} {ops:Array Oper} {Q:Exit→Act→World→Prop} {σ:Env} {w:World} {ty:TypeId} {pos:String} {af:Array Edge} {dst:Option Nat} {Post:Value→World→Prop}
theorem yzz {T U:TypeId} {x:Operand} {b:Nat} {q:IntKind} {z:Int} (hd:P.underlying U=some (.int q)) (hs:(P.underlying T).isSome=true) (hx:ev σ x=some (.float .f64 b)) (hz:floatToIntVal .f64 b q=some z) (k:Post (.int q z) w):OW P N ops Q ⟨dst,.convert T U x,ty,pos,af,none⟩ σ w Post:=
 yw (fun ρ ha=>by
  have h:=run_convert_float_int (P:=P) w T U .f64 q b z hs hd hz;simp only[execOp,ha hx,Sem.run_bind,h,Result.andThen_ok,Sem.run_pure]) k
theorem isN_read (b:Nat):(FloatKind.f64.decode b).isNaN=isN b:=by
 show (Ieee.double.read b).isNaN=isN b
 rcases Nat.lt_trichotomy (rg b) 9218868437227405312 with h | h | h
 · rw[zak h,isN,decide_eq_false (by omega)];rfl
 · rw[zrx h,isN,decide_eq_false (by omega)];rfl
 · rw[read_nan h,isN,decide_eq_true h];rfl
structure NRes (r:Nat) (w w':World):Prop where
 isn:isN r=true
 ext:Ext No w w'
 lt:r<18446744073709551616
end
section
variable {P:Program} {N:Nat} {ops:Array Oper} {Q:Exit→Act→World→Prop} {σ:Env} {w:World} {ty:TypeId} {pos:String} {af:Array Edge} {dst:Option Nat} {Post:Value→World→Prop}
end
/-! ### loops -/
inductive Ends {α:Type} (done:α→Bool) (step:α→α):α→α→Prop
 | stop {s:α}:done s=true→Ends done step s s
 | next {s t:α}:done s=false→Ends done step (step s) t→Ends done step s t
noncomputable def until_ {α:Type} (done:α→Bool) (step:α→α) (s:α):α:=@Classical.epsilon α ⟨s⟩ (Ends done step s)
section
variable {P:Program} {Q:Exit→Act→World→Prop} {a:Act} {w:World} {body:Code}
def InScope (P:Program) (body:Code) (Q:Exit→Act→World→Prop):Nat→Exit→Act→World→Prop
 | 0,.goto l,a,w=>findLabel body l=none∧Q (.goto l) a w
 | n+1,.goto l,a,w=>(findLabel body l=none∧Q (.goto l) a w)∨ ∃rest,findLabel body l=some rest∧rest.wp P (InScope P body Q n) a w
 | _,e,a,w=>Q e a w
end
section
variable {P:Program} {N:Nat} {Q:Exit→Act→World→Prop} {σ:Env} {w:World} {body:Code} {n:Nat}
end
section
variable {P:Program} {N:Nat} {ops:Array Oper} {Q:Exit→Act→World→Prop} {σ:Env} {w:World} {ty:TypeId} {pos:String} {af:Array Edge} {dst:Option Nat} {Post:Value→World→Prop}
theorem jz {T T':TypeId} {x y:Operand} {g o:Nat} {cs cs':Array Value} {v:Value} (hs:vf P T 1) (hx:ev σ x=some (.pointer (some ⟨g,o,none⟩))) (hy:ev σ y=some v) (hb:Blk w g T' cs) (hv:v.cells= #[v]) (h1:oe [v]=true) (hle:o<cs.size) (he:cs.setIfInBounds o v=cs')
 (k:∀w',Blk w' g T' cs'→Ext (Mut [some g]) w w'→Post undef w'):OW P N ops Q ⟨dst,.store T x y,ty,pos,af,none⟩ σ w Post:=by
 refine qu hs hx hy hb (by rw[hv];rfl) (by rw[hv];exact h1) (by omega) (fun w' hb' he'=>k w' ?_ he');rw[hv] at hb';rw[←he];exact hb'
end
section
variable {P:Program} {N:Nat} {ops:Array Oper} {Q:Exit→Act→World→Prop} {σ:Env} {w:World} {ty:TypeId} {pos:String} {af:Array Edge} {dst:Option Nat} {Post:Value→World→Prop}
end
section
variable {P:Program} {N:Nat} {ops:Array Oper} {Q:Exit→Act→World→Prop} {σ:Env} {w:World} {ty:TypeId} {pos:String} {af:Array Edge} {dst:Option Nat} {Post:Value→World→Prop}
end
section
variable {P:Program} {N:Nat} {ops:Array Oper} {Q:Exit→Act→World→Prop} {σ:Env} {w:World} {ty:TypeId} {pos:String} {af:Array Edge} {dst:Option Nat} {Post:Value→World→Prop}
theorem yrv:∀(l:List Value) (cs:Array Value) (o j:Nat),(kt cs o l)[j]? =if o≤j∧j<o+l.length∧j<cs.size then l[j-o]? else cs[j]?
 | [],cs,o,j=>by
  simp only[kt,List.length_nil,Nat.add_zero]
  rw[if_neg (by omega)]
 | v::l,cs,o,j=>by
  rw[kt,yrv l];simp only[Array.size_setIfInBounds,List.length_cons]
  by_cases h1:j=o
  · subst h1;rw[if_neg (by omega)];by_cases h2:j<cs.size
    · rw[if_pos ⟨Nat.le_refl _,by omega,h2⟩,Nat.sub_self];simp[h2]
    · rw[if_neg (by omega)];simp[h2]
  · by_cases h2:o+1≤j∧j<o+1+l.length∧j<cs.size
    · rw[if_pos h2,if_pos (by omega),show j-o=(j-(o+1))+1 by omega];simp
    · rw[if_neg h2,if_neg (by omega),Array.getElem?_setIfInBounds_ne (by omega)]
theorem putCells_full (cs:Array Value) (l:List Value) (h:l.length=cs.size):kt cs 0 l=l.toArray:=by
 apply Array.ext_getElem?
 intro j;rw[yrv];by_cases hj:j<cs.size
 · rw[if_pos ⟨Nat.zero_le _,by omega,hj⟩];simp
 · rw[if_neg (by omega),Array.getElem?_eq_none (by omega),List.getElem?_toArray,List.getElem?_eq_none (by omega)]
theorem zm {T T':TypeId} {x y:Operand} {g:Nat} {cs:Array Value} {v:Value} {n:Nat} (hs:vf P T n) (hx:ev σ x=some (.pointer (some ⟨g,0,none⟩))) (hy:ev σ y=some v) (hb:Blk w g T' cs) (hn:v.cells.size=n) (h1:oe v.cells.toList=true) (hle:n=cs.size)
 (k:∀w',Blk w' g T' v.cells→Ext (Mut [some g]) w w'→Post undef w'):OW P N ops Q ⟨dst,.store T x y,ty,pos,af,none⟩ σ w Post:=
 qu hs hx hy hb hn h1 (by omega) (fun w' hb' he=>k w' (by
  rw[putCells_full _ _ (by rw[Array.length_toList];omega)] at hb';simpa using hb') he)
theorem qy {T:TypeId} {d:TypeDesc} {x:Operand} {g o:Nat} {cs:Array Value} {n:Nat} (hd:P.underlying T=some d) (hp:TypeDesc.plain d=false) (hs:vf P T n) (hx:ev σ x=some (.pointer (some ⟨g,o,none⟩))) (hn:cs.size=n)
 (hc:∀j v,cs[j]? =some v→w.cell? ⟨g,o+j,none⟩=some v) (k:Post (.agg cs) w):OW P N ops Q ⟨dst,.load T x,ty,pos,af,none⟩ σ w Post:=
 ow_loadN hd hp hs hx hn (fun j v hj=>by rw[Addr.add_eq];exact hc j v hj) k
end
def lastOK (l:List Oper) (m:Nat):Bool:=Nat.beq (m+1) l.length&&zhv 0 (l.take m) []&&(l.take m).all fun o=>match o.guard with
 | some (g,_)=>Nat.blt g m
 | none=>true
section
variable {P:Program} {N:Nat} {Q:Exit→Act→World→Prop} {σ:Env} {w:World} {l:List Oper}
end
section
variable {P:Program} {N:Nat} {Q:Exit→Act→World→Prop} {σ:Env} {w0:World} {l:List Oper} {F:Nat→Fx} {q:Nat} {Z:Nat→Prop}
def Known1 (ops:Array Oper) (Z:Nat→Prop) (F:Nat→Fx) (w0:World) (vs:Nat→Value) (X:Nat→Prop) (w:World) (i:Nat):Prop:=
 Ext Z w0 w∧(∀k,X k→k<w.heap.size)∧ ∀j∈va ops i,Left X w (F j) (vs j)
theorem Known1.dep {ops:Array Oper} {vs:Nat→Value} {X:Nat→Prop} {w:World} {i:Nat} (K:Known1 ops Z F w0 vs X w i) (j:Nat) (h:memN j (va ops i)=true) (_:True=True) (_:True=True):Left X w (F j) (vs j):=K.2.2 j (gf.1 h)
def Step1 (P:Program) (N:Nat) (ops:Array Oper) (Q:Exit→Act→World→Prop) (σ:Env) (q:Nat) (Z:Nat→Prop) (F:Nat→Fx) (w0:World) (i:Nat) (o:Oper):Prop:=
 ∀vs X w,Known1 ops Z F w0 vs X w i→(Nat.beq i q=true→Ext No w0 w)→OW P N ops Q o (xz σ ops vs i) w (fun v w'=>match Nat.beq i q with
  | true=>Ext Z w w'∧Left No w' (F i) v
  | false=>Below w.heap.size w w'∧Left X w' (F i) v)
def Steps1 (P:Program) (N:Nat) (ops:Array Oper) (Q:Exit→Act→World→Prop) (σ:Env) (q:Nat) (Z:Nat→Prop) (F:Nat→Fx) (w0:World):Nat→List Oper→Prop
 | _,[]=>True
 | i,o::l=>Step1 P N ops Q σ q Z F w0 i o∧Steps1 P N ops Q σ q Z F w0 (i+1) l
theorem steps1_at {ops:Array Oper}:∀ {l:List Oper} {k:Nat},Steps1 P N ops Q σ q Z F w0 k l→ ∀ {i:Nat} {o:Oper},l[i]? =some o→Step1 P N ops Q σ q Z F w0 (k+i) o
 | [],_,_,i,o,h=>by simp at h
 | x::l,k,hs,0,o,h=>by simp only[List.getElem?_cons_zero,Option.some.injEq] at h;subst h;exact hs.1
 | x::l,k,hs,i+1,o,h=>by
  have:=steps1_at hs.2 (i:=i) (o:=o) (by simpa using h);rwa [show k+1+i=k+(i+1) by omega] at this
def Yet (listed:Array Bool) (q:Nat) (Z:Nat→Prop) (k:Nat):Prop:=¬Ran listed q∧Z k
structure Mid1 (N:Nat) (l:List Oper) (σ:Env) (w0:World) (q:Nat) (Z:Nat→Prop) (F:Nat→Fx) (listed:Array Bool) (a:Act) (w:World) (vs:Nat→Value):Prop where
 size:listed.size=l.length
 defers:a.defers= []
 tmps:a.tmps.size=N
 kept:∀t v,lk t (cutE (dstL l) σ)=some v→a.tmps[t]? =some v
 ran:∀i d,Ran listed i→zgz l.toArray i=some d→a.tmps[d]? =some (vs i)
 old:∀i d v,¬Ran listed i→zgz l.toArray i=some d→lk d σ=some v→a.tmps[d]? =some v
 down:∀i,Ran listed i→ ∀j∈va l.toArray i,Ran listed j
 ext:Ext (fun k=>Ran listed q∧Z k) w0 w
 facts:∀i,Ran listed i→Left (Yet listed q Z) w (F i) (vs i)
theorem Mid1.at_ {listed:Array Bool} {a:Act} {w:World} {vs:Nat→Value} (m:Mid1 N l σ w0 q Z F listed a w vs) {i:Nat} (hi:¬Ran listed i) (hd:∀j∈va l.toArray i,Ran listed j):At N (xz σ l.toArray vs i) a:=by
 refine ⟨m.defers,m.tmps,fun t v h=>?_⟩;rcases ot h with h | h
 · obtain ⟨j,hj,hjd,rfl⟩:=zxz h;exact m.ran j t (hd j hj) hjd
 · rcases ot h with h | h
   · obtain ⟨j,_,hjd,hji,hv⟩:=ytk h;exact m.old j t v (fun hr=>hi (m.down j hr i hji)) hjd hv
   · exact m.kept t v h
theorem Mid1.step (hrow:zhv 0 l []=true) {listed:Array Bool} {a:Act} {w w':World} {vs:Nat→Value} (m:Mid1 N l σ w0 q Z F listed a w vs) {i:Nat} {o:Oper} (ho:l[i]? =some o) (hi:¬Ran listed i) (hd:∀j∈va l.toArray i,Ran listed j)
 (hN:∀d,o.dst=some d→d<N) (v:Value) (hext:Ext (fun k=>Ran (listed.setIfInBounds i true) q∧Z k) w0 w')
 (hfacts:∀j,Ran listed j→Left (Yet (listed.setIfInBounds i true) q Z) w' (F j) (vs j)) (hfact:Left (Yet (listed.setIfInBounds i true) q Z) w' (F i) v) :
 Mid1 N l σ w0 q Z F (listed.setIfInBounds i true) (a.put o.dst v) w' (fun j=>if j=i then v else vs j):=by
 have hil:i<listed.size:=by rw[m.size];exact (List.getElem?_eq_some_iff.1 ho).1
 have hne:∀ {j},Ran listed j→j≠i:=fun h e=>hi (e▸h);have hput:∀t,o.dst≠some t→ ∀v',a.tmps[t]? =some v'→(a.put o.dst v).tmps[t]? =some v':=by
  intro t ht v' h;cases hd:o.dst with
  | none=>exact h
  | some d=>
   have:d≠t:=fun e=>ht (by rw[hd,e]);simpa [Act.put,Array.getElem?_setIfInBounds_ne this] using h
 refine ⟨by simpa using m.size,?_,?_,?_,?_,?_,?_,hext,?_⟩
 · cases hd:o.dst<;>exact m.defers
 · cases hd:o.dst
   · exact m.tmps
   · simpa [Act.put] using m.tmps
 · intro t u h;refine hput t (fun e=>?_) u (m.kept t u h);exact (zxq h).2 (mem_dstL (List.mem_of_getElem? ho) e)
 · intro j d hj hjd;rcases (vt hil).1 hj with rfl | hj
   · rw[zsq ho] at hjd;have hlt:=hN d hjd;rw[if_pos rfl,hjd];have:d<a.tmps.size:=by rw[m.tmps];exact hlt
     simp[Act.put,this]
   · rw[if_neg (hne hj)];refine hput d (fun e=>hne hj ?_) _ (m.ran j d hj hjd);exact yvx hrow hjd (by rw[zsq ho];exact e)
 · intro j d u hj hjd hu;have hj':¬Ran listed j:=fun h=>hj ((vt hil).2 (Or.inr h));have hji:j≠i:=fun e=>hj ((vt hil).2 (Or.inl e));refine hput d (fun e=>hji ?_) _ (m.old j d u hj' hjd hu);exact yvx hrow hjd (by rw[zsq ho];exact e)
 · intro j hj k hk;refine (vt hil).2 (Or.inr ?_);rcases (vt hil).1 hj with rfl | hj
   · exact hd k hk
   · exact m.down j hj k hk
 · intro j hj;rcases (vt hil).1 hj with rfl | hj
   · rw[if_pos rfl];exact hfact
   · rw[if_neg (hne hj)];exact hfacts j hj
theorem wpAny_mid1 (hrow:zhv 0 l []=true) (hdl:∀(i:Nat) (o:Oper) (d:Nat),l[i]? =some o→o.dst=some d→d<N) (hZ:∀k,Z k→k<w0.heap.size)
 (hsteps:Steps1 P N l.toArray Q σ q Z F w0 0 l) (hend:∀listed a w vs,(∀i,i<l.length→Ran listed i)→Mid1 N l σ w0 q Z F listed a w vs→Q .normal a w) :
 ∀(fuel:Nat) (listed:Array Bool) (a:Act) (w:World) (vs:Nat→Value),listed.toList.count false≤fuel→Mid1 N l σ w0 q Z F listed a w vs→wpAny P .any l.toArray Q fuel listed a w:=by
 have hall:∀(listed:Array Bool) (a:Act) (w:World) (vs:Nat→Value),Mid1 N l σ w0 q Z F listed a w vs→Region.ready .any l.toArray listed= []→Q .normal a w:=by
  intro listed a w vs m hr;refine hend listed a w vs (fun i hi=>?_) m;induction i using Nat.strongRecOn with
  | _ i ih=>
   rcases Classical.em (Ran listed i) with h | h
   · exact h
   · exfalso
     have hil:i<listed.size:=by rw[m.size];exact hi
     have:i∈Region.ready .any l.toArray listed:=by
      refine mem_ready.2 ⟨?_,l[i],by simp[hi],fun e he hb=>?_⟩
      · unfold Ran at h;simp[hil] at h ⊢
        exact h
      · have hlt:=(zgq hrow (i:=i) (o:=l[i]) (by simp[hi])).1 e.on (ztx (by simpa using he) hb);exact ih e.on (by omega) (by omega)
     rw[hr] at this;cases this
 intro fuel;induction fuel with
 | zero=>
  intro listed a w vs hc m;have hr:Region.ready .any l.toArray listed= []:=by
   apply List.eq_nil_iff_forall_not_mem.2
   intro j hj;have h0:=(mem_ready.1 hj).1;have hlt:=(qgz h0).2;have:false∈listed.toList:=by
    have e:listed[j]=false:=by simpa [hlt] using h0
    rw[←e];exact Array.getElem_mem_toList hlt
   have:=List.count_pos_iff.2 this;omega
  exact ⟨hr,hall listed a w vs m hr⟩
 | succ fuel ih=>
  intro listed a w vs hc m;refine ⟨hall listed a w vs m,fun i hi=>?_⟩;obtain ⟨h0,o,ho,hdep⟩:=mem_ready.1 hi;have ho':l[i]? =some o:=by simpa using ho
  obtain ⟨hni,hil⟩:=qgz h0;have hd:∀j∈va l.toArray i,Ran listed j:=by
   intro j hj;rw[opDeps_at ho'] at hj;obtain ⟨e,he,hb,rfl⟩:=zjz hj;exact hdep e (by simpa using he) hb
  have hcount:(listed.setIfInBounds i true).toList.count false≤fuel:=by
   have hf:listed.toList[i]? =some false:=by
    have e:listed[i]=false:=by simpa [hil] using h0
    simp[hil,e]
   have:=yjv listed.toList i hf;rw[Array.toList_setIfInBounds];omega
  have hat:=m.at_ hni hd;have hs:=steps1_at hsteps ho';rw[Nat.zero_add] at hs;have hless:∀k,Yet (listed.setIfInBounds i true) q Z k→Yet listed q Z k:=fun k hk=>⟨fun h=>hk.1 ((vt hil).2 (Or.inr h)),hk.2⟩;have hw:=hs vs (Yet listed q Z) w ⟨m.ext.mono fun k hk _=>hk.2,fun k hk=>Nat.lt_of_lt_of_le (hZ k hk.2) m.ext.size,fun j hj=>m.facts j (hd j hj)⟩ (fun he=>by
   have he:=Nat.eq_of_beq_eq_true he;subst he;exact m.ext.mono fun k hk _=>absurd hk.1 hni) a hat
  have main:∀v w',(match Nat.beq i q with
   | true=>Ext Z w w'∧Left No w' (F i) v
   | false=>Below w.heap.size w w'∧Left (Yet listed q Z) w' (F i) v)→wpAny P .any l.toArray Q fuel (listed.setIfInBounds i true) (a.put o.dst v) w':=by
   intro v w' hp;split at hp
   · rename_i he
     have he:=Nat.eq_of_beq_eq_true he;subst he;have hno:∀k,Yet (listed.setIfInBounds i true) i Z k→No k:=fun k hk=>hk.1 ((vt hil).2 (Or.inl rfl));refine ih _ _ _ _ hcount (m.step hrow ho' hni hd (fun d hd=>hdl i o d ho' hd) v ((m.ext.mono (Y:=fun k=>Ran (listed.setIfInBounds i true) i∧Z k) fun k hk _=>absurd hk.1 hni).step hp.1 fun k hk=>Or.inl ⟨(vt hil).2 (Or.inl rfl),hk⟩) (fun j hj=>?_) (hp.2.less hno));exact ((m.facts j hj).on (hp.1.mono fun k hk _=>⟨hni,hk⟩)).less hless
   · refine ih _ _ _ _ hcount (m.step hrow ho' hni hd (fun d hd=>hdl i o d ho' hd) v ((m.ext.mono (Y:=fun k=>Ran (listed.setIfInBounds i true) q∧Z k) fun k hk _=>⟨(vt hil).2 (Or.inr hk.1),hk.2⟩).trans (Ext.of_below hp.1 _)) (fun j hj=>?_) (hp.2.less hless));exact ((m.facts j hj).on (Ext.of_below hp.1 _)).less hless
  unfold wpOp;rw[ho];simp only[]
  split
  · rename_i hwn
    rw[if_pos hwn] at hw;left
    refine Oper.wp_mono ?_ hw;rintro a' w' ⟨v,rfl,hp⟩;exact main v w' hp
  · rename_i hwn
    rw[if_neg hwn] at hw;exact main _ _ hw
theorem yeq (q:Nat) (Z:Nat→Prop) (hZ:∀k,Z k→k<w0.heap.size) (F:Nat→Fx) (hok:(zhv 0 l []&&dstOK N l)=true)
 (hsteps:Steps1 P N l.toArray Q σ q Z F w0 0 l)
 (hend:∀vs w',Ext Z w0 w'→True→zyk No [] F vs w' 0 l→True→True→EW N Q .normal (envEnd σ l vs) w'):AK P N 0 l Q σ w0:=by
 simp only[Bool.and_eq_true] at hok
 obtain ⟨hrow,hdl⟩:=hok;intro a ha;rw[show trL 0 l.length=Array.replicate l.toArray.size false by simp[trL]];have hno:∀i,¬Ran (Array.replicate l.toArray.size false) i:=fun i h=>by
  unfold Ran at h;by_cases hi:i<l.length<;>simp[hi] at h
 have m0:Mid1 N l σ w0 q Z F (Array.replicate l.toArray.size false) a w0 (fun _=>undef):=
  ⟨by simp,ha.defers,ha.size,fun t v h=>ha.get t v (zxq h).1,fun i d h=>absurd h (hno i),fun i d v _ _ h=>ha.get d v h,fun i h=>absurd h (hno i),Ext.refl _ _,fun i h=>absurd h (hno i)⟩
 refine wpAny_mid1 (l:=l) hrow (yvz hdl) hZ hsteps ?_ _ _ _ _ _ ?_ m0
 · intro listed a w' vs hall m;have hlen:∀i (o:Oper),l[i]? =some o→Ran listed i:=fun i o h=>hall i (List.getElem?_eq_some_iff.1 h).1;refine hend vs w' (m.ext.mono fun k hk _=>hk.2) trivial ?_ trivial trivial a ?_
   · have key:∀(r:List Oper) (k:Nat),(∀(i:Nat) (o:Oper),r[i]? =some o→l[k+i]? =some o)→zyk No [] F vs w' k r:=by
      intro r;induction r with
      | nil=>intro k _;trivial
      | cons o r ih=>
       intro k hk;exact ⟨(m.facts k (hlen k o (by simpa using hk 0 o rfl))).no,ih (k+1) (fun i o' h=>by have:=hk (i+1) o' (by simpa using h);rwa [show k+(i+1)=k+1+i by omega] at this)⟩
     exact key l 0 (fun i o h=>by simpa using h)
   · refine ⟨m.defers,m.tmps,fun t v h=>?_⟩;rcases ot h with h | h
     · obtain ⟨j,_,hjd,rfl⟩:=zxz h;obtain ⟨o,ho,_⟩:=ybv hjd;exact m.ran j t (hlen j o ho) hjd
     · exact m.kept t v h
 · simp
end
theorem yj {g k:Nat} (h:Mut [some g] k):k=g:=by
 rcases h with h | h
 · exact Option.some.inj h
 · exact h.elim
theorem cell_z {a b:World} {Z:Nat→Prop} {g o:Nat} {v:Value} (h:Ext Z a.drew b) (hz:¬Z g) (hc:a.cell? ⟨g,o,none⟩=some v):b.cell? ⟨g,o,none⟩=some v:=
 (((Ext.refl Z _).drew.trans h).cell (World.block_lt_of_cell? _ _ hc) hz).trans hc
theorem kq {a b:World} {ad:Addr} {v:Value} (h:Ext No a.drew b) (hc:a.cell? ad=some v):b.cell? ad=some v:=(((Ext.refl No _).drew.trans h).cell (World.block_lt_of_cell? _ _ hc) (fun hx=>hx.elim)).trans hc
theorem yh {a b:World} {g:Nat} {t:TypeId} {cs:Array Value} (h:Ext No a.drew b) (hb:Blk a g t cs):Blk b g t cs:=hb.ext ((Ext.refl No _).drew.trans h) (fun h=>h.elim)
theorem Ext.late {a b:Nat} {w1 w2 w3:World} (h:Ext (fun q=>a≤q) w1 w2) (k:Ext (fun q=>b≤q) w2 w3) (hab:a≤b):Ext (fun q=>a≤q) w1 w3:=h.step k fun q hq=>Or.inl (show a≤q by have hq:b≤q:=hq;omega)
theorem Ext.noL (a:Nat) {w1 w2:World} (h:Ext No w1 w2):Ext (fun q=>a≤q) w1 w2:=h.mono fun _ h _=>h.elim
theorem jg {a b:World} {Z:Nat→Prop} {g:Nat} {t:TypeId} {cs:Array Value} (h:Ext Z a.drew b) (hz:¬Z g) (hb:Blk a g t cs):Blk b g t cs:=hb.ext ((Ext.refl Z _).drew.trans h) hz
section
variable {w w':World} {X:Nat→Prop} {base base' n n' s s':Nat} {e e':TypeId} {v v':Value} {xs xs':List Value}
theorem mut_one {a:Option Nat} {k:Nat} (h:Mut [a] k):a=some k:=by
 rcases h with h | h
 · exact h.symm
 · exact h.elim
theorem owns_row {g:Nat} (h:w.ownsRow base e s v n xs) (hg:v.ownBlock=some g):∃cur,Blk w g e cur:=by
 rcases h.2 with ⟨rfl,_⟩ | ⟨g',cap,cur,rfl,_,hh,_⟩
 · cases hg
 · obtain rfl:g'=g:=by injection hg
   exact ⟨cur,hh⟩
theorem qr (h:w.ownsRow base e s v n xs) (k:Ext X w w') (hn:∀g,v.ownBlock=some g→ ¬X g):w'.ownsRow base e s v n xs:=by
 rcases h.2 with h0 | ⟨g,cap,cur,rfl,hb,hh,r⟩
 · exact ⟨h.1,Or.inl h0⟩
 · exact ⟨h.1,Or.inr ⟨g,cap,cur,rfl,hb,Blk.ext (show Blk w g e cur from hh) k (hn g rfl),r⟩⟩
theorem blk_type {g:Nat} {t t':TypeId} {cs cs':Array Value} (h:Blk w g t cs) (h':Blk w g t' cs'):t=t':=by
 unfold Blk at h h';rw[h] at h';injection h' with h'
 injection h' with h1 h2 h3
theorem zek {g:Nat} {t:TypeId} {cs:Array Value} (h:Blk w g t cs) (h':w.ownsRow base' e' s' v' n' xs') (hne:t≠e') (k:Ext (Mut [v'.ownBlock]) w w'):Blk w' g t cs:=
 h.ext k fun hx=>by
  obtain ⟨c2,h2⟩:=owns_row h' (mut_one hx);exact hne (blk_type h h2)
theorem zlv {g:Nat} {t:TypeId} {cs:Array Value} (h:w.ownsRow base e s v n xs) (h':Blk w g t cs) (hne:e≠t) (k:Ext (Mut [some g]) w w'):w'.ownsRow base e s v n xs:=
 qr h k fun g' hg hx=>by
  obtain ⟨c1,h1⟩:=owns_row h hg;obtain rfl:g'=g:=yj hx;exact hne (blk_type h1 h')
end
section
variable {P:Program} {N:Nat} {ops:Array Oper} {Q:Exit→Act→World→Prop} {σ:Env} {w:World} {ty:TypeId} {pos:String} {af:Array Edge} {dst:Option Nat} {Post:Value→World→Prop}
theorem zmq {T e:TypeId} {x y:Operand} {z:Value} {size bytes base n n' B m c:Nat} {v:Value} {xs news xs':List Value} {A:Option Addr} (hd:P.underlying T=some (.slice e)) (hi:yev P e z size bytes) (hzs:z.cells.size=size) (hsz:0<size)
 (hx:ev σ x=some v) (hown:w.ownsRow base e size v n xs) (hy:ev σ y=some (.slice A m c)) (hr:Reads w B size A m news) (h1:∀u∈news,u.oneCell'=true) (hn:n+m=n') (hxs:xs++news=xs') (h63:n'≤maxLen) (hbytes:n'*bytes≤140737488355328) (hbase:base≤w.heap.size)
 (k:∀A' c' w',w'.ownsRow base e size (.slice A' n' c') n' xs'→Ext (Mut [v.ownBlock]) w w'→(∀k,(Value.slice A' n' c').ownBlock=some k→v.ownBlock=some k∨w.heap.size≤k)→Post (.slice A' n' c') w'):OW P N ops Q ⟨dst,.call ⟨.builtin .append,#[x,y],#[T,T]⟩,ty,pos,af,none⟩ σ w Post:=by
 subst hn hxs;refine ow_append hd hi hzs hsz hx hown hy hr h1 h63 hbytes hbase fun v' w' g1 g2 g3=>?_;obtain ⟨A',c',rfl⟩:=owns_shape g1;exact k A' c' w' g1 g2 g3
end
theorem blk_blk {w w':World} {g g':Nat} {t t':TypeId} {cs cs':Array Value} (h:Blk w g t cs) (h':Blk w g' t' cs') (hne:t≠t') (k:Ext (Mut [some g']) w w'):Blk w' g t cs:=
 h.ext k fun hx=>by
  obtain rfl:g=g':=yj hx;exact hne (blk_type h h')
theorem own_ge {w:World} {b n s:Nat} {e:TypeId} {v:Value} {xs:List Value} (h:w.ownsRow b e s v n xs):∀q,Mut [v.ownBlock] q→b≤q:=fun q hq=>qhx h q (mut_one hq)
section
variable {P:Program} {N:Nat} {ops:Array Oper} {Q:Exit→Act→World→Prop} {σ:Env} {w:World} {ty:TypeId} {pos:String} {af:Array Edge} {dst:Option Nat} {Post:Value→World→Prop}
theorem zmx {T e:TypeId} {x y:Operand} {g base n c s o:Nat} {v:Value} {xs xs':List Value} (hs:vf P T 1) (hx:ev σ x=some (.pointer (some ⟨g,o,none⟩))) (hy:ev σ y=some v) (ho:w.ownsRow base e s (.slice (some ⟨g,0,none⟩) n c) n xs) (hj:o<n*s) (hv:v.cells= #[v]) (h1:oe [v]=true) (he:xs.set o v=xs')
 (k:∀w',w'.ownsRow base e s (.slice (some ⟨g,0,none⟩) n c) n xs'→Ext (Mut [some g]) w w'→Post undef w'):OW P N ops Q ⟨dst,.store T x y,ty,pos,af,none⟩ σ w Post:=by
 subst he;rcases ho.2 with ⟨h0,_⟩ | ⟨g',cap,cur,hv',hb,hh,hn,hm,hsz,ht⟩
 · cases h0
 · cases hv'
   have hcs:o<cur.size:=by
    have h2:=congrArg List.length ht;rw[List.length_take,ho.1,Array.length_toList] at h2;omega
   refine jz (cs':=cur.setIfInBounds o v) hs hx hy (show Blk w g e cur from hh) hv h1 hcs rfl fun w' hb' he'=>k w' ⟨by rw[List.length_set];exact ho.1,Or.inr ⟨g,c,_,rfl,hb,hb',hn,hm,by rw[Array.size_setIfInBounds];exact hsz,?_⟩⟩ he';rw[Array.toList_setIfInBounds,List.take_set,ht]
end
theorem yyk {w:World} {lo s n c:Nat} {e:TypeId} {A:Option Addr} {xs:List Value} (h:w.ownsRow lo e s (.slice A n c) n xs) (h0:0<n):∃g cur,A=some ⟨g,0,none⟩∧Blk w g e cur∧n*s≤cur.size∧lo≤g∧cur.toList.take (n*s)=xs:=by
 rcases h.2 with ⟨_,rfl⟩ | ⟨g,cap,cur,hv,hg,hh,hn,hm,hsz,ht⟩
 · omega
 · cases hv
   refine ⟨g,cur,rfl,hh,?_,hg,ht⟩;have h1:=congrArg List.length ht;rw[List.length_take,h.1,Array.length_toList] at h1;omega
def CellsA (w:World) (g o:Nat) (cs:List Value):Prop:=∀j v,cs[j]? =some v→w.cell? ⟨g,o+j,none⟩=some v
def RowS {α:Type} (n:Nat) (w:World) (s:Nat) (R:World→Nat→Nat→α→Prop) (A:Option Addr) (xs:List α):Prop:=
 xs≠ []→ ∃g o,A=some ⟨g,o,none⟩∧g<n∧ ∀j x,xs[j]? =some x→R w g (o+j*s) x
def Low (n:Nat) (X:Nat→Prop) (w w':World):Prop:=Ext X w w'∧ ∀k,X k→n≤k
theorem Low.cell {n:Nat} {X:Nat→Prop} {w w':World} (h:Low n X w w') {g o:Nat} {v:Value} (hg:g<n) (hc:w.cell? ⟨g,o,none⟩=some v):w'.cell? ⟨g,o,none⟩=some v:=
 (h.1.cell (World.block_lt_of_cell? w _ hc) (fun hx=>by have h1:n≤g:=h.2 _ hx;omega)).trans hc
theorem Low.cells {n:Nat} {X:Nat→Prop} {w w':World} (h:Low n X w w') {g o:Nat} {cs:List Value} (hg:g<n) (hc:CellsA w g o cs):CellsA w' g o cs:=fun j v hj=>h.cell hg (hc j v hj)
theorem RowS.low {α:Type} {n s:Nat} {w w':World} {R:World→Nat→Nat→α→Prop} {A:Option Addr} {xs:List α} (h:RowS n w s R A xs) (hR:∀g o x,g<n→R w g o x→R w' g o x):RowS n w' s R A xs:=fun h0=>by
 obtain ⟨g,o,e,hg,hc⟩:=h h0;exact ⟨g,o,e,hg,fun j x hj=>hR _ _ _ hg (hc j x hj)⟩
theorem RowS.at {α:Type} {n s:Nat} {w:World} {R:World→Nat→Nat→α→Prop} {A:Option Addr} {xs:List α} (h:RowS n w s R A xs) {j:Nat} {x:α} (hj:xs[j]? =some x):∃g o,A=some ⟨g,o,none⟩∧g<n∧R w g (o+j*s) x:=by
 obtain ⟨g,o,e,hg,hc⟩:=h (fun e=>by rw[e] at hj;simp at hj);exact ⟨g,o,e,hg,hc j x hj⟩
def I64 (x:Int):Prop:=-9223372036854775808≤x∧x≤9223372036854775807
structure IntsA (n:Nat) (w:World) (A:Option Addr) (xs:List Int):Prop where
 len:8*xs.length≤140737488355000
 in_:∀x∈xs,I64 x
 row:RowS n w 1 (fun w g o x=>w.cell? ⟨g,o,none⟩=some (.int .i64 x)) A xs
section
variable {n:Nat} {X:Nat→Prop} {w w':World} {A:Option Addr}
theorem IntsA.low {xs:List Int} (h:IntsA n w A xs) (k:Low n X w w'):IntsA n w' A xs:=⟨h.len,h.in_,h.row.low fun _ _ _ hg hc=>k.cell hg hc⟩
theorem RowS.up {α:Type} {s m:Nat} {R R':World→Nat→Nat→α→Prop} {xs:List α} (h:RowS n w s R A xs) (hm:n≤m) (hR:∀g o x,R w g o x→R' w g o x):RowS m w s R' A xs:=fun h0=>by
 obtain ⟨g,o,e,hg,hc⟩:=h h0;exact ⟨g,o,e,by omega,fun j x hj=>hR _ _ _ (hc j x hj)⟩
theorem IntsA.up {m:Nat} {xs:List Int} (h:IntsA n w A xs) (hm:n≤m):IntsA m w A xs:=⟨h.len,h.in_,h.row.up hm fun _ _ _ hc=>hc⟩
theorem IntsA.cell {xs:List Int} (h:IntsA n w A xs) {j:Nat} {x:Int} (hj:xs[j]? =some x):∃g o,A=some ⟨g,o,none⟩∧g<n∧w.cell? ⟨g,o+j,none⟩=some (.int .i64 x):=by
 obtain ⟨g,o,e,hg,hc⟩:=h.row.at hj;exact ⟨g,o,e,hg,by rwa [Nat.mul_one] at hc⟩
end
def U64 (x:Nat):Prop:=x<18446744073709551616
structure WordsA (n:Nat) (w:World) (A:Option Addr) (W:List Nat):Prop where
 len:8*W.length≤140737488355000
 in_:∀x∈W,U64 x
 row:RowS n w 1 (fun w g o x=>w.cell? ⟨g,o,none⟩=some (.int .u64 ((x:Nat):Int))) A W
def ym (W:List Nat):List Value:=W.map fun x:Nat=>Value.int .u64 (x:Int)
section
variable {n:Nat} {X:Nat→Prop} {w w':World} {A:Option Addr} {W:List Nat}
theorem WordsA.low (h:WordsA n w A W) (k:Low n X w w'):WordsA n w' A W:=⟨h.len,h.in_,h.row.low fun _ _ _ hg hc=>k.cell hg hc⟩
theorem WordsA.no (h:WordsA n w A W) (k:Ext No w w'):WordsA n w' A W:=h.low (X:=No) ⟨k,fun _ h=>h.elim⟩
theorem WordsA.up {m:Nat} (h:WordsA n w A W) (hm:n≤m):WordsA m w A W:=⟨h.len,h.in_,h.row.up hm fun _ _ _ hc=>hc⟩
theorem WordsA.cell (h:WordsA n w A W) {j x:Nat} (hj:W[j]? =some x):∃g o,A=some ⟨g,o,none⟩∧g<n∧w.cell? ⟨g,o+j,none⟩=some (.int .u64 ((x:Nat):Int)):=by
 obtain ⟨g,o,e,hg,hc⟩:=h.row.at hj;exact ⟨g,o,e,hg,by rwa [Nat.mul_one] at hc⟩
theorem WordsA.at (h:WordsA n w A W) {j:Nat} (hj:j<W.length):∃g o,A=some ⟨g,o,none⟩∧g<n∧w.cell? ⟨g,o+j,none⟩=some (.int .u64 ((wat W j:Nat):Int)):=h.cell (ke hj)
theorem zax (h:∀x∈W,U64 x) (j:Nat):U64 (wat W j):=by
 unfold wat;rw[List.getD_eq_getElem?_getD];cases hj:W[j]? with
 | none=>exact (by decide:0<18446744073709551616)
 | some x=>exact h x (List.mem_of_getElem? hj)
theorem kk:(ym W).length=W.length:=by unfold ym;rw[List.length_map]
theorem ynx:∀u∈ym W,u.oneCell'=true:=fun u hu=>by
 obtain ⟨x,_,rfl⟩:=List.mem_map.1 hu;rfl
theorem yqz {g:Nat} (hb:Blk w g 27 (ym W).toArray) (hg:g<n) (hl:8*W.length≤140737488355000) (hi:∀x∈W,U64 x):WordsA n w (some ⟨g,0,none⟩) W:=
 ⟨hl,hi,fun _=>⟨g,0,rfl,hg,fun j x hx=>by
  show w.cell? ⟨g,0+j*1,none⟩=_
  rw[hb.cell,List.getElem?_toArray,Nat.zero_add,Nat.mul_one];unfold ym;rw[List.getElem?_map,hx];rfl⟩⟩
theorem zpz {lo c:Nat} (h:w.ownsRow lo 27 1 (.slice A W.length c) W.length (ym W)) (hl:8*W.length≤140737488355000) (hi:∀x∈W,U64 x):WordsA w.heap.size w A W:=
 ⟨hl,hi,fun h0=>by
  obtain ⟨g,hA,_,hg,hc⟩:=zvv h (List.length_pos_iff.2 h0);refine ⟨g,0,hA,hg,fun j x hx=>?_⟩;rw[Nat.zero_add,Nat.mul_one];refine hc j _ ?_;unfold ym;rw[List.getElem?_map,hx];rfl⟩
theorem WordsA.nil (n:Nat) (w:World) (A:Option Addr):WordsA n w A []:=⟨by decide,fun x h=>(by cases h),fun h=>absurd rfl h⟩
theorem WordsA.reads (h:WordsA n w A W) {B:Nat} (hB:n≤B):Reads w B 1 A W.length (ym W):=by
 refine ⟨by rw[kk];omega,fun h0=>?_⟩;obtain ⟨g,o,e,hg,hc⟩:=h.row (fun e=>by rw[e] at h0;simp[ym] at h0);refine ⟨_,e,by show g<B;omega,fun j u hj=>?_⟩;unfold ym at hj;rw[List.getElem?_map,Option.map_eq_some_iff] at hj;obtain ⟨x,hx,rfl⟩:=hj;have h9:=hc j x hx;rw[Nat.mul_one] at h9;rw[Lib.add_plain];exact h9
end
theorem qik (n k:Nat):BitVec.ofInt k (n:Int)=BitVec.ofNat k n:=by
 apply BitVec.eq_of_toNat_eq
 simp
theorem zev {x y k:Nat} (hx:x<18446744073709551616) (hk:k<64) (hy:y=2^k-1):IntKind.u64.wrap (BitVec.ofInt IntKind.u64.bits (x:Int) &&& BitVec.ofInt IntKind.u64.bits (y:Int)).toNat=((x%2^k:Nat):Int):=by
 have hp:2^k<2^64:=Nat.pow_lt_pow_right (by decide) hk;have hp0:0<2^k:=Nat.pow_pos (by decide);have e:(BitVec.ofInt IntKind.u64.bits (x:Int) &&& BitVec.ofInt IntKind.u64.bits (y:Int)).toNat=x%2^k:=by
  show (BitVec.ofInt 64 (x:Int) &&& BitVec.ofInt 64 (y:Int)).toNat=x%2^k
  have h64:(18446744073709551616:Nat)=2^64:=rfl;rw[h64] at hx;rw[qik,qik,BitVec.toNat_and,BitVec.toNat_ofNat,BitVec.toNat_ofNat,Nat.mod_eq_of_lt hx,Nat.mod_eq_of_lt (by rw[hy];omega),hy,Nat.and_two_pow_sub_one_eq_mod]
 rw[e];have h1:x%2^k≤x:=Nat.mod_le _ _;obtain ⟨m,hm⟩:∃m,m=x%2^k:=⟨_,rfl⟩;rw[←hm] at h1 ⊢;exact wrap_u64 (by omega)
theorem or_maskO {x y k:Nat} (hx:x<18446744073709551616) (hy:y<2^k) (hk:k≤64) (h0:x%2^k=0):IntKind.u64.wrap (BitVec.ofInt IntKind.u64.bits (x:Int) ||| BitVec.ofInt IntKind.u64.bits (y:Int)).toNat=((x+y:Nat):Int):=by
 have hp:2^k≤2^64:=Nat.pow_le_pow_right (by decide) hk;have h64:(18446744073709551616:Nat)=2^64:=rfl;have hxy:x+y<2^64:=by
  rw[h64] at hx;have hd:2^64%2^k=0:=Nat.mod_eq_zero_of_dvd (Nat.pow_dvd_pow 2 hk);have h1:=Nat.div_add_mod x (2^k);have h2:=Nat.div_add_mod (2^64) (2^k);rw[h0,Nat.add_zero] at h1;rw[hd,Nat.add_zero] at h2;have h3:x/2^k<2^64/2^k:=by
   apply Nat.lt_of_mul_lt_mul_left (a:=2^k)
   omega
  have h4:2^k*(x/2^k+1)≤2^k*(2^64/2^k):=Nat.mul_le_mul_left _ h3;rw[Nat.mul_add,Nat.mul_one] at h4;omega
 have hor:x ||| y=x+y:=by
  have h1:x=2^k*(x/2^k):=by have:=Nat.div_add_mod x (2^k);omega
  rw[h1,Nat.two_pow_add_eq_or_of_lt hy]
 have e:(BitVec.ofInt IntKind.u64.bits (x:Int) ||| BitVec.ofInt IntKind.u64.bits (y:Int)).toNat=x+y:=by
  show (BitVec.ofInt 64 (x:Int) ||| BitVec.ofInt 64 (y:Int)).toNat=x+y
  rw[h64] at hx;rw[qik,qik,BitVec.toNat_or,BitVec.toNat_ofNat,BitVec.toNat_ofNat,Nat.mod_eq_of_lt hx,Nat.mod_eq_of_lt (by omega),hor]
 rw[e];rw[←h64] at hxy;exact wrap_u64 (by omega)
theorem ylq {x k:Nat} (hk:k<64):((x:Int).fdiv (2^(min ((k:Nat):Int).toNat IntKind.u64.bits)):Int)=((x/2^k:Nat):Int):=by
 have e:min ((k:Nat):Int).toNat IntKind.u64.bits=k:=by
  show min k 64=k
  omega
 rw[e,Int.fdiv_eq_ediv_of_nonneg _ (by exact Int.le_of_lt (Int.pow_pos (by decide)))];simp
theorem shl_O {x k:Nat} (hk:k<64) (h:x*2^k<18446744073709551616):IntKind.u64.wrap ((x:Int)*2^(min ((k:Nat):Int).toNat IntKind.u64.bits))=((x*2^k:Nat):Int):=by
 have e:min ((k:Nat):Int).toNat IntKind.u64.bits=k:=by
  show min k 64=k
  omega
 rw[e];have e2:(x:Int)*2^k=((x*2^k:Nat):Int):=by simp
 rw[e2];obtain ⟨m,hm⟩:∃m,m=x*2^k:=⟨_,rfl⟩;rw[←hm] at h ⊢;exact wrap_u64 (by omega)
theorem ydx {w:Nat} (h:w<18446744073709551616) (h1:w%4=1):(IntKind.i64.wrap (w:Int)).fdiv 4=zzv w:=by
 have hw:IntKind.i64.wrap (w:Int)=if w<9223372036854775808 then (w:Int) else (w:Int)-18446744073709551616:=by
  unfold IntKind.wrap;simp only[IntKind.bits,IntKind.signed,Bool.true_and]
  split<;>split<;>simp_all<;>omega
 rw[hw,Int.fdiv_eq_ediv_of_nonneg _ (by decide)];unfold zzv;split<;>split<;>omega
end Go.Proofs.YtebjkmjfcijebaaGreat
namespace Go.Proofs.YtebjkmjfcijebaaGreat
open Go.RowKit
set_option maxHeartbeats 20000000
attribute [local irreducible] OW RS CW EW
theorem wkind_3 {w:Nat} (h:w%4=3):zw w=3:=by unfold zw;rw[if_neg (by omega),if_neg (by omega),if_neg (by omega)]
theorem qev {w:Nat} (h:w%4=2):zw w=if w<18 then 2 else 3:=by unfold zw;rw[if_neg (by omega),if_neg (by omega),if_pos h]
theorem zuk {w:Nat} (h:w%4=0):zw w=if 1≤w/4∧w/4<1048576 then 0 else 3:=by unfold zw;rw[if_pos h]
theorem ziq {w:Nat} (h:w%4=1):zw w=if zzv w≤999999999999999999∧ -999999999999999999≤zzv w then 1 else 3:=by unfold zw;rw[if_neg (by omega),if_pos h]
theorem quo_O {x k:Nat} (hx:x<18446744073709551616):IntKind.u64.wrap (((x:Nat):Int).tdiv ((k:Nat):Int))=((x/k:Nat):Int):=by
 have e:((x:Nat):Int).tdiv ((k:Nat):Int)=((x/k:Nat):Int):=rfl;rw[e];have:=Nat.div_le_self x k;obtain ⟨m,hm⟩:∃m,m=x/k:=⟨_,rfl⟩;rw[←hm] at this ⊢;exact wrap_u64 (by omega)
theorem sub0_O {x:Nat} (h0:0<x) (hx:x<18446744073709551616):IntKind.u64.wrap (0-((x:Nat):Int))=((18446744073709551616-x:Nat):Int):=by
 unfold IntKind.wrap;simp only[IntKind.bits,IntKind.signed,Bool.false_and,Bool.false_eq_true,if_false]
 omega
theorem wnum_big {w:Nat} (h:9223372036854775808<w):zzv w= -(((18446744073709551616-w+1)/4:Nat):Int):=if_pos h
theorem zkv {w:Nat} (h:¬9223372036854775808<w):zzv w=((w/4:Nat):Int):=if_neg h
section
variable (W:World) (w:Nat) (hw:U64 w)
include hw
theorem ji:Calls Tryz.prog 30 #[.int .u64 ((w:Nat):Int)] W fun e w'=>e= .returned (.int .i64 ((zw w:Nat):Int))∧Below W.heap.size W w':=by
 have hw:w<18446744073709551616:=hw;refine zh Tryz.func30 rfl Tryz.ntmps30 rfl (qa ?_);refine za rfl (kw rfl rfl (zev (y:=3) (k:=2) hw (by decide) rfl) (qa ?_));refine zx rfl (fun h0=>?_) (fun h0=>?_)
 ·
  have h0:w%4=0:=by have:=eq_of_beq h0;omega
  refine yk ?_;refine yn 10 rfl (fun h1=>?_) (fun h1=>?_)
  ·
   have h1:=of_decide_eq_true h1;refine stp ?_;refine onx rfl (je rfl rfl (by decide) (ylq (k:=2) (by decide)) (qb ?_));refine zx rfl (fun h2=>?_) (fun h2=>?_)
   ·
    have h2:=of_decide_eq_true h2;refine qa ?_;exact ⟨by rw[zuk h0,if_pos (by omega)];rfl,Below.refl _ _⟩
   ·
    have h2:=of_decide_eq_false h2;refine zz ?_;exact ⟨by rw[zuk h0,if_neg (by omega)];rfl,Below.refl _ _⟩
  ·
   have h1:=of_decide_eq_false h1;refine zhq ?_;exact ⟨by rw[zuk h0,if_neg (by omega)];rfl,Below.refl _ _⟩
 ·
  have h0:w%4≠0:=by have:=beq_eq_false_iff_ne.1 h0;omega
  refine yb ?_;refine zx rfl (fun h1=>?_) (fun h1=>?_)
  ·
   have h1:w%4=1:=by have:=eq_of_beq h1;omega
   refine qc ?_;refine za rfl (yi Tryz.underlying2 u27 rfl rfl (za rfl (je rfl rfl (by decide) (ydx hw h1) (yx ?_))));refine yn 22 rfl (fun h2=>?_) (fun h2=>?_)
   ·
    have h2:=of_decide_eq_true h2;refine yk ?_;refine zx rfl (fun h3=>?_) (fun h3=>?_)
    ·
     have h3:=of_decide_eq_true h3;refine qa ?_;exact ⟨by rw[ziq h1,if_pos ⟨h3,h2⟩];rfl,Below.refl _ _⟩
    ·
     have h3:=of_decide_eq_false h3;refine zz ?_;exact ⟨by rw[ziq h1,if_neg (fun h=>h3 h.1)];rfl,Below.refl _ _⟩
   ·
    have h2:=of_decide_eq_false h2;refine gh ?_;exact ⟨by rw[ziq h1,if_neg (fun h=>h2 h.2)];rfl,Below.refl _ _⟩
  ·
   have h1:w%4≠1:=by have:=beq_eq_false_iff_ne.1 h1;omega
   refine yb ?_;refine zx rfl (fun h2=>?_) (fun h2=>?_)
   ·
    have h2:w%4=2:=by have:=eq_of_beq h2;omega
    refine qc ?_;refine za rfl (je rfl rfl (by decide) (ylq (k:=2) (by decide)) (qc ?_));refine zx rfl (fun h3=>?_) (fun h3=>?_)
    ·
     have h3:=of_decide_eq_true h3;refine qa ?_;exact ⟨by rw[qev h2,if_pos (by omega)];rfl,Below.refl _ _⟩
    ·
     have h3:=of_decide_eq_false h3;refine zz ?_;exact ⟨by rw[qev h2,if_neg (by omega)];rfl,Below.refl _ _⟩
   ·
    have h2:w%4≠2:=by have:=beq_eq_false_iff_ne.1 h2;omega
    refine zz ?_;exact ⟨by rw[wkind_3 (by omega)];rfl,Below.refl _ _⟩
theorem rnum_any:Calls Tryz.prog 72 #[.int .u64 ((w:Nat):Int)] W fun e w'=>e= .returned (.int .i64 (zzv w))∧Below W.heap.size W w':=by
 have hw:w<18446744073709551616:=hw;refine zh Tryz.func72 rfl Tryz.ntmps72 rfl (qo ?_);refine zx rfl (fun h0=>?_) (fun h0=>?_)
 ·
  have h0:=of_decide_eq_true h0;refine qc ?_;refine za rfl (qz rfl rfl (sub0_O (by omega) hw) (za rfl (zr rfl rfl (show IntKind.u64.wrap (((18446744073709551616-w:Nat):Int)+1)=((18446744073709551616-w+1:Nat):Int) from wrap_u64 (by omega)) (za rfl (oi rfl rfl (by decide) (quo_O (k:=4) (by omega)) (za rfl (yi Tryz.underlying3 u27 rfl (zg (by omega)) (za rfl (yyv rfl (zg (by omega)) (yb ?_))))))))));exact ⟨by rw[wnum_big (by omega),←Int.zero_sub];rfl,Below.refl _ _⟩
 ·
  have h0:=of_decide_eq_false h0;refine yk ?_;refine za rfl (oi rfl rfl (by decide) (quo_O (k:=4) hw) (za rfl (yi Tryz.underlying3 u27 rfl (zg (by omega)) (yk ?_))));exact ⟨by rw[zkv (by omega)];rfl,Below.refl _ _⟩
theorem rkind_any:Calls Tryz.prog 49 #[.int .u64 ((w:Nat):Int)] W fun e w'=>e= .returned (.int .i64 ((zw w:Nat):Int))∧Below W.heap.size W w':=by
 have hw':=hw;have hw:w<18446744073709551616:=hw;refine zh Tryz.func49 rfl Tryz.ntmps49 rfl (qa ?_);refine za rfl (ju rfl rfl (by decide) (show ((w:Nat):Int).tmod 4=((w%4:Nat):Int) from rfl) (qa ?_));refine zx rfl (fun h0=>?_) (fun h0=>?_)
 ·
  have h0:w%4=0:=by have:=eq_of_beq h0;omega
  refine qc ?_;refine za rfl (oi rfl rfl (by decide) (quo_O (k:=4) hw) (zy ?_));refine yn 11 rfl (fun h1=>?_) (fun h1=>?_)
  ·
   have h1:=of_decide_eq_true h1;refine stp ?_;refine onx rfl (oi rfl rfl (by decide) (quo_O (k:=4) hw) (qb ?_));refine zx rfl (fun h2=>?_) (fun h2=>?_)
   ·
    have h2:=of_decide_eq_true h2;refine qa ?_;exact ⟨by rw[zuk h0,if_pos (by omega)];rfl,Below.refl _ _⟩
   ·
    have h2:=of_decide_eq_false h2;refine zz ?_;exact ⟨by rw[zuk h0,if_neg (by omega)];rfl,Below.refl _ _⟩
  ·
   have h1:=of_decide_eq_false h1;refine zhq ?_;exact ⟨by rw[zuk h0,if_neg (by omega)];rfl,Below.refl _ _⟩
 ·
  have h0:w%4≠0:=by have:=beq_eq_false_iff_ne.1 h0;omega
  refine yb ?_;refine zx rfl (fun h1=>?_) (fun h1=>?_)
  ·
   have h1:w%4=1:=by have:=eq_of_beq h1;omega
   refine qc ?_;refine za rfl (zd en72 rfl ((rnum_any _ w hw').mono ?_));rintro e w1 ⟨rfl,hb⟩;refine ⟨_,rfl,(yx ?_)⟩;refine yn 22 rfl (fun h2=>?_) (fun h2=>?_)
   ·
    have h2:=of_decide_eq_true h2;refine yk ?_;refine zx rfl (fun h3=>?_) (fun h3=>?_)
    ·
     have h3:=of_decide_eq_true h3;refine qa ?_;exact ⟨by rw[ziq h1,if_pos ⟨h2,h3⟩];rfl,hb⟩
    ·
     have h3:=of_decide_eq_false h3;refine zz ?_;exact ⟨by rw[ziq h1,if_neg (fun h=>h3 h.2)];rfl,hb⟩
   ·
    have h2:=of_decide_eq_false h2;refine gh ?_;exact ⟨by rw[ziq h1,if_neg (fun h=>h2 h.1)];rfl,hb⟩
  ·
   have h1:w%4≠1:=by have:=beq_eq_false_iff_ne.1 h1;omega
   refine yb ?_;refine zx rfl (fun h2=>?_) (fun h2=>?_)
   ·
    have h2:w%4=2:=by have:=eq_of_beq h2;omega
    refine yb ?_;refine zx rfl (fun h3=>?_) (fun h3=>?_)
    ·
     have h3:=of_decide_eq_true h3;refine qa ?_;exact ⟨by rw[qev h2,if_pos (by omega)];rfl,Below.refl _ _⟩
    ·
     have h3:=of_decide_eq_false h3;refine zz ?_;exact ⟨by rw[qev h2,if_neg (by omega)];rfl,Below.refl _ _⟩
   ·
    have h2:w%4≠2:=by have:=beq_eq_false_iff_ne.1 h2;omega
    refine zz ?_;exact ⟨by rw[wkind_3 (by omega)];rfl,Below.refl _ _⟩
theorem at_any:Calls Tryz.prog 57 #[.int .u64 ((w:Nat):Int)] W fun e w'=>e= .returned (.tuple (if zw w=0 then #[.int .i64 ((w/4:Nat):Int),.int .i64 0] else #[.int .i64 0,.int .i64 9]))∧Below W.heap.size W w':=by
 have hw':=hw;have hw:w<18446744073709551616:=hw;refine zh Tryz.func57 rfl Tryz.ntmps57 rfl (zz ?_);refine za rfl (zd en30 rfl ((ji _ w hw').mono ?_));rintro e w1 ⟨rfl,hb⟩;refine ⟨_,rfl,(qc ?_)⟩;refine zx rfl (fun h0=>?_) (fun h0=>?_)
 ·
  have h0:zw w≠0:=by have:=bne_iff_ne.1 h0;omega
  refine qa ?_;exact ⟨by rw[if_neg h0];rfl,hb⟩
 ·
  have h0:zw w=0:=by have h9:(((zw w:Nat):Int) !=0)=false:=h0;simpa using h9
  refine yk ?_;refine za rfl (je rfl rfl (by decide) (ylq (k:=2) (by decide)) (za rfl (yi Tryz.underlying3 u27 rfl (zg (by omega)) (yb ?_))));exact ⟨by rw[if_pos h0];rfl,hb⟩
theorem rat_any:Calls Tryz.prog 50 #[.int .u64 ((w:Nat):Int)] W fun e w'=>e= .returned (.tuple (if zw w=0 then #[.int .i64 ((w/4:Nat):Int),.int .i64 0] else #[.int .i64 0,.int .i64 9]))∧Below W.heap.size W w':=by
 have hw':=hw;have hw:w<18446744073709551616:=hw;refine zh Tryz.func50 rfl Tryz.ntmps50 rfl (zz ?_);refine za rfl (zd en49 rfl ((rkind_any _ w hw').mono ?_));rintro e w1 ⟨rfl,hb⟩;refine ⟨_,rfl,(qc ?_)⟩;refine zx rfl (fun h0=>?_) (fun h0=>?_)
 ·
  have h0:zw w≠0:=by have:=bne_iff_ne.1 h0;omega
  refine qa ?_;exact ⟨by rw[if_neg h0];rfl,hb⟩
 ·
  have h0:zw w=0:=by have h9:(((zw w:Nat):Int) !=0)=false:=h0;simpa using h9
  refine yk ?_;refine za rfl (oi rfl rfl (by decide) (quo_O (k:=4) hw) (za rfl (yi Tryz.underlying3 u27 rfl (zg (by omega)) (yb ?_))));exact ⟨by rw[if_pos h0];rfl,hb⟩
end
end Go.Proofs.YtebjkmjfcijebaaGreat
namespace Go.Proofs.YtebjkmjfcijebaaGreat
open Go.RowKit
set_option maxHeartbeats 20000000
attribute [local irreducible] OW RS CW EW
structure MemA (n:Nat) (w:World) (A:Option Addr) (W:List Nat) (top:Nat):Prop where
 words:WordsA n w A W
 one:1≤top
 len:top≤W.length
 most:W.length≤1048576
 size:n≤w.heap.size
theorem MemA.low {n top:Nat} {X:Nat→Prop} {w w':World} {A:Option Addr} {W:List Nat} (h:MemA n w A W top) (k:Low n X w w'):MemA n w' A W top:=⟨h.words.low k,h.one,h.len,h.most,Nat.le_trans h.size k.1.size⟩
theorem MemA.no {n top:Nat} {w w':World} {A:Option Addr} {W:List Nat} (h:MemA n w A W top) (k:Ext No w w'):MemA n w' A W top:=h.low (X:=No) ⟨k,fun _ h=>h.elim⟩
def xg (A:Option Addr) (W:List Nat) (c top:Nat):Value:=.agg #[.slice A W.length c,.int .i64 ((top:Nat):Int)]
theorem ydq (h:Nat):yf h<256:=by unfold yf;omega
theorem zok (h:Nat):yg h<16777216:=by unfold yg;omega
theorem zcx (h:Nat):zt h<16777216:=by unfold zt;omega
theorem Seen.lt {W:List Nat} {top a:Nat} (h:Seen W top a):a<W.length:=by have:=h.hi;have:=h.len;omega
section
variable (w:World) (A:Option Addr) (W:List Nat) (c n top a:Nat) (hM:MemA n w A W top)
include hM
theorem znq (hS:Seen W top a):Calls Tryz.prog 56 #[xg A W c top,.int .i64 ((a:Nat):Int)] w fun e w'=>e= .returned (.tuple #[.agg #[.int .i64 ((a:Nat):Int),.int .i64 ((yf (wat W a):Nat):Int),.int .i64 ((yg (wat W a):Nat):Int),.int .i64 ((zt (wat W a):Nat):Int)],.bool true])∧Below w.heap.size w w':=by
 have h1:=hS.lo;have h2:=hS.hi;have h3:=hM.len;have h4:=hM.most;have h5:=hS.kind;have h6:=hS.fit;have h7:=hS.room;have hu:wat W a<18446744073709551616:=zax hM.words.in_ a;have h8:=ydq (wat W a);have h9:=zok (wat W a);have h10:=zcx (wat W a);refine zh Tryz.func56 rfl Tryz.ntmps56 rfl (zy ?_);refine za rfl (zn rfl ?_);rintro g2 wA B2a E1 G1;refine za rfl (zp zfz ?_);rintro g4 wB B4 E2 G2;have B2:Blk wB g2 24 #[.slice A W.length c,.int .i64 ((top:Nat):Int)]:=B2a.ext E2 (fun h=>h.elim);have hE:=E1.trans E2;have hMB:=hM.no hE;refine qa ?_;refine zf 10 (.bool false) rfl ((by rw[decide_eq_false];omega:(.bool (decide (((top:Nat):Int)<3)):Value)=_)) (yu ?_);refine zf 17 (.bool false) rfl ((by rw[decide_eq_false];omega:(.bool (decide (((W.length:Nat):Int)<((top:Nat):Int))):Value)=_)) (qb ?_);refine zf 21 (.bool false) rfl ((by rw[decide_eq_false];omega:(.bool (decide (((a:Nat):Int)<1)):Value)=_)) (yk ?_);refine onx rfl (qz rfl rfl (zg (by omega)) (stp ?_));refine zf 28 (.bool false) rfl ((by rw[decide_eq_false];omega:(.bool (decide (((top:Nat):Int)-1≤((a:Nat):Int))):Value)=_)) (zz ?_);obtain ⟨gm,om,hA,hgm,hcm⟩:=hMB.words.at hS.lt;refine stp ?_;refine za rfl (zi (j:=a) u22 qk (congrArg (fun z↦some (Value.slice z W.length c)) hA) rfl rfl hS.lt (za rfl (yl u27 rfl rfl hcm (yu ?_))));refine za rfl (kw rfl rfl (zev (y:=255) (k:=8) hu (by decide) rfl) (zf 38 (.int .u64 ((yf (wat W a):Nat):Int)) rfl (rfl) (za rfl (yi Tryz.underlying3 u27 rfl (zg (by omega)) (stp ?_)))))
 refine za rfl (je rfl rfl (by decide) (ylq (k:=8) (by decide)) (za rfl (kw rfl rfl (zev (y:=16777215) (k:=24) (by omega) (by decide) rfl) (zf 42 (.int .u64 ((yg (wat W a):Nat):Int)) rfl (rfl) (za rfl (yi Tryz.underlying3 u27 rfl (zg (by omega)) (stp ?_)))))));refine za rfl (je rfl rfl (by decide) (ylq (k:=32) (by decide)) (za rfl (kw rfl rfl (zev (y:=16777215) (k:=24) (by omega) (by decide) rfl) (zf 46 (.int .u64 ((zt (wat W a):Nat):Int)) rfl (rfl) (za rfl (yi Tryz.underlying3 u27 rfl (zg (by omega)) (za rfl (ye (cs:=#[.int .i64 ((a:Nat):Int),.int .i64 ((yf (wat W a):Nat):Int),.int .i64 ((yg (wat W a):Nat):Int),.int .i64 ((zt (wat W a):Nat):Int)]) pl101 zfz rfl rfl (za rfl (zp zfz ?_))))))))));rintro g7 wC B70 E3 G3;refine zq (zm xk rfl rfl B70 rfl rfl rfl ?_);rintro wD B71 E4;have B7:Blk wD g7 101 #[.int .i64 ((a:Nat):Int),.int .i64 ((yf (wat W a):Nat):Int),.int .i64 ((yg (wat W a):Nat):Int),.int .i64 ((zt (wat W a):Nat):Int)]:=B71;have hX:Ext (fun q=>wB.heap.size≤q) wB wD:=(E3.mono (Y:=fun q=>wB.heap.size≤q) (fun _ h _=>h.elim)).step E4 (fun q hq=>Or.inl (show wB.heap.size≤q by have:=yj hq;omega));have h2b:=B2.lt;have h4b:=B4.lt;have B2D:=B2.ext hX (fun h=>by have h:wB.heap.size≤g2:=h;omega);have B4D:=B4.ext hX (fun h=>by have h:wB.heap.size≤g4:=h;omega);have h74:¬Mut [some g4] g7:=fun h=>by have:=yj h;omega
 have h24:¬Mut [some g4] g2:=fun h=>by have:=yj h;have:=B2a.lt;omega
 refine qc ?_;refine zcz qt (zck 23 rfl ?_);refine yeq 21 (Mut [some g4]) (fun k hk=>(by have:=yj hk;have:=B4D.lt;omega:k<wD.heap.size)) (jh [Fx.of (.agg #[.int .i64 ((a:Nat):Int),.int .i64 ((yf (wat W a):Nat):Int),.int .i64 ((yg (wat W a):Nat):Int),.int .i64 ((zt (wat W a):Nat):Int)]),
  Fx.of (.pointer (some ⟨g7,1,none⟩)),
  Fx.of (.int .i64 ((yf (wat W a):Nat):Int)),
  Fx.of (.bool true),
  Fx.of (.bool true),
  Fx.of (.pointer (some ⟨g7,3,none⟩)),
  Fx.of (.int .i64 ((zt (wat W a):Nat):Int)),
  Fx.of (.pointer (some ⟨g7,2,none⟩)),
  Fx.of (.int .i64 ((yg (wat W a):Nat):Int)),
  Fx.of (.int .i64 (2+((yg (wat W a):Nat):Int))),
  Fx.of (.bool true),
  Fx.of (.bool true),
  Fx.of (.bool true),
  Fx.of (.pointer (some ⟨g7,3,none⟩)),
  Fx.of (.int .i64 ((zt (wat W a):Nat):Int)),
  Fx.of (.pointer (some ⟨g2,1,none⟩)),
  Fx.of (.int .i64 ((top:Nat):Int)),
  Fx.of (.int .i64 ((a:Nat):Int)),
  Fx.of (.int .i64 (((top:Nat):Int)-((a:Nat):Int))),
  Fx.of (.bool true),
  Fx.of (.bool true),
  ⟨World,fun w9=>undef,fun w9 b=>(Blk b g4 101 #[.int .i64 ((a:Nat):Int),.int .i64 ((yf (wat W a):Nat):Int),.int .i64 ((yg (wat W a):Nat):Int),.int .i64 ((zt (wat W a):Nat):Int)])⟩,
  Fx.of (.bool true)]) rfl ?_ ?_
 · refine ⟨?_,?_,?_,?_,?_,?_,?_,?_,?_,?_,?_,?_,?_,?_,?_,?_,?_,?_,?_,?_,?_,?_,?_,trivial⟩
   · intro vs X wq K KQ;have LE:=K.1;exact yy u101 rfl xk rfl (jg LE h74 B7) rfl ⟨Below.refl _ _,Left.of rfl⟩
   · intro vs X wq K KQ;exact yd u101 rfl sz3 (by decide) rfl ⟨Below.refl _ _,Left.of rfl⟩
   · intro vs X wq K KQ;have LE:=K.1;obtain ⟨_,e1,k1⟩:=K.dep 1 rfl rfl rfl;refine zc 50 _ rfl e1 ?_;exact zl Tryz.underlying3 rfl rfl (jg LE h74 B7) rfl ⟨Below.refl _ _,Left.of rfl⟩
   · intro vs X wq K KQ;obtain ⟨_,e2,k2⟩:=K.dep 2 rfl rfl rfl;refine zc 51 _ rfl e2 ?_;exact ko rfl rfl ⟨Below.refl _ _,Left.of ((by rw[decide_eq_true];omega:(.bool (decide (0<((yf (wat W a):Nat):Int))):Value)=_))⟩
   · intro vs X wq K KQ;obtain ⟨_,e3,k3⟩:=K.dep 3 rfl rfl rfl;refine zc 52 _ rfl e3 ?_;exact vk rfl ⟨Below.refl _ _,Left.of rfl⟩
   · intro vs X wq K KQ;obtain ⟨_,e4,k4⟩:=K.dep 4 rfl rfl rfl;refine zc 53 _ rfl e4 ?_;exact zo rfl (yd u101 rfl sz3 (by decide) rfl ⟨Below.refl _ _,Left.of rfl⟩)
   · intro vs X wq K KQ;have LE:=K.1;obtain ⟨_,e5,k5⟩:=K.dep 5 rfl rfl rfl;refine zc 54 _ rfl e5 ?_;obtain ⟨_,e4,k4⟩:=K.dep 4 rfl rfl rfl;refine zc 53 _ rfl e4 ?_;exact zo rfl (zl Tryz.underlying3 rfl rfl (jg LE h74 B7) rfl ⟨Below.refl _ _,Left.of rfl⟩)
   · intro vs X wq K KQ;obtain ⟨_,e4,k4⟩:=K.dep 4 rfl rfl rfl;refine zc 53 _ rfl e4 ?_;exact zo rfl (yd u101 rfl sz3 (by decide) rfl ⟨Below.refl _ _,Left.of rfl⟩)
   · intro vs X wq K KQ;have LE:=K.1;obtain ⟨_,e7,k7⟩:=K.dep 7 rfl rfl rfl;refine zc 56 _ rfl e7 ?_;obtain ⟨_,e4,k4⟩:=K.dep 4 rfl rfl rfl;refine zc 53 _ rfl e4 ?_;exact zo rfl (zl Tryz.underlying3 rfl rfl (jg LE h74 B7) rfl ⟨Below.refl _ _,Left.of rfl⟩)
   · intro vs X wq K KQ;obtain ⟨_,e8,k8⟩:=K.dep 8 rfl rfl rfl;refine zc 57 _ rfl e8 ?_;obtain ⟨_,e4,k4⟩:=K.dep 4 rfl rfl rfl;refine zc 53 _ rfl e4 ?_;exact zo rfl (zr rfl rfl (zg (by omega)) ⟨Below.refl _ _,Left.of rfl⟩)
   · intro vs X wq K KQ;obtain ⟨_,e6,k6⟩:=K.dep 6 rfl rfl rfl;refine zc 55 _ rfl e6 ?_;obtain ⟨_,e9,k9⟩:=K.dep 9 rfl rfl rfl;refine zc 58 _ rfl e9 ?_;obtain ⟨_,e4,k4⟩:=K.dep 4 rfl rfl rfl;refine zc 53 _ rfl e4 ?_;exact zo rfl (zwq rfl rfl ⟨Below.refl _ _,Left.of ((by rw[decide_eq_true];omega:(.bool (decide ((2+((yg (wat W a):Nat):Int))≤((zt (wat W a):Nat):Int))):Value)=_))⟩)
   · intro vs X wq K KQ;obtain ⟨_,e4,k4⟩:=K.dep 4 rfl rfl rfl;refine zc 53 _ rfl e4 ?_;obtain ⟨_,e10,k10⟩:=K.dep 10 rfl rfl rfl;refine zc 59 _ rfl e10 ?_;exact xo rfl rfl ⟨Below.refl _ _,Left.of rfl⟩
   · intro vs X wq K KQ;obtain ⟨_,e11,k11⟩:=K.dep 11 rfl rfl rfl;refine zc 60 _ rfl e11 ?_;exact vk rfl ⟨Below.refl _ _,Left.of rfl⟩
   · intro vs X wq K KQ;obtain ⟨_,e12,k12⟩:=K.dep 12 rfl rfl rfl;refine zc 61 _ rfl e12 ?_;exact zo rfl (yd u101 rfl sz3 (by decide) rfl ⟨Below.refl _ _,Left.of rfl⟩)
   · intro vs X wq K KQ;have LE:=K.1;obtain ⟨_,e13,k13⟩:=K.dep 13 rfl rfl rfl;refine zc 62 _ rfl e13 ?_;obtain ⟨_,e12,k12⟩:=K.dep 12 rfl rfl rfl;refine zc 61 _ rfl e12 ?_;exact zo rfl (zl Tryz.underlying3 rfl rfl (jg LE h74 B7) rfl ⟨Below.refl _ _,Left.of rfl⟩)
   · intro vs X wq K KQ;obtain ⟨_,e12,k12⟩:=K.dep 12 rfl rfl rfl;refine zc 61 _ rfl e12 ?_;exact zo rfl (yd u24 rfl sz3 (by decide) rfl ⟨Below.refl _ _,Left.of rfl⟩)
   · intro vs X wq K KQ;have LE:=K.1;obtain ⟨_,e15,k15⟩:=K.dep 15 rfl rfl rfl;refine zc 64 _ rfl e15 ?_;obtain ⟨_,e12,k12⟩:=K.dep 12 rfl rfl rfl;refine zc 61 _ rfl e12 ?_;exact zo rfl (zl Tryz.underlying3 rfl rfl (jg LE h24 B2D) rfl ⟨Below.refl _ _,Left.of rfl⟩)
   · intro vs X wq K KQ;obtain ⟨_,e12,k12⟩:=K.dep 12 rfl rfl rfl;refine zc 61 _ rfl e12 ?_;exact zo rfl (vk rfl ⟨Below.refl _ _,Left.of rfl⟩)
   · intro vs X wq K KQ;obtain ⟨_,e16,k16⟩:=K.dep 16 rfl rfl rfl;refine zc 65 _ rfl e16 ?_;obtain ⟨_,e17,k17⟩:=K.dep 17 rfl rfl rfl;refine zc 66 _ rfl e17 ?_;obtain ⟨_,e12,k12⟩:=K.dep 12 rfl rfl rfl;refine zc 61 _ rfl e12 ?_;exact zo rfl (qz rfl rfl (zg (by omega)) ⟨Below.refl _ _,Left.of rfl⟩)
   · intro vs X wq K KQ;obtain ⟨_,e14,k14⟩:=K.dep 14 rfl rfl rfl;refine zc 63 _ rfl e14 ?_;obtain ⟨_,e18,k18⟩:=K.dep 18 rfl rfl rfl;refine zc 67 _ rfl e18 ?_;obtain ⟨_,e12,k12⟩:=K.dep 12 rfl rfl rfl;refine zc 61 _ rfl e12 ?_;exact zo rfl (yzx rfl rfl ⟨Below.refl _ _,Left.of ((by rw[decide_eq_true];omega:(.bool (decide (((zt (wat W a):Nat):Int)≤(((top:Nat):Int)-((a:Nat):Int)))):Value)=_))⟩)
   · intro vs X wq K KQ;obtain ⟨_,e12,k12⟩:=K.dep 12 rfl rfl rfl;refine zc 61 _ rfl e12 ?_;obtain ⟨_,e19,k19⟩:=K.dep 19 rfl rfl rfl;refine zc 68 _ rfl e19 ?_;exact xo rfl rfl ⟨Below.refl _ _,Left.of rfl⟩
   · intro vs X wq K KQ;have LQ:=KQ rfl;obtain ⟨_,e0,k0⟩:=K.dep 0 rfl rfl rfl;refine zc 49 _ rfl e0 (zm xk rfl rfl (yh LQ B4D) rfl rfl rfl ?_);intro w9 B9 hb;exact ⟨hb,⟨w9,rfl,(fun z hz=>B9.ext hz (fun h=>h.elim))⟩⟩
   · intro vs X wq K KQ;obtain ⟨_,e20,k20⟩:=K.dep 20 rfl rfl rfl;refine zc 69 _ rfl e20 ?_;exact kh rfl ⟨Below.refl _ _,Left.of rfl⟩
 intro vs w1 LE AO AL AF AA;have hxd:Ext (Mut [some g4]) (wD) w1:=((Ext.refl _ (wD)).drew).trans LE;obtain ⟨w9,e21,k21⟩:=AL.2.2.2.2.2.2.2.2.2.2.2.2.2.2.2.2.2.2.2.2.2.1;obtain ⟨_,e22,k22⟩:=AL.2.2.2.2.2.2.2.2.2.2.2.2.2.2.2.2.2.2.2.2.2.2.1;have Wc21:=k21.here;refine qe (τ:=[(4,_),(5,.bool true)]) ⟨rfl,congrArg some e22,trivial⟩ ?_;clear AL AF AA AO;refine zov (gn (by kernel_rfl) (fun _ _ d_ _ _ h=>by cases d_<;>exact h) ?_);have B4E:=Wc21;refine qb ?_;exact ⟨rfl,(((hE.mono (Y:=fun q=>w.heap.size≤q) (fun _ h _=>h.elim)).step hX (fun q hq=>Or.inl (show w.heap.size≤q by have hq:wB.heap.size≤q:=hq;have:=hE.size;omega))).step hxd (fun q hq=>Or.inl (show w.heap.size≤q by have:=yj hq;have:=E1.size;omega))).below (fun _ h=>h)⟩
theorem rlook_any (ha:a≤1048576) (h1:1≤a):Calls Tryz.prog 48 #[xg A W c top,.int .i64 ((a:Nat):Int)] w fun e w'=>(∃k t s b,e= .returned (.tuple #[.agg #[.int .i64 k,.int .i64 t,.int .i64 s],.bool b])∧(b=true→Seen W top a∧k=((yf (wat W a):Nat):Int)∧t=((yg (wat W a):Nat):Int)∧s=((zt (wat W a):Nat):Int))∧(Seen W top a→b=true))∧Below w.heap.size w w':=by
 have h3:=hM.len;have h4:=hM.most;have ha64:a≤9223372036854775807:=by have:=ha;omega
 refine zh Tryz.func48 rfl Tryz.ntmps48 rfl (zy ?_);refine za rfl (zn rfl ?_);rintro g2 wA B2a E1 G1;refine za rfl (zp zr89 ?_);rintro g4 wB B4 E2 G2;have B2:Blk wB g2 24 #[.slice A W.length c,.int .i64 ((top:Nat):Int)]:=B2a.ext E2 (fun h=>h.elim);have hE:=E1.trans E2;have hMB:=hM.no hE;have hs1:=E1.size;have h2b:=B2.lt;have h4b:=B4.lt;refine yx ?_;refine zf 9 (.bool false) rfl ((by rw[decide_eq_false];omega:(.bool (decide (((a:Nat):Int)<1)):Value)=_)) (qb ?_);by_cases ht3:top<3
 ·
  refine zf 13 (.bool true) rfl ((by rw[decide_eq_true];omega:(.bool (decide (((top:Nat):Int)<3)):Value)=_)) (stp21 ?_);refine za rfl (ye (cs:=#[.int .i64 0,.int .i64 0,.int .i64 0]) pl89 zr89 rfl rfl (zq (zm sz89 rfl rfl B4 rfl rfl rfl ?_)));rintro wE B4E E5;refine yb ?_;exact ⟨⟨0,0,0,false,rfl,fun h=>by (cases h),fun h=>by have:=h.hi;omega⟩,((hE.noL w.heap.size).step E5 (fun q hq=>Or.inl (show w.heap.size≤q by have:=yj hq;omega))).below (fun _ h=>h)⟩
 ·
  refine zf 13 (.bool false) rfl ((by rw[decide_eq_false];omega:(.bool (decide (((top:Nat):Int)<3)):Value)=_)) (yx ?_);refine zf 21 (.bool false) rfl ((by rw[decide_eq_false];omega:(.bool (decide (((W.length:Nat):Int)<((top:Nat):Int))):Value)=_)) (yk ?_);refine onx rfl (qz rfl rfl (zg (by omega)) (stp ?_));by_cases hin:top<a+2
  ·
   refine zf 28 (.bool true) rfl ((by rw[decide_eq_true];omega:(.bool (decide (((top:Nat):Int)-2<((a:Nat):Int))):Value)=_)) (yb ?_);refine za rfl (ye (cs:=#[.int .i64 0,.int .i64 0,.int .i64 0]) pl89 zr89 rfl rfl (zq (zm sz89 rfl rfl B4 rfl rfl rfl ?_)));rintro wE B4E E5;refine yb ?_;exact ⟨⟨0,0,0,false,rfl,fun h=>by (cases h),fun h=>by have:=h.hi;omega⟩,((hE.noL w.heap.size).step E5 (fun q hq=>Or.inl (show w.heap.size≤q by have:=yj hq;omega))).below (fun _ h=>h)⟩
  ·
   refine zf 28 (.bool false) rfl ((by rw[decide_eq_false];omega:(.bool (decide (((top:Nat):Int)-2<((a:Nat):Int))):Value)=_)) ?_;have haW:a<W.length:=by omega
   have hu:wat W a<18446744073709551616:=zax hM.words.in_ a;have h8:=ydq (wat W a);have h9:=zok (wat W a);have h10:=zcx (wat W a);refine zz ?_;obtain ⟨gm,om,hA,hgm,hcm⟩:=hMB.words.at haW;refine stp ?_;refine za rfl (zi (j:=a) u22 qk (congrArg (fun z↦some (Value.slice z W.length c)) hA) rfl rfl haW (za rfl (yl u27 rfl rfl hcm (yb ?_))));refine za rfl (ju rfl rfl (by decide) (show ((wat W a:Nat):Int).tmod 256=((yf (wat W a):Nat):Int) from rfl) (za rfl (yi Tryz.underlying3 u27 rfl (zg (by omega)) (stp ?_))));refine za rfl (oi rfl rfl (by decide) (quo_O (k:=256) hu) (za rfl (ju rfl rfl (by decide) (show ((wat W a/256:Nat):Int).tmod 16777216=((yg (wat W a):Nat):Int) from rfl) (za rfl (yi Tryz.underlying3 u27 rfl (zg (by omega)) (stp ?_))))));refine za rfl (oi rfl rfl (by decide) (quo_O (k:=4294967296) hu) (za rfl (ju rfl rfl (by decide) (show ((wat W a/4294967296:Nat):Int).tmod 16777216=((zt (wat W a):Nat):Int) from rfl) (za rfl (yi Tryz.underlying3 u27 rfl (zg (by omega)) (za rfl (ye (cs:=#[.int .i64 ((yf (wat W a):Nat):Int),.int .i64 ((yg (wat W a):Nat):Int),.int .i64 ((zt (wat W a):Nat):Int)]) pl89 zr89 rfl rfl (za rfl (zp zr89 ?_)))))))));rintro g7 wC B70 E3 G3;refine zq (zm sz89 rfl rfl B70 rfl rfl rfl ?_);rintro wD B71 E4;have B7:Blk wD g7 89 #[.int .i64 ((yf (wat W a):Nat):Int),.int .i64 ((yg (wat W a):Nat):Int),.int .i64 ((zt (wat W a):Nat):Int)]:=B71;have hX:Ext (fun q=>wB.heap.size≤q) wB wD:=(E3.noL wB.heap.size).step E4 (fun q hq=>Or.inl (show wB.heap.size≤q by have:=yj hq;omega));have B2D:=B2.ext hX (fun h=>by have h:wB.heap.size≤g2:=h;omega)
   have B4D:=B4.ext hX (fun h=>by have h:wB.heap.size≤g4:=h;omega);have h74:¬Mut [some g4] g7:=fun h=>by have:=yj h;omega
   have h24:¬Mut [some g4] g2:=fun h=>by have:=yj h;have:=B2a.lt;omega
   by_cases hk:0<yf (wat W a)
   ·
    by_cases hf:yg (wat W a)+2≤zt (wat W a)
    ·
     by_cases hr:a+zt (wat W a)≤top
     ·
      refine qc ?_;refine zcz qt (zck 23 rfl ?_);refine yeq 21 (Mut [some g4]) (fun k hk=>(by have:=yj hk;have:=B4D.lt;omega:k<wD.heap.size)) (jh [Fx.of (.agg #[.int .i64 ((yf (wat W a):Nat):Int),.int .i64 ((yg (wat W a):Nat):Int),.int .i64 ((zt (wat W a):Nat):Int)]),
       Fx.of (.pointer (some ⟨g7,0,none⟩)),
       Fx.of (.int .i64 ((yf (wat W a):Nat):Int)),
       Fx.of (.bool true),
       Fx.of (.bool true),
       Fx.of (.pointer (some ⟨g7,2,none⟩)),
       Fx.of (.int .i64 ((zt (wat W a):Nat):Int)),
       Fx.of (.int .i64 (((zt (wat W a):Nat):Int)-2)),
       Fx.of (.pointer (some ⟨g7,1,none⟩)),
       Fx.of (.int .i64 ((yg (wat W a):Nat):Int)),
       Fx.of (.bool true),
       Fx.of (.bool true),
       Fx.of (.bool true),
       Fx.of (.pointer (some ⟨g7,2,none⟩)),
       Fx.of (.int .i64 ((zt (wat W a):Nat):Int)),
       Fx.of (.pointer (some ⟨g2,1,none⟩)),
       Fx.of (.int .i64 ((top:Nat):Int)),
       Fx.of (.int .i64 ((a:Nat):Int)),
       Fx.of (.int .i64 (((top:Nat):Int)-((a:Nat):Int))),
       Fx.of (.bool true),
       Fx.of (.bool true),
       ⟨World,fun w9=>undef,fun w9 b=>(Blk b g4 89 #[.int .i64 ((yf (wat W a):Nat):Int),.int .i64 ((yg (wat W a):Nat):Int),.int .i64 ((zt (wat W a):Nat):Int)])⟩,
       Fx.of (.bool true)]) rfl ?_ ?_
      · refine ⟨?_,?_,?_,?_,?_,?_,?_,?_,?_,?_,?_,?_,?_,?_,?_,?_,?_,?_,?_,?_,?_,?_,?_,trivial⟩
        · intro vs X wq K KQ;have LE:=K.1;exact yy u89 rfl sz89 rfl (jg LE h74 B7) rfl ⟨Below.refl _ _,Left.of rfl⟩
        · intro vs X wq K KQ;exact yd u89 rfl sz3 (by decide) rfl ⟨Below.refl _ _,Left.of rfl⟩
        · intro vs X wq K KQ;have LE:=K.1;obtain ⟨_,e1,k1⟩:=K.dep 1 rfl rfl rfl;refine zc 49 _ rfl e1 ?_;exact zl Tryz.underlying3 rfl rfl (jg LE h74 B7) rfl ⟨Below.refl _ _,Left.of rfl⟩
        · intro vs X wq K KQ;obtain ⟨_,e2,k2⟩:=K.dep 2 rfl rfl rfl;refine zc 50 _ rfl e2 ?_;exact ko rfl rfl ⟨Below.refl _ _,Left.of ((by rw[decide_eq_true];omega:(.bool (decide (0<((yf (wat W a):Nat):Int))):Value)=_))⟩
        · intro vs X wq K KQ;obtain ⟨_,e3,k3⟩:=K.dep 3 rfl rfl rfl;refine zc 51 _ rfl e3 ?_;exact vk rfl ⟨Below.refl _ _,Left.of rfl⟩
        · intro vs X wq K KQ;obtain ⟨_,e4,k4⟩:=K.dep 4 rfl rfl rfl;refine zc 52 _ rfl e4 ?_;exact zo rfl (yd u89 rfl sz3 (by decide) rfl ⟨Below.refl _ _,Left.of rfl⟩)
        · intro vs X wq K KQ;have LE:=K.1;obtain ⟨_,e5,k5⟩:=K.dep 5 rfl rfl rfl;refine zc 53 _ rfl e5 ?_;obtain ⟨_,e4,k4⟩:=K.dep 4 rfl rfl rfl;refine zc 52 _ rfl e4 ?_;exact zo rfl (zl Tryz.underlying3 rfl rfl (jg LE h74 B7) rfl ⟨Below.refl _ _,Left.of rfl⟩)
        · intro vs X wq K KQ;obtain ⟨_,e6,k6⟩:=K.dep 6 rfl rfl rfl;refine zc 54 _ rfl e6 ?_;obtain ⟨_,e4,k4⟩:=K.dep 4 rfl rfl rfl;refine zc 52 _ rfl e4 ?_;exact zo rfl (qz rfl rfl (zg (by omega)) ⟨Below.refl _ _,Left.of rfl⟩)
        · intro vs X wq K KQ;obtain ⟨_,e4,k4⟩:=K.dep 4 rfl rfl rfl;refine zc 52 _ rfl e4 ?_;exact zo rfl (yd u89 rfl sz3 (by decide) rfl ⟨Below.refl _ _,Left.of rfl⟩)
        · intro vs X wq K KQ;have LE:=K.1;obtain ⟨_,e8,k8⟩:=K.dep 8 rfl rfl rfl;refine zc 56 _ rfl e8 ?_;obtain ⟨_,e4,k4⟩:=K.dep 4 rfl rfl rfl;refine zc 52 _ rfl e4 ?_;exact zo rfl (zl Tryz.underlying3 rfl rfl (jg LE h74 B7) rfl ⟨Below.refl _ _,Left.of rfl⟩)
        · intro vs X wq K KQ;obtain ⟨_,e7,k7⟩:=K.dep 7 rfl rfl rfl;refine zc 55 _ rfl e7 ?_;obtain ⟨_,e9,k9⟩:=K.dep 9 rfl rfl rfl;refine zc 57 _ rfl e9 ?_;obtain ⟨_,e4,k4⟩:=K.dep 4 rfl rfl rfl;refine zc 52 _ rfl e4 ?_;exact zo rfl (zwq rfl rfl ⟨Below.refl _ _,Left.of ((by rw[decide_eq_true];omega:(.bool (decide (((yg (wat W a):Nat):Int)≤(((zt (wat W a):Nat):Int)-2))):Value)=_))⟩)
        · intro vs X wq K KQ;obtain ⟨_,e4,k4⟩:=K.dep 4 rfl rfl rfl;refine zc 52 _ rfl e4 ?_;obtain ⟨_,e10,k10⟩:=K.dep 10 rfl rfl rfl;refine zc 58 _ rfl e10 ?_;exact xo rfl rfl ⟨Below.refl _ _,Left.of rfl⟩
        · intro vs X wq K KQ;obtain ⟨_,e11,k11⟩:=K.dep 11 rfl rfl rfl;refine zc 59 _ rfl e11 ?_;exact vk rfl ⟨Below.refl _ _,Left.of rfl⟩
        · intro vs X wq K KQ;obtain ⟨_,e12,k12⟩:=K.dep 12 rfl rfl rfl;refine zc 60 _ rfl e12 ?_;exact zo rfl (yd u89 rfl sz3 (by decide) rfl ⟨Below.refl _ _,Left.of rfl⟩)
        · intro vs X wq K KQ;have LE:=K.1;obtain ⟨_,e13,k13⟩:=K.dep 13 rfl rfl rfl;refine zc 61 _ rfl e13 ?_;obtain ⟨_,e12,k12⟩:=K.dep 12 rfl rfl rfl;refine zc 60 _ rfl e12 ?_;exact zo rfl (zl Tryz.underlying3 rfl rfl (jg LE h74 B7) rfl ⟨Below.refl _ _,Left.of rfl⟩)
        · intro vs X wq K KQ;obtain ⟨_,e12,k12⟩:=K.dep 12 rfl rfl rfl;refine zc 60 _ rfl e12 ?_;exact zo rfl (yd u24 rfl sz3 (by decide) rfl ⟨Below.refl _ _,Left.of rfl⟩)
        · intro vs X wq K KQ;have LE:=K.1;obtain ⟨_,e15,k15⟩:=K.dep 15 rfl rfl rfl;refine zc 63 _ rfl e15 ?_;obtain ⟨_,e12,k12⟩:=K.dep 12 rfl rfl rfl;refine zc 60 _ rfl e12 ?_;exact zo rfl (zl Tryz.underlying3 rfl rfl (jg LE h24 B2D) rfl ⟨Below.refl _ _,Left.of rfl⟩)
        · intro vs X wq K KQ;obtain ⟨_,e12,k12⟩:=K.dep 12 rfl rfl rfl;refine zc 60 _ rfl e12 ?_;exact zo rfl (vk rfl ⟨Below.refl _ _,Left.of rfl⟩)
        · intro vs X wq K KQ;obtain ⟨_,e16,k16⟩:=K.dep 16 rfl rfl rfl;refine zc 64 _ rfl e16 ?_;obtain ⟨_,e17,k17⟩:=K.dep 17 rfl rfl rfl;refine zc 65 _ rfl e17 ?_;obtain ⟨_,e12,k12⟩:=K.dep 12 rfl rfl rfl;refine zc 60 _ rfl e12 ?_;exact zo rfl (qz rfl rfl (zg (by omega)) ⟨Below.refl _ _,Left.of rfl⟩)
        · intro vs X wq K KQ;obtain ⟨_,e14,k14⟩:=K.dep 14 rfl rfl rfl;refine zc 62 _ rfl e14 ?_;obtain ⟨_,e18,k18⟩:=K.dep 18 rfl rfl rfl;refine zc 66 _ rfl e18 ?_;obtain ⟨_,e12,k12⟩:=K.dep 12 rfl rfl rfl;refine zc 60 _ rfl e12 ?_;exact zo rfl (yzx rfl rfl ⟨Below.refl _ _,Left.of ((by rw[decide_eq_true];omega:(.bool (decide (((zt (wat W a):Nat):Int)≤(((top:Nat):Int)-((a:Nat):Int)))):Value)=_))⟩)
        · intro vs X wq K KQ;obtain ⟨_,e12,k12⟩:=K.dep 12 rfl rfl rfl;refine zc 60 _ rfl e12 ?_;obtain ⟨_,e19,k19⟩:=K.dep 19 rfl rfl rfl;refine zc 67 _ rfl e19 ?_;exact xo rfl rfl ⟨Below.refl _ _,Left.of rfl⟩
        · intro vs X wq K KQ;have LQ:=KQ rfl;obtain ⟨_,e0,k0⟩:=K.dep 0 rfl rfl rfl;refine zc 48 _ rfl e0 (zm sz89 rfl rfl (yh LQ B4D) rfl rfl rfl ?_);intro w9 B9 hb;exact ⟨hb,⟨w9,rfl,(fun z hz=>B9.ext hz (fun h=>h.elim))⟩⟩
        · intro vs X wq K KQ;obtain ⟨_,e20,k20⟩:=K.dep 20 rfl rfl rfl;refine zc 68 _ rfl e20 ?_;exact kh rfl ⟨Below.refl _ _,Left.of rfl⟩
      intro vs w1 LE AO AL AF AA;have hxd:Ext (Mut [some g4]) (wD) w1:=((Ext.refl _ (wD)).drew).trans LE;obtain ⟨w9,e21,k21⟩:=AL.2.2.2.2.2.2.2.2.2.2.2.2.2.2.2.2.2.2.2.2.2.1;obtain ⟨_,e22,k22⟩:=AL.2.2.2.2.2.2.2.2.2.2.2.2.2.2.2.2.2.2.2.2.2.2.1;have Wc21:=k21.here;refine qe (τ:=[(4,_),(5,.bool true)]) ⟨rfl,congrArg some e22,trivial⟩ ?_;clear AL AF AA AO;refine zov (gn (by kernel_rfl) (fun _ _ d_ _ _ h=>by cases d_<;>exact h) ?_);have B4E:=Wc21;refine qb ?_;exact ⟨⟨_,_,_,true,rfl,fun _=>⟨⟨h1,by omega,by omega,hk,hf,hr⟩,rfl,rfl,rfl⟩,fun _=>rfl⟩,(((hE.noL w.heap.size).step hX (fun q hq=>Or.inl (show w.heap.size≤q by have hq:wB.heap.size≤q:=hq;have:=hE.size;omega))).step hxd (fun q hq=>Or.inl (show w.heap.size≤q by have:=yj hq;omega))).below (fun _ h=>h)⟩
     ·
      refine qc ?_;refine zcz qt (zck 23 rfl ?_);refine yeq 21 (Mut [some g4]) (fun k hk=>(by have:=yj hk;have:=B4D.lt;omega:k<wD.heap.size)) (jh [Fx.of (.agg #[.int .i64 ((yf (wat W a):Nat):Int),.int .i64 ((yg (wat W a):Nat):Int),.int .i64 ((zt (wat W a):Nat):Int)]),
       Fx.of (.pointer (some ⟨g7,0,none⟩)),
       Fx.of (.int .i64 ((yf (wat W a):Nat):Int)),
       Fx.of (.bool true),
       Fx.of (.bool true),
       Fx.of (.pointer (some ⟨g7,2,none⟩)),
       Fx.of (.int .i64 ((zt (wat W a):Nat):Int)),
       Fx.of (.int .i64 (((zt (wat W a):Nat):Int)-2)),
       Fx.of (.pointer (some ⟨g7,1,none⟩)),
       Fx.of (.int .i64 ((yg (wat W a):Nat):Int)),
       Fx.of (.bool true),
       Fx.of (.bool true),
       Fx.of (.bool true),
       Fx.of (.pointer (some ⟨g7,2,none⟩)),
       Fx.of (.int .i64 ((zt (wat W a):Nat):Int)),
       Fx.of (.pointer (some ⟨g2,1,none⟩)),
       Fx.of (.int .i64 ((top:Nat):Int)),
       Fx.of (.int .i64 ((a:Nat):Int)),
       Fx.of (.int .i64 (((top:Nat):Int)-((a:Nat):Int))),
       Fx.of (.bool false),
       Fx.of (.bool false),
       ⟨World,fun w9=>undef,fun w9 b=>(Blk b g4 89 #[.int .i64 ((yf (wat W a):Nat):Int),.int .i64 ((yg (wat W a):Nat):Int),.int .i64 ((zt (wat W a):Nat):Int)])⟩,
       Fx.of (.bool false)]) rfl ?_ ?_
      · refine ⟨?_,?_,?_,?_,?_,?_,?_,?_,?_,?_,?_,?_,?_,?_,?_,?_,?_,?_,?_,?_,?_,?_,?_,trivial⟩
        · intro vs X wq K KQ;have LE:=K.1;exact yy u89 rfl sz89 rfl (jg LE h74 B7) rfl ⟨Below.refl _ _,Left.of rfl⟩
        · intro vs X wq K KQ;exact yd u89 rfl sz3 (by decide) rfl ⟨Below.refl _ _,Left.of rfl⟩
        · intro vs X wq K KQ;have LE:=K.1;obtain ⟨_,e1,k1⟩:=K.dep 1 rfl rfl rfl;refine zc 49 _ rfl e1 ?_;exact zl Tryz.underlying3 rfl rfl (jg LE h74 B7) rfl ⟨Below.refl _ _,Left.of rfl⟩
        · intro vs X wq K KQ;obtain ⟨_,e2,k2⟩:=K.dep 2 rfl rfl rfl;refine zc 50 _ rfl e2 ?_;exact ko rfl rfl ⟨Below.refl _ _,Left.of ((by rw[decide_eq_true];omega:(.bool (decide (0<((yf (wat W a):Nat):Int))):Value)=_))⟩
        · intro vs X wq K KQ;obtain ⟨_,e3,k3⟩:=K.dep 3 rfl rfl rfl;refine zc 51 _ rfl e3 ?_;exact vk rfl ⟨Below.refl _ _,Left.of rfl⟩
        · intro vs X wq K KQ;obtain ⟨_,e4,k4⟩:=K.dep 4 rfl rfl rfl;refine zc 52 _ rfl e4 ?_;exact zo rfl (yd u89 rfl sz3 (by decide) rfl ⟨Below.refl _ _,Left.of rfl⟩)
        · intro vs X wq K KQ;have LE:=K.1;obtain ⟨_,e5,k5⟩:=K.dep 5 rfl rfl rfl;refine zc 53 _ rfl e5 ?_;obtain ⟨_,e4,k4⟩:=K.dep 4 rfl rfl rfl;refine zc 52 _ rfl e4 ?_;exact zo rfl (zl Tryz.underlying3 rfl rfl (jg LE h74 B7) rfl ⟨Below.refl _ _,Left.of rfl⟩)
        · intro vs X wq K KQ;obtain ⟨_,e6,k6⟩:=K.dep 6 rfl rfl rfl;refine zc 54 _ rfl e6 ?_;obtain ⟨_,e4,k4⟩:=K.dep 4 rfl rfl rfl;refine zc 52 _ rfl e4 ?_;exact zo rfl (qz rfl rfl (zg (by omega)) ⟨Below.refl _ _,Left.of rfl⟩)
        · intro vs X wq K KQ;obtain ⟨_,e4,k4⟩:=K.dep 4 rfl rfl rfl;refine zc 52 _ rfl e4 ?_;exact zo rfl (yd u89 rfl sz3 (by decide) rfl ⟨Below.refl _ _,Left.of rfl⟩)
        · intro vs X wq K KQ;have LE:=K.1;obtain ⟨_,e8,k8⟩:=K.dep 8 rfl rfl rfl;refine zc 56 _ rfl e8 ?_;obtain ⟨_,e4,k4⟩:=K.dep 4 rfl rfl rfl;refine zc 52 _ rfl e4 ?_;exact zo rfl (zl Tryz.underlying3 rfl rfl (jg LE h74 B7) rfl ⟨Below.refl _ _,Left.of rfl⟩)
        · intro vs X wq K KQ;obtain ⟨_,e7,k7⟩:=K.dep 7 rfl rfl rfl;refine zc 55 _ rfl e7 ?_;obtain ⟨_,e9,k9⟩:=K.dep 9 rfl rfl rfl;refine zc 57 _ rfl e9 ?_;obtain ⟨_,e4,k4⟩:=K.dep 4 rfl rfl rfl;refine zc 52 _ rfl e4 ?_;exact zo rfl (zwq rfl rfl ⟨Below.refl _ _,Left.of ((by rw[decide_eq_true];omega:(.bool (decide (((yg (wat W a):Nat):Int)≤(((zt (wat W a):Nat):Int)-2))):Value)=_))⟩)
        · intro vs X wq K KQ;obtain ⟨_,e4,k4⟩:=K.dep 4 rfl rfl rfl;refine zc 52 _ rfl e4 ?_;obtain ⟨_,e10,k10⟩:=K.dep 10 rfl rfl rfl;refine zc 58 _ rfl e10 ?_;exact xo rfl rfl ⟨Below.refl _ _,Left.of rfl⟩
        · intro vs X wq K KQ;obtain ⟨_,e11,k11⟩:=K.dep 11 rfl rfl rfl;refine zc 59 _ rfl e11 ?_;exact vk rfl ⟨Below.refl _ _,Left.of rfl⟩
        · intro vs X wq K KQ;obtain ⟨_,e12,k12⟩:=K.dep 12 rfl rfl rfl;refine zc 60 _ rfl e12 ?_;exact zo rfl (yd u89 rfl sz3 (by decide) rfl ⟨Below.refl _ _,Left.of rfl⟩)
        · intro vs X wq K KQ;have LE:=K.1;obtain ⟨_,e13,k13⟩:=K.dep 13 rfl rfl rfl;refine zc 61 _ rfl e13 ?_;obtain ⟨_,e12,k12⟩:=K.dep 12 rfl rfl rfl;refine zc 60 _ rfl e12 ?_;exact zo rfl (zl Tryz.underlying3 rfl rfl (jg LE h74 B7) rfl ⟨Below.refl _ _,Left.of rfl⟩)
        · intro vs X wq K KQ;obtain ⟨_,e12,k12⟩:=K.dep 12 rfl rfl rfl;refine zc 60 _ rfl e12 ?_;exact zo rfl (yd u24 rfl sz3 (by decide) rfl ⟨Below.refl _ _,Left.of rfl⟩)
        · intro vs X wq K KQ;have LE:=K.1;obtain ⟨_,e15,k15⟩:=K.dep 15 rfl rfl rfl;refine zc 63 _ rfl e15 ?_;obtain ⟨_,e12,k12⟩:=K.dep 12 rfl rfl rfl;refine zc 60 _ rfl e12 ?_;exact zo rfl (zl Tryz.underlying3 rfl rfl (jg LE h24 B2D) rfl ⟨Below.refl _ _,Left.of rfl⟩)
        · intro vs X wq K KQ;obtain ⟨_,e12,k12⟩:=K.dep 12 rfl rfl rfl;refine zc 60 _ rfl e12 ?_;exact zo rfl (vk rfl ⟨Below.refl _ _,Left.of rfl⟩)
        · intro vs X wq K KQ;obtain ⟨_,e16,k16⟩:=K.dep 16 rfl rfl rfl;refine zc 64 _ rfl e16 ?_;obtain ⟨_,e17,k17⟩:=K.dep 17 rfl rfl rfl;refine zc 65 _ rfl e17 ?_;obtain ⟨_,e12,k12⟩:=K.dep 12 rfl rfl rfl;refine zc 60 _ rfl e12 ?_;exact zo rfl (qz rfl rfl (zg (by omega)) ⟨Below.refl _ _,Left.of rfl⟩)
        · intro vs X wq K KQ;obtain ⟨_,e14,k14⟩:=K.dep 14 rfl rfl rfl;refine zc 62 _ rfl e14 ?_;obtain ⟨_,e18,k18⟩:=K.dep 18 rfl rfl rfl;refine zc 66 _ rfl e18 ?_;obtain ⟨_,e12,k12⟩:=K.dep 12 rfl rfl rfl;refine zc 60 _ rfl e12 ?_;exact zo rfl (yzx rfl rfl ⟨Below.refl _ _,Left.of ((by rw[decide_eq_false];omega:(.bool (decide (((zt (wat W a):Nat):Int)≤(((top:Nat):Int)-((a:Nat):Int)))):Value)=_))⟩)
        · intro vs X wq K KQ;obtain ⟨_,e12,k12⟩:=K.dep 12 rfl rfl rfl;refine zc 60 _ rfl e12 ?_;obtain ⟨_,e19,k19⟩:=K.dep 19 rfl rfl rfl;refine zc 67 _ rfl e19 ?_;exact xo rfl rfl ⟨Below.refl _ _,Left.of rfl⟩
        · intro vs X wq K KQ;have LQ:=KQ rfl;obtain ⟨_,e0,k0⟩:=K.dep 0 rfl rfl rfl;refine zc 48 _ rfl e0 (zm sz89 rfl rfl (yh LQ B4D) rfl rfl rfl ?_);intro w9 B9 hb;exact ⟨hb,⟨w9,rfl,(fun z hz=>B9.ext hz (fun h=>h.elim))⟩⟩
        · intro vs X wq K KQ;obtain ⟨_,e20,k20⟩:=K.dep 20 rfl rfl rfl;refine zc 68 _ rfl e20 ?_;exact kh rfl ⟨Below.refl _ _,Left.of rfl⟩
      intro vs w2 LE AO AL AF AA;have hxd:Ext (Mut [some g4]) (wD) w2:=((Ext.refl _ (wD)).drew).trans LE;obtain ⟨w9,e21,k21⟩:=AL.2.2.2.2.2.2.2.2.2.2.2.2.2.2.2.2.2.2.2.2.2.1;obtain ⟨_,e22,k22⟩:=AL.2.2.2.2.2.2.2.2.2.2.2.2.2.2.2.2.2.2.2.2.2.2.1;have Wc21:=k21.here;refine qe (τ:=[(4,_),(5,.bool false)]) ⟨rfl,congrArg some e22,trivial⟩ ?_;clear AL AF AA AO;refine zov (gn (by kernel_rfl) (fun _ _ d_ _ _ h=>by cases d_<;>exact h) ?_);have B4E:=Wc21;refine qb ?_;exact ⟨⟨_,_,_,false,rfl,fun h=>by (cases h),fun h=>by have h20:=h.kind;have h21:=h.fit;have h22:=h.room;omega⟩,(((hE.noL w.heap.size).step hX (fun q hq=>Or.inl (show w.heap.size≤q by have hq:wB.heap.size≤q:=hq;have:=hE.size;omega))).step hxd (fun q hq=>Or.inl (show w.heap.size≤q by have:=yj hq;omega))).below (fun _ h=>h)⟩
    ·
     refine qc ?_;refine zcz qt (zck 23 rfl ?_);refine yeq 21 (Mut [some g4]) (fun k hk=>(by have:=yj hk;have:=B4D.lt;omega:k<wD.heap.size)) (jh [Fx.of (.agg #[.int .i64 ((yf (wat W a):Nat):Int),.int .i64 ((yg (wat W a):Nat):Int),.int .i64 ((zt (wat W a):Nat):Int)]),
      Fx.of (.pointer (some ⟨g7,0,none⟩)),
      Fx.of (.int .i64 ((yf (wat W a):Nat):Int)),
      Fx.of (.bool true),
      Fx.of (.bool true),
      Fx.of (.pointer (some ⟨g7,2,none⟩)),
      Fx.of (.int .i64 ((zt (wat W a):Nat):Int)),
      Fx.of (.int .i64 (((zt (wat W a):Nat):Int)-2)),
      Fx.of (.pointer (some ⟨g7,1,none⟩)),
      Fx.of (.int .i64 ((yg (wat W a):Nat):Int)),
      Fx.of (.bool false),
      Fx.of (.bool false),
      Fx.of (.bool false),
      Fx.of undef,
      Fx.of undef,
      Fx.of undef,
      Fx.of undef,
      Fx.of undef,
      Fx.of undef,
      Fx.of undef,
      Fx.of (.bool false),
      ⟨World,fun w9=>undef,fun w9 b=>(Blk b g4 89 #[.int .i64 ((yf (wat W a):Nat):Int),.int .i64 ((yg (wat W a):Nat):Int),.int .i64 ((zt (wat W a):Nat):Int)])⟩,
      Fx.of (.bool false)]) rfl ?_ ?_
     · refine ⟨?_,?_,?_,?_,?_,?_,?_,?_,?_,?_,?_,?_,?_,?_,?_,?_,?_,?_,?_,?_,?_,?_,?_,trivial⟩
       · intro vs X wq K KQ;have LE:=K.1;exact yy u89 rfl sz89 rfl (jg LE h74 B7) rfl ⟨Below.refl _ _,Left.of rfl⟩
       · intro vs X wq K KQ;exact yd u89 rfl sz3 (by decide) rfl ⟨Below.refl _ _,Left.of rfl⟩
       · intro vs X wq K KQ;have LE:=K.1;obtain ⟨_,e1,k1⟩:=K.dep 1 rfl rfl rfl;refine zc 49 _ rfl e1 ?_;exact zl Tryz.underlying3 rfl rfl (jg LE h74 B7) rfl ⟨Below.refl _ _,Left.of rfl⟩
       · intro vs X wq K KQ;obtain ⟨_,e2,k2⟩:=K.dep 2 rfl rfl rfl;refine zc 50 _ rfl e2 ?_;exact ko rfl rfl ⟨Below.refl _ _,Left.of ((by rw[decide_eq_true];omega:(.bool (decide (0<((yf (wat W a):Nat):Int))):Value)=_))⟩
       · intro vs X wq K KQ;obtain ⟨_,e3,k3⟩:=K.dep 3 rfl rfl rfl;refine zc 51 _ rfl e3 ?_;exact vk rfl ⟨Below.refl _ _,Left.of rfl⟩
       · intro vs X wq K KQ;obtain ⟨_,e4,k4⟩:=K.dep 4 rfl rfl rfl;refine zc 52 _ rfl e4 ?_;exact zo rfl (yd u89 rfl sz3 (by decide) rfl ⟨Below.refl _ _,Left.of rfl⟩)
       · intro vs X wq K KQ;have LE:=K.1;obtain ⟨_,e5,k5⟩:=K.dep 5 rfl rfl rfl;refine zc 53 _ rfl e5 ?_;obtain ⟨_,e4,k4⟩:=K.dep 4 rfl rfl rfl;refine zc 52 _ rfl e4 ?_;exact zo rfl (zl Tryz.underlying3 rfl rfl (jg LE h74 B7) rfl ⟨Below.refl _ _,Left.of rfl⟩)
       · intro vs X wq K KQ;obtain ⟨_,e6,k6⟩:=K.dep 6 rfl rfl rfl;refine zc 54 _ rfl e6 ?_;obtain ⟨_,e4,k4⟩:=K.dep 4 rfl rfl rfl;refine zc 52 _ rfl e4 ?_;exact zo rfl (qz rfl rfl (zg (by omega)) ⟨Below.refl _ _,Left.of rfl⟩)
       · intro vs X wq K KQ;obtain ⟨_,e4,k4⟩:=K.dep 4 rfl rfl rfl;refine zc 52 _ rfl e4 ?_;exact zo rfl (yd u89 rfl sz3 (by decide) rfl ⟨Below.refl _ _,Left.of rfl⟩)
       · intro vs X wq K KQ;have LE:=K.1;obtain ⟨_,e8,k8⟩:=K.dep 8 rfl rfl rfl;refine zc 56 _ rfl e8 ?_;obtain ⟨_,e4,k4⟩:=K.dep 4 rfl rfl rfl;refine zc 52 _ rfl e4 ?_;exact zo rfl (zl Tryz.underlying3 rfl rfl (jg LE h74 B7) rfl ⟨Below.refl _ _,Left.of rfl⟩)
       · intro vs X wq K KQ;obtain ⟨_,e7,k7⟩:=K.dep 7 rfl rfl rfl;refine zc 55 _ rfl e7 ?_;obtain ⟨_,e9,k9⟩:=K.dep 9 rfl rfl rfl;refine zc 57 _ rfl e9 ?_;obtain ⟨_,e4,k4⟩:=K.dep 4 rfl rfl rfl;refine zc 52 _ rfl e4 ?_;exact zo rfl (zwq rfl rfl ⟨Below.refl _ _,Left.of ((by rw[decide_eq_false];omega:(.bool (decide (((yg (wat W a):Nat):Int)≤(((zt (wat W a):Nat):Int)-2))):Value)=_))⟩)
       · intro vs X wq K KQ;obtain ⟨_,e4,k4⟩:=K.dep 4 rfl rfl rfl;refine zc 52 _ rfl e4 ?_;obtain ⟨_,e10,k10⟩:=K.dep 10 rfl rfl rfl;refine zc 58 _ rfl e10 ?_;exact xo rfl rfl ⟨Below.refl _ _,Left.of rfl⟩
       · intro vs X wq K KQ;obtain ⟨_,e11,k11⟩:=K.dep 11 rfl rfl rfl;refine zc 59 _ rfl e11 ?_;exact vk rfl ⟨Below.refl _ _,Left.of rfl⟩
       · intro vs X wq K KQ;obtain ⟨_,e12,k12⟩:=K.dep 12 rfl rfl rfl;refine zc 60 _ rfl e12 ?_;exact qn rfl ⟨Below.refl _ _,Left.of rfl⟩
       · intro vs X wq K KQ;obtain ⟨_,e13,k13⟩:=K.dep 13 rfl rfl rfl;refine zc 61 _ rfl e13 ?_;obtain ⟨_,e12,k12⟩:=K.dep 12 rfl rfl rfl;refine zc 60 _ rfl e12 ?_;exact qn rfl ⟨Below.refl _ _,Left.of rfl⟩
       · intro vs X wq K KQ;obtain ⟨_,e12,k12⟩:=K.dep 12 rfl rfl rfl;refine zc 60 _ rfl e12 ?_;exact qn rfl ⟨Below.refl _ _,Left.of rfl⟩
       · intro vs X wq K KQ;obtain ⟨_,e15,k15⟩:=K.dep 15 rfl rfl rfl;refine zc 63 _ rfl e15 ?_;obtain ⟨_,e12,k12⟩:=K.dep 12 rfl rfl rfl;refine zc 60 _ rfl e12 ?_;exact qn rfl ⟨Below.refl _ _,Left.of rfl⟩
       · intro vs X wq K KQ;obtain ⟨_,e12,k12⟩:=K.dep 12 rfl rfl rfl;refine zc 60 _ rfl e12 ?_;exact qn rfl ⟨Below.refl _ _,Left.of rfl⟩
       · intro vs X wq K KQ;obtain ⟨_,e16,k16⟩:=K.dep 16 rfl rfl rfl;refine zc 64 _ rfl e16 ?_;obtain ⟨_,e17,k17⟩:=K.dep 17 rfl rfl rfl;refine zc 65 _ rfl e17 ?_;obtain ⟨_,e12,k12⟩:=K.dep 12 rfl rfl rfl;refine zc 60 _ rfl e12 ?_;exact qn rfl ⟨Below.refl _ _,Left.of rfl⟩
       · intro vs X wq K KQ;obtain ⟨_,e14,k14⟩:=K.dep 14 rfl rfl rfl;refine zc 62 _ rfl e14 ?_;obtain ⟨_,e18,k18⟩:=K.dep 18 rfl rfl rfl;refine zc 66 _ rfl e18 ?_;obtain ⟨_,e12,k12⟩:=K.dep 12 rfl rfl rfl;refine zc 60 _ rfl e12 ?_;exact qn rfl ⟨Below.refl _ _,Left.of rfl⟩
       · intro vs X wq K KQ;obtain ⟨_,e12,k12⟩:=K.dep 12 rfl rfl rfl;refine zc 60 _ rfl e12 ?_;obtain ⟨_,e19,k19⟩:=K.dep 19 rfl rfl rfl;refine zc 67 _ rfl e19 ?_;exact zmz rfl rfl ⟨Below.refl _ _,Left.of rfl⟩
       · intro vs X wq K KQ;have LQ:=KQ rfl;obtain ⟨_,e0,k0⟩:=K.dep 0 rfl rfl rfl;refine zc 48 _ rfl e0 (zm sz89 rfl rfl (yh LQ B4D) rfl rfl rfl ?_);intro w9 B9 hb;exact ⟨hb,⟨w9,rfl,(fun z hz=>B9.ext hz (fun h=>h.elim))⟩⟩
       · intro vs X wq K KQ;obtain ⟨_,e20,k20⟩:=K.dep 20 rfl rfl rfl;refine zc 68 _ rfl e20 ?_;exact kh rfl ⟨Below.refl _ _,Left.of rfl⟩
     intro vs w3 LE AO AL AF AA;have hxd:Ext (Mut [some g4]) (wD) w3:=((Ext.refl _ (wD)).drew).trans LE;obtain ⟨w9,e21,k21⟩:=AL.2.2.2.2.2.2.2.2.2.2.2.2.2.2.2.2.2.2.2.2.2.1;obtain ⟨_,e22,k22⟩:=AL.2.2.2.2.2.2.2.2.2.2.2.2.2.2.2.2.2.2.2.2.2.2.1;have Wc21:=k21.here;refine qe (τ:=[(4,_),(5,.bool false)]) ⟨rfl,congrArg some e22,trivial⟩ ?_;clear AL AF AA AO;refine zov (gn (by kernel_rfl) (fun _ _ d_ _ _ h=>by cases d_<;>exact h) ?_);have B4E:=Wc21;refine qb ?_;exact ⟨⟨_,_,_,false,rfl,fun h=>by (cases h),fun h=>by have h20:=h.kind;have h21:=h.fit;have h22:=h.room;omega⟩,(((hE.noL w.heap.size).step hX (fun q hq=>Or.inl (show w.heap.size≤q by have hq:wB.heap.size≤q:=hq;have:=hE.size;omega))).step hxd (fun q hq=>Or.inl (show w.heap.size≤q by have:=yj hq;omega))).below (fun _ h=>h)⟩
   ·
    refine qc ?_;refine zcz qt (zck 23 rfl ?_);refine yeq 21 (Mut [some g4]) (fun k hk=>(by have:=yj hk;have:=B4D.lt;omega:k<wD.heap.size)) (jh [Fx.of (.agg #[.int .i64 ((yf (wat W a):Nat):Int),.int .i64 ((yg (wat W a):Nat):Int),.int .i64 ((zt (wat W a):Nat):Int)]),
     Fx.of (.pointer (some ⟨g7,0,none⟩)),
     Fx.of (.int .i64 ((yf (wat W a):Nat):Int)),
     Fx.of (.bool false),
     Fx.of (.bool false),
     Fx.of undef,
     Fx.of undef,
     Fx.of undef,
     Fx.of undef,
     Fx.of undef,
     Fx.of undef,
     Fx.of (.bool false),
     Fx.of (.bool false),
     Fx.of undef,
     Fx.of undef,
     Fx.of undef,
     Fx.of undef,
     Fx.of undef,
     Fx.of undef,
     Fx.of undef,
     Fx.of (.bool false),
     ⟨World,fun w9=>undef,fun w9 b=>(Blk b g4 89 #[.int .i64 ((yf (wat W a):Nat):Int),.int .i64 ((yg (wat W a):Nat):Int),.int .i64 ((zt (wat W a):Nat):Int)])⟩,
     Fx.of (.bool false)]) rfl ?_ ?_
    · refine ⟨?_,?_,?_,?_,?_,?_,?_,?_,?_,?_,?_,?_,?_,?_,?_,?_,?_,?_,?_,?_,?_,?_,?_,trivial⟩
      · intro vs X wq K KQ;have LE:=K.1;exact yy u89 rfl sz89 rfl (jg LE h74 B7) rfl ⟨Below.refl _ _,Left.of rfl⟩
      · intro vs X wq K KQ;exact yd u89 rfl sz3 (by decide) rfl ⟨Below.refl _ _,Left.of rfl⟩
      · intro vs X wq K KQ;have LE:=K.1;obtain ⟨_,e1,k1⟩:=K.dep 1 rfl rfl rfl;refine zc 49 _ rfl e1 ?_;exact zl Tryz.underlying3 rfl rfl (jg LE h74 B7) rfl ⟨Below.refl _ _,Left.of rfl⟩
      · intro vs X wq K KQ;obtain ⟨_,e2,k2⟩:=K.dep 2 rfl rfl rfl;refine zc 50 _ rfl e2 ?_;exact ko rfl rfl ⟨Below.refl _ _,Left.of ((by rw[decide_eq_false];omega:(.bool (decide (0<((yf (wat W a):Nat):Int))):Value)=_))⟩
      · intro vs X wq K KQ;obtain ⟨_,e3,k3⟩:=K.dep 3 rfl rfl rfl;refine zc 51 _ rfl e3 ?_;exact vk rfl ⟨Below.refl _ _,Left.of rfl⟩
      · intro vs X wq K KQ;obtain ⟨_,e4,k4⟩:=K.dep 4 rfl rfl rfl;refine zc 52 _ rfl e4 ?_;exact qn rfl ⟨Below.refl _ _,Left.of rfl⟩
      · intro vs X wq K KQ;obtain ⟨_,e5,k5⟩:=K.dep 5 rfl rfl rfl;refine zc 53 _ rfl e5 ?_;obtain ⟨_,e4,k4⟩:=K.dep 4 rfl rfl rfl;refine zc 52 _ rfl e4 ?_;exact qn rfl ⟨Below.refl _ _,Left.of rfl⟩
      · intro vs X wq K KQ;obtain ⟨_,e6,k6⟩:=K.dep 6 rfl rfl rfl;refine zc 54 _ rfl e6 ?_;obtain ⟨_,e4,k4⟩:=K.dep 4 rfl rfl rfl;refine zc 52 _ rfl e4 ?_;exact qn rfl ⟨Below.refl _ _,Left.of rfl⟩
      · intro vs X wq K KQ;obtain ⟨_,e4,k4⟩:=K.dep 4 rfl rfl rfl;refine zc 52 _ rfl e4 ?_;exact qn rfl ⟨Below.refl _ _,Left.of rfl⟩
      · intro vs X wq K KQ;obtain ⟨_,e8,k8⟩:=K.dep 8 rfl rfl rfl;refine zc 56 _ rfl e8 ?_;obtain ⟨_,e4,k4⟩:=K.dep 4 rfl rfl rfl;refine zc 52 _ rfl e4 ?_;exact qn rfl ⟨Below.refl _ _,Left.of rfl⟩
      · intro vs X wq K KQ;obtain ⟨_,e7,k7⟩:=K.dep 7 rfl rfl rfl;refine zc 55 _ rfl e7 ?_;obtain ⟨_,e9,k9⟩:=K.dep 9 rfl rfl rfl;refine zc 57 _ rfl e9 ?_;obtain ⟨_,e4,k4⟩:=K.dep 4 rfl rfl rfl;refine zc 52 _ rfl e4 ?_;exact qn rfl ⟨Below.refl _ _,Left.of rfl⟩
      · intro vs X wq K KQ;obtain ⟨_,e4,k4⟩:=K.dep 4 rfl rfl rfl;refine zc 52 _ rfl e4 ?_;obtain ⟨_,e10,k10⟩:=K.dep 10 rfl rfl rfl;refine zc 58 _ rfl e10 ?_;exact zmz rfl rfl ⟨Below.refl _ _,Left.of rfl⟩
      · intro vs X wq K KQ;obtain ⟨_,e11,k11⟩:=K.dep 11 rfl rfl rfl;refine zc 59 _ rfl e11 ?_;exact vk rfl ⟨Below.refl _ _,Left.of rfl⟩
      · intro vs X wq K KQ;obtain ⟨_,e12,k12⟩:=K.dep 12 rfl rfl rfl;refine zc 60 _ rfl e12 ?_;exact qn rfl ⟨Below.refl _ _,Left.of rfl⟩
      · intro vs X wq K KQ;obtain ⟨_,e13,k13⟩:=K.dep 13 rfl rfl rfl;refine zc 61 _ rfl e13 ?_;obtain ⟨_,e12,k12⟩:=K.dep 12 rfl rfl rfl;refine zc 60 _ rfl e12 ?_;exact qn rfl ⟨Below.refl _ _,Left.of rfl⟩
      · intro vs X wq K KQ;obtain ⟨_,e12,k12⟩:=K.dep 12 rfl rfl rfl;refine zc 60 _ rfl e12 ?_;exact qn rfl ⟨Below.refl _ _,Left.of rfl⟩
      · intro vs X wq K KQ;obtain ⟨_,e15,k15⟩:=K.dep 15 rfl rfl rfl;refine zc 63 _ rfl e15 ?_;obtain ⟨_,e12,k12⟩:=K.dep 12 rfl rfl rfl;refine zc 60 _ rfl e12 ?_;exact qn rfl ⟨Below.refl _ _,Left.of rfl⟩
      · intro vs X wq K KQ;obtain ⟨_,e12,k12⟩:=K.dep 12 rfl rfl rfl;refine zc 60 _ rfl e12 ?_;exact qn rfl ⟨Below.refl _ _,Left.of rfl⟩
      · intro vs X wq K KQ;obtain ⟨_,e16,k16⟩:=K.dep 16 rfl rfl rfl;refine zc 64 _ rfl e16 ?_;obtain ⟨_,e17,k17⟩:=K.dep 17 rfl rfl rfl;refine zc 65 _ rfl e17 ?_;obtain ⟨_,e12,k12⟩:=K.dep 12 rfl rfl rfl;refine zc 60 _ rfl e12 ?_;exact qn rfl ⟨Below.refl _ _,Left.of rfl⟩
      · intro vs X wq K KQ;obtain ⟨_,e14,k14⟩:=K.dep 14 rfl rfl rfl;refine zc 62 _ rfl e14 ?_;obtain ⟨_,e18,k18⟩:=K.dep 18 rfl rfl rfl;refine zc 66 _ rfl e18 ?_;obtain ⟨_,e12,k12⟩:=K.dep 12 rfl rfl rfl;refine zc 60 _ rfl e12 ?_;exact qn rfl ⟨Below.refl _ _,Left.of rfl⟩
      · intro vs X wq K KQ;obtain ⟨_,e12,k12⟩:=K.dep 12 rfl rfl rfl;refine zc 60 _ rfl e12 ?_;obtain ⟨_,e19,k19⟩:=K.dep 19 rfl rfl rfl;refine zc 67 _ rfl e19 ?_;exact zmz rfl rfl ⟨Below.refl _ _,Left.of rfl⟩
      · intro vs X wq K KQ;have LQ:=KQ rfl;obtain ⟨_,e0,k0⟩:=K.dep 0 rfl rfl rfl;refine zc 48 _ rfl e0 (zm sz89 rfl rfl (yh LQ B4D) rfl rfl rfl ?_);intro w9 B9 hb;exact ⟨hb,⟨w9,rfl,(fun z hz=>B9.ext hz (fun h=>h.elim))⟩⟩
      · intro vs X wq K KQ;obtain ⟨_,e20,k20⟩:=K.dep 20 rfl rfl rfl;refine zc 68 _ rfl e20 ?_;exact kh rfl ⟨Below.refl _ _,Left.of rfl⟩
    intro vs w4 LE AO AL AF AA;have hxd:Ext (Mut [some g4]) (wD) w4:=((Ext.refl _ (wD)).drew).trans LE;obtain ⟨w9,e21,k21⟩:=AL.2.2.2.2.2.2.2.2.2.2.2.2.2.2.2.2.2.2.2.2.2.1;obtain ⟨_,e22,k22⟩:=AL.2.2.2.2.2.2.2.2.2.2.2.2.2.2.2.2.2.2.2.2.2.2.1;have Wc21:=k21.here;refine qe (τ:=[(4,_),(5,.bool false)]) ⟨rfl,congrArg some e22,trivial⟩ ?_;clear AL AF AA AO;refine zov (gn (by kernel_rfl) (fun _ _ d_ _ _ h=>by cases d_<;>exact h) ?_);have B4E:=Wc21;refine qb ?_;exact ⟨⟨_,_,_,false,rfl,fun h=>by (cases h),fun h=>by have h20:=h.kind;have h21:=h.fit;have h22:=h.room;omega⟩,(((hE.noL w.heap.size).step hX (fun q hq=>Or.inl (show w.heap.size≤q by have hq:wB.heap.size≤q:=hq;have:=hE.size;omega))).step hxd (fun q hq=>Or.inl (show w.heap.size≤q by have:=yj hq;omega))).below (fun _ h=>h)⟩
end
end Go.Proofs.YtebjkmjfcijebaaGreat
namespace Go.Proofs.YtebjkmjfcijebaaGreat
end Go.Proofs.YtebjkmjfcijebaaGreat
namespace Go.Proofs.YtebjkmjfcijebaaGreat
open Go.RowKit
inductive Pre (W:List Nat) (top:Nat):Nat→List Nat→Prop
 | nil:Pre W top 1 []
 | snoc {a:Nat} {l:List Nat}:Pre W top a l→Lies W top a→Pre W top (a+zt (wat W a)) (l++ [a])
theorem Pre.app {W:List Nat} {top a:Nat} {l l2:List Nat} (h:Pre W top a l) (h2:Objs W top a l2):Objs W top 1 (l++l2):=by
 induction h generalizing l2 with
 | nil=>exact h2
 | @snoc a l h1 h3 ih=>
  have:=ih (.cons h3 h2);rw[List.append_assoc];exact this
theorem Pre.objs {W:List Nat} {top:Nat} {l:List Nat} (h:Pre W top top l):Objs W top 1 l:=by
 have:=h.app .nil;rwa [List.append_nil] at this
theorem Pre.one {W:List Nat} {top a:Nat} {l:List Nat} (h:Pre W top a l):1≤a:=by
 induction h with
 | nil=>exact Nat.le_refl _
 | snoc _ h3 ih=>omega
theorem Pre.mem {W:List Nat} {top a b:Nat} {l:List Nat} (h:Pre W top a l) (hb:b∈l):Lies W top b:=by
 induction h with
 | nil=>cases hb
 | snoc _ h3 ih=>
  rcases List.mem_append.1 hb with hb | hb
  · exact ih hb
  · rw[List.mem_singleton.1 hb];exact h3
def zzx (l:List Nat):List Value:=l.map fun x:Nat=>Value.int .i64 (x:Int)
theorem natsV_add (l:List Nat) (a:Nat):zzx l++ [.int .i64 ((a:Nat):Int)]=zzx (l++ [a]):=by unfold zzx;rw[List.map_append];rfl
theorem natsV_at {l:List Nat} {j x:Nat} (h:l[j]? =some x):(zzx l)[j]? =some (.int .i64 ((x:Nat):Int)):=by unfold zzx;rw[List.getElem?_map,h];rfl
def xc (top:Nat) (l:List Nat):Array Value:=((List.range top).map fun x=>Value.bool (decide (x∈l))).toArray
theorem zaq (top:Nat) (l:List Nat):(xc top l).size=top:=by unfold xc;simp
theorem zfk {top:Nat} {l:List Nat} {j:Nat} (h:j<top):(xc top l)[j]? =some (.bool (decide (j∈l))):=by
 unfold xc;rw[List.getElem?_toArray,List.getElem?_map,List.getElem?_range h];rfl
theorem qck {top a:Nat} {l:List Nat} (h:a<top):(xc top l).setIfInBounds a (.bool true)=xc top (l++ [a]):=by
 apply Array.ext_getElem?
 intro j;rw[Array.getElem?_setIfInBounds];by_cases hj:j<top
 · rw[zfk hj];split
   · rename_i e
     subst e;rw[if_pos (by rw[zaq];exact h)];rw[zfk hj,decide_eq_true (show a∈l++ [a] by simp)]
   · rename_i e
     rw[zfk hj];have:j≠a:=fun e2=>e e2.symm;simp[this]
 · rw[Array.getElem?_eq_none (by rw[zaq];omega),Array.getElem?_eq_none (by rw[zaq];omega),if_neg (by omega)]
theorem startsV_0 (top:Nat):xc top []=((List.range top).map fun _=>Value.bool false).toArray:=by unfold xc;simp
def Done (W:List Nat) (l:List Nat) (m:Nat):Prop:=∀j x,j<m→l[j]? =some x→ ∀i,i<yg (wat W x)→WordOk l (wat W (x+2+i))
theorem Done.next {W l:List Nat} {m x:Nat} (h:Done W l m) (hx:l[m]? =some x) (hw:∀i,i<yg (wat W x)→WordOk l (wat W (x+2+i))):Done W l (m+1):=fun j y hj hy=>by
 by_cases e:j=m
 · subst e;rw[hx] at hy;obtain rfl:=Option.some.inj hy;exact hw
 · exact h j y (by omega) hy
theorem Done.form {W l:List Nat} {top:Nat} (h:Done W l l.length) (h2:2≤W.length) (hm:W.length≤1048576) (h1:1≤top) (ht:top≤W.length) (h0:wat W 0=0) (hr:∀j,top≤j→j<W.length→wat W j=0) (hp:Pre W top top l):FormL W top l:=
 ⟨h2,hm,h1,ht,h0,fun i hi=>by
  by_cases e:i<W.length
  · exact hr i hi e
  · unfold wat;rw[List.getD_eq_getElem?_getD,List.getElem?_eq_none (by omega)];rfl,hp.objs,fun a ha i hi=>by
  obtain ⟨j,hj⟩:=List.mem_iff_getElem?.1 ha;exact h j a (List.getElem?_eq_some_iff.1 hj).1 hj i hi⟩
end Go.Proofs.YtebjkmjfcijebaaGreat
namespace Go.Proofs.YtebjkmjfcijebaaGreat
open Go.RowKit
set_option maxHeartbeats 20000000
attribute [local irreducible] OW RS CW EW
theorem zer_next {W:List Nat} {t i:Nat} (h:∀j,t≤j→j<i→wat W j=0) (hz:wat W i=0):∀j,t≤j→j<i+1→wat W j=0:=fun j h1 h2=>by
 by_cases h3:j=i
 · rw[h3];exact hz
 · exact h j h1 (by omega)
theorem words_next {W l:List Nat} {x i:Nat} (h:∀j,j<i→WordOk l (wat W (x+2+j))) (hw:WordOk l (wat W (x+2+i))):∀j,j<i+1→WordOk l (wat W (x+2+j)):=fun j hj=>by
 by_cases e:j=i
 · rw[e];exact hw
 · exact h j (by omega)
theorem rlook_yes (w : World) (A : Option Addr) (W : List Nat) (c n top a : Nat) (hM : MemA n w A W top) (hS : Seen W top a) (ha : a ≤ 1048576) : Calls Tryz.prog 48 #[  xg A W c top, .int .i64 ((a : Nat) : Int)] w fun e w' => e = .returned (.tuple #[.agg #[.int .i64 ((   yf (wat W a) : Nat) : Int), .int .i64 ((  yg (wat W a) : Nat) : Int), .int .i64 ((   zt (wat W a) : Nat) : Int)], .bool true]) ∧ Below w.heap.size w w' :=
 (rlook_any w A W c n top a hM ha hS.lo).mono fun e w' ⟨⟨k, t, s, b, he, h1, h2⟩, hb⟩ => by
  obtain ⟨_, rfl, rfl, rfl⟩ := h1 (h2 hS);rw [he, h2 hS];exact ⟨rfl, hb⟩
section
variable (w:World) (A:Option Addr) (W:List Nat) (c n:Nat) (top:Int) (hw:WordsA n w A W) (htop:I64 top) (hn:n≤w.heap.size)
include hw htop hn
set_option maxHeartbeats 20000000 in
theorem rall_any:Calls Tryz.prog 20 #[.agg #[.slice A W.length c,.int .i64 top]] w fun e w'=>Below w.heap.size w w'∧ ∃v b,e= .returned (.tuple #[v,.bool b])∧(b=true→ ∃t l A' c',top=((t:Nat):Int)∧FormL W t l∧v= .slice A' l.length c'∧w'.ownsRow w.heap.size 3 1 v l.length (zzx l)):=by
 have _:=htop;have hwl:=hw.len;obtain ⟨base,hbase⟩:∃base,base=w.heap.size:=⟨_,rfl⟩;refine zh Tryz.func20 rfl Tryz.ntmps20 rfl (zy ?_);refine za rfl (zn rfl ?_);rintro g1 wA B1 E1 G1;have hsA:=E1.size;have h1A:=B1.lt;have hE1:Ext (fun q=>base≤q) w wA:=E1.noL base;refine qo ?_;by_cases c2:W.length<2
 ·
  refine zf 22 (.bool true) rfl ((by rw[decide_eq_true];omega:(.bool (decide ((((W.length:Nat)):Int)<2)):Value)=_)) (stp30 ?_);exact ⟨(hE1).below (fun q hq=>by rw[←hbase];exact hq),_,false,rfl,fun h=>by (cases h)⟩
 ·
  refine zf 22 (.bool false) rfl ((by rw[decide_eq_false];omega:(.bool (decide ((((W.length:Nat)):Int)<2)):Value)=_)) (yb ?_);by_cases c3:1048576<W.length
  ·
   refine zf 28 (.bool true) rfl ((by rw[decide_eq_true];omega:(.bool (decide (1048576<(((W.length:Nat)):Int))):Value)=_)) (stp24 ?_);exact ⟨(hE1).below (fun q hq=>by rw[←hbase];exact hq),_,false,rfl,fun h=>by (cases h)⟩
  ·
   refine zf 28 (.bool false) rfl ((by rw[decide_eq_false];omega:(.bool (decide (1048576<(((W.length:Nat)):Int))):Value)=_)) (yk ?_);by_cases c4:top<1
   ·
    refine zf 33 (.bool true) rfl ((by rw[decide_eq_true];omega:(.bool (decide (top<1)):Value)=_)) (ylz ?_);exact ⟨(hE1).below (fun q hq=>by rw[←hbase];exact hq),_,false,rfl,fun h=>by (cases h)⟩
   ·
    refine zf 33 (.bool false) rfl ((by rw[decide_eq_false];omega:(.bool (decide (top<1)):Value)=_)) (qa ?_);by_cases c5:((W.length:Nat):Int)<top
    ·
     refine zk 40 (.bool true) rfl ((by rw[decide_eq_true];omega:(.bool (decide ((((W.length:Nat)):Int)<top)):Value)=_)) (zz ?_);exact ⟨(hE1).below (fun q hq=>by rw[←hbase];exact hq),_,false,rfl,fun h=>by (cases h)⟩
    ·
     refine zk 40 (.bool false) rfl ((by rw[decide_eq_false];omega:(.bool (decide ((((W.length:Nat)):Int)<top)):Value)=_)) ?_;obtain ⟨t,ht⟩:∃t:Nat,top=((t:Nat):Int):=⟨top.toNat,by omega⟩;have B1t:Blk wA g1 24 #[.slice A W.length c,.int .i64 ((t:Nat):Int)]:=by rw[←ht];exact B1
     have ht1:1≤t:=by omega
     have htl:t≤W.length:=by omega
     have hwA:=hw.no E1;have hMA:MemA n wA A W t:=⟨hwA,ht1,htl,by omega,by omega⟩;obtain ⟨gm,om,hA,hgm,hcm⟩:=hwA.at (show 0<W.length by omega);refine yx ?_;refine za rfl (zi (j:=0) u22 qk (congrArg (fun z↦some (Value.slice z W.length c)) hA) rfl rfl (by omega) (za rfl (yl u27 rfl rfl hcm (qc ?_))));refine zx rfl (fun h0=>?_) (fun h0=>?_)
     ·
      refine qa ?_;exact ⟨(hE1).below (fun q hq=>by rw[←hbase];exact hq),_,false,rfl,fun h=>by (cases h)⟩
     ·
      have h0:wat W 0=0:=by have h9:(((wat W 0:Nat):Int) !=0)=false:=h0;simpa using h9
      refine yt ?_;refine qw (ι:=Nat) (fun i=>[(1,.pointer (some ⟨g1,0,none⟩)),(4,.int .i64 ((i:Nat):Int))]) (fun i w'=>t≤i∧i≤W.length∧Ext No wA w'∧ ∀j,t≤j→j<i→wat W j=0) (fun i=>W.length-i) t ⟨rfl,rfl,trivial⟩ (⟨Nat.le_refl _,htl,Ext.refl _ _,fun j h1 h2=>by omega⟩) ?_;rintro i w2 ⟨hti,hil,hEi,hzi⟩;have B1i:=B1t.ext hEi (fun h=>h.elim);refine zz ?_;refine zx rfl (fun hc=>?_) (fun hc=>?_)
      ·
       have hc:=of_decide_eq_true hc;obtain ⟨gm,om,hA,hgm,hcm⟩:=(hwA.no hEi).at (show i<W.length by omega);refine qa ?_;refine za rfl (zi (j:=i) u22 qk (congrArg (fun z↦some (Value.slice z W.length c)) hA) rfl rfl (by omega) (za rfl (yl u27 rfl rfl hcm (qc ?_))));refine zx rfl (fun hz=>?_) (fun hz=>?_)
       ·
        refine jq ?_;exact ⟨(hE1.step hEi (fun _ h=>h.elim)).below (fun q hq=>by rw[←hbase];exact hq),_,false,rfl,fun h=>by (cases h)⟩
       ·
        have hz:wat W i=0:=by have h9:(((wat W i:Nat):Int) !=0)=false:=hz;simpa using h9
        refine yk ?_;refine za rfl (zr rfl rfl (zg (by omega)) (zy ?_));exact qf (i+1) (by show W.length-(i+1)<W.length-i;omega) ⟨rfl,rfl,trivial⟩ (⟨by omega,by omega,hEi,zer_next hzi hz⟩)
      ·
       have hc:=of_decide_eq_false hc;refine jt ?_;refine za rfl (ziv (n:=t) u87 inf4 rfl rfl rfl rfl rfl (by omega) (by omega) ?_);rintro gs wB Bs0 E2 Gs;have Bs:Blk wB gs 4 (xc t []):=by
        rw[startsV_0];have e:(List.replicate t (Value.bool false)).toArray=((List.range t).map fun _=>Value.bool false).toArray:=by rw[List.map_const',List.length_range]
        rw[←e];exact Bs0
       have hEB:Ext No wA wB:=hEi.trans E2;have hsB:=hEB.size;have hE2s:=E2.size;have hsi:=hEi.size;have hgs:=Bs.lt;have hMB:=hMA.no hEB;have B1B:=B1t.ext hEB (fun h=>h.elim);refine zz ?_;refine qw (ι:=Nat×List Nat×Option Addr×Nat) (fun (a,l,A5,c5)=>[(1,.pointer (some ⟨g1,0,none⟩)),(5,.slice A5 l.length c5),(6,.slice (some ⟨gs,0,none⟩) t t),(7,.int .i64 ((a:Nat):Int))]) (fun (a,l,A5,c5) w'=>a≤t∧Pre W t a l∧l.length<a∧Ext (fun q=>gs≤q) wB w'∧w'.ownsRow wB.heap.size 3 1 (.slice A5 l.length c5) l.length (zzx l)∧Blk w' gs 4 (xc t l)) (fun (a,_)=>t-a) (1,[],none,0) ⟨rfl,rfl,rfl,rfl,trivial⟩ (⟨ht1,.nil,Nat.zero_lt_one,Ext.refl _ _,owns_nil,Bs⟩) ?_;rintro ⟨a,l,A5,c5⟩ w4 ⟨hat,hpre,hla,hEa,hOa,Bsa⟩;have hgB1:g1<gs:=by omega
       have B1a:=B1B.ext hEa (fun h=>by have h:gs≤g1:=h;omega);have hXn:∀q,gs≤q→n≤q:=fun q hq=>by omega
       have hMa:MemA n w4 A W t:=hMB.low ⟨hEa,fun q hq=>hXn q hq⟩;have hEw:Ext (fun q=>base≤q) w w4:=(hE1.step hEB (fun _ h=>h.elim)).step hEa (fun q hq=>Or.inl (show base≤q by have hq:gs≤q:=hq;omega));have ha1:=hpre.one;refine qa ?_;refine zx rfl (fun hc2=>?_) (fun hc2=>?_)
       ·
        have hc2:=of_decide_eq_true hc2;obtain ⟨wa,hwa⟩:∃wa,wa=w4:=⟨_,rfl⟩;subst hwa;refine yu ?_;refine za rfl (zd en48 rfl ((rlook_any _ A W c n t a hMa (by omega) ha1).mono ?_));rintro e w5 ⟨⟨k,tt,s,b,rfl,hb1,hb2⟩,hb⟩;refine ⟨_,rfl,?_⟩;have E5:=Ext.of_below hb No;have hs5:=E5.size;refine qc ?_;refine za rfl (zp zr89 ?_);rintro g8 wu5 B80 E6 G8;refine zq (zm sz89 rfl rfl B80 rfl rfl rfl ?_);rintro wu6 B81 E7;have hE67:Ext (fun q=>wa.heap.size≤q) wa wu6:=((E5.trans E6).noL wa.heap.size).step E7 (fun q hq=>Or.inl (show wa.heap.size≤q by have:=yj hq;omega));have hE6w:Ext (fun q=>base≤q) w wu6:=hEw.step hE67 (fun q hq=>Or.inl (show base≤q by have hq:wa.heap.size≤q:=hq;have:=hEw.size;omega));have B16:=B1a.ext hE67 (fun h=>by have:=B1a.lt;have h:wa.heap.size≤g1:=h;omega);have Bs6:=Bsa.ext hE67 (fun h=>by have:=Bsa.lt;have h:wa.heap.size≤gs:=h;omega);have hO6:=qr hOa hE67 (fun q hq h=>by have:=zvk hOa q hq;have h:wa.heap.size≤q:=h;omega);have hM6:MemA n wu6 A W t:=hMa.low ⟨hE67,fun q hq=>by have hq:wa.heap.size≤q:=hq;have:=hMa.size;omega⟩;by_cases hb0:b=true
        ·
         refine zf 73 (.bool true) rfl ((by rw[hb0]:(.bool b:Value)=_)) ?_;obtain ⟨hS,hk,htt,hss⟩:=hb1 hb0;have B8:Blk wu6 g8 89 #[.int .i64 ((yf (wat W a):Nat):Int),.int .i64 ((yg (wat W a):Nat):Int),.int .i64 ((zt (wat W a):Nat):Int)]:=by rw[←hk,←htt,←hss];exact B81
         have hS2:=hS.hi;have hS3:=hS.room;have hS4:=hS.fit;have h8:=ydq (wat W a);have h9:=zok (wat W a);have h10:=zcx (wat W a);obtain ⟨gm,om,hA,hgm,hcm⟩:=hM6.words.at (show a<W.length by omega);have hcm1:wu6.cell? ⟨gm,om+(a+1),none⟩=some (.int .u64 ((wat W (a+1):Nat):Int)):=by
          obtain ⟨gm2,om2,hA2,_,hc2⟩:=hM6.words.at (show a+1<W.length by omega);rw[hA] at hA2;cases hA2
          exact hc2
         by_cases hhd:wat W a=jr (yf (wat W a)) (yg (wat W a)) (zt (wat W a))
         ·
          have hhd2:wat W a=yf (wat W a)+256*yg (wat W a)+4294967296*zt (wat W a):=hhd;by_cases hnl:wat W (a+1)=0
          ·
           refine yk ?_;refine yv (No) Mut.none_ [] [] (jh [Fx.of (.bool true),
            Fx.of (.bool false),
            Fx.of (.bool false),
            Fx.of (.pointer (some ⟨g1,0,none⟩)),
            Fx.of (.slice A W.length c),
            Fx.of (.int .i64 ((a:Nat):Int)),
            Fx.of (.pointer (some ⟨gm,om+a,none⟩)),
            Fx.of (.int .u64 ((wat W a:Nat):Int)),
            Fx.of (.pointer (some ⟨g8,0,none⟩)),
            Fx.of (.int .i64 ((yf (wat W a):Nat):Int)),
            Fx.of (.int .u64 ((yf (wat W a):Nat):Int)),
            Fx.of (.pointer (some ⟨g8,1,none⟩)),
            Fx.of (.int .i64 ((yg (wat W a):Nat):Int)),
            Fx.of (.int .u64 ((yg (wat W a):Nat):Int)),
            Fx.of (.int .u64 (256*((yg (wat W a):Nat):Int))),
            Fx.of (.int .u64 (((yf (wat W a):Nat):Int)+(256*((yg (wat W a):Nat):Int)))),
            Fx.of (.pointer (some ⟨g8,2,none⟩)),
            Fx.of (.int .i64 ((zt (wat W a):Nat):Int)),
            Fx.of (.int .u64 ((zt (wat W a):Nat):Int)),
            Fx.of (.int .u64 (4294967296*((zt (wat W a):Nat):Int))),
            Fx.of (.int .u64 ((((yf (wat W a):Nat):Int)+(256*((yg (wat W a):Nat):Int)))+(4294967296*((zt (wat W a):Nat):Int)))),
            Fx.of (.bool false),
            Fx.of (.bool false),
            Fx.of (.bool false),
            Fx.of (.pointer (some ⟨g1,0,none⟩)),
            Fx.of (.slice A W.length c),
            Fx.of (.int .i64 ((a:Nat):Int)),
            Fx.of (.int .i64 (((a:Nat):Int)+1)),
            Fx.of (.pointer (some ⟨gm,om+(a+1),none⟩)),
            Fx.of (.int .u64 ((wat W (a+1):Nat):Int)),
            Fx.of (.bool false),
            Fx.of (.bool false)]) qt rfl trivial (fun _ h=>by cases h) ?_ ?_
           · refine ⟨arm,arm,arm,arm,?_,arm,?_,?_,arm,?_,?_,arm,?_,?_,?_,?_,arm,?_,?_,?_,?_,?_,arm,arm,arm,?_,arm,?_,?_,?_,?_,arm,trivial⟩
             · intro vs X wq K;have LE:=K.1;obtain ⟨_,e3,k3⟩:=K.dep 3 rfl rfl rfl;refine zc 77 _ rfl e3 ?_;obtain ⟨_,e2,k2⟩:=K.dep 2 rfl rfl rfl;refine zc 76 _ rfl e2 ?_;exact zo rfl (zl u22 rfl rfl (yh LE B16) rfl ⟨Below.refl _ _,Left.of rfl⟩)
             · intro vs X wq K;obtain ⟨_,e4,k4⟩:=K.dep 4 rfl rfl rfl;refine zc 78 _ rfl e4 ?_;obtain ⟨_,e5,k5⟩:=K.dep 5 rfl rfl rfl;refine zc 79 _ rfl e5 ?_;obtain ⟨_,e2,k2⟩:=K.dep 2 rfl rfl rfl;refine zc 76 _ rfl e2 ?_;exact zo rfl (zi (j:=a) u22 qk (congrArg (fun z↦some (Value.slice z W.length c)) hA) rfl rfl (by omega) ⟨Below.refl _ _,Left.of rfl⟩)
             · intro vs X wq K;have LE:=K.1;obtain ⟨_,e6,k6⟩:=K.dep 6 rfl rfl rfl;refine zc 80 _ rfl e6 ?_;obtain ⟨_,e2,k2⟩:=K.dep 2 rfl rfl rfl;refine zc 76 _ rfl e2 ?_;exact zo rfl (yl u27 rfl rfl (kq LE hcm) ⟨Below.refl _ _,Left.of rfl⟩)
             · intro vs X wq K;have LE:=K.1;obtain ⟨_,e8,k8⟩:=K.dep 8 rfl rfl rfl;refine zc 82 _ rfl e8 ?_;obtain ⟨_,e2,k2⟩:=K.dep 2 rfl rfl rfl;refine zc 76 _ rfl e2 ?_;exact zo rfl (zl Tryz.underlying3 rfl rfl (yh LE B8) rfl ⟨Below.refl _ _,Left.of rfl⟩)
             · intro vs X wq K;obtain ⟨_,e9,k9⟩:=K.dep 9 rfl rfl rfl;refine zc 83 _ rfl e9 ?_;obtain ⟨_,e2,k2⟩:=K.dep 2 rfl rfl rfl;refine zc 76 _ rfl e2 ?_;exact zo rfl (yi u27 Tryz.underlying3 rfl (wrap_u64 (by omega)) ⟨Below.refl _ _,Left.of rfl⟩)
             · intro vs X wq K;have LE:=K.1;obtain ⟨_,e11,k11⟩:=K.dep 11 rfl rfl rfl;refine zc 85 _ rfl e11 ?_;obtain ⟨_,e2,k2⟩:=K.dep 2 rfl rfl rfl;refine zc 76 _ rfl e2 ?_;exact zo rfl (zl Tryz.underlying3 rfl rfl (yh LE B8) rfl ⟨Below.refl _ _,Left.of rfl⟩)
             · intro vs X wq K;obtain ⟨_,e12,k12⟩:=K.dep 12 rfl rfl rfl;refine zc 86 _ rfl e12 ?_;obtain ⟨_,e2,k2⟩:=K.dep 2 rfl rfl rfl;refine zc 76 _ rfl e2 ?_;exact zo rfl (yi u27 Tryz.underlying3 rfl (wrap_u64 (by omega)) ⟨Below.refl _ _,Left.of rfl⟩)
             · intro vs X wq K;obtain ⟨_,e13,k13⟩:=K.dep 13 rfl rfl rfl;refine zc 87 _ rfl e13 ?_;obtain ⟨_,e2,k2⟩:=K.dep 2 rfl rfl rfl;refine zc 76 _ rfl e2 ?_;exact zo rfl (vn rfl rfl (wrap_u64 (by omega)) ⟨Below.refl _ _,Left.of rfl⟩)
             · intro vs X wq K;obtain ⟨_,e10,k10⟩:=K.dep 10 rfl rfl rfl;refine zc 84 _ rfl e10 ?_;obtain ⟨_,e14,k14⟩:=K.dep 14 rfl rfl rfl;refine zc 88 _ rfl e14 ?_;obtain ⟨_,e2,k2⟩:=K.dep 2 rfl rfl rfl;refine zc 76 _ rfl e2 ?_;exact zo rfl (zr rfl rfl (wrap_u64 (by omega)) ⟨Below.refl _ _,Left.of rfl⟩)
             · intro vs X wq K;have LE:=K.1;obtain ⟨_,e16,k16⟩:=K.dep 16 rfl rfl rfl;refine zc 90 _ rfl e16 ?_;obtain ⟨_,e2,k2⟩:=K.dep 2 rfl rfl rfl;refine zc 76 _ rfl e2 ?_;exact zo rfl (zl Tryz.underlying3 rfl rfl (yh LE B8) rfl ⟨Below.refl _ _,Left.of rfl⟩)
             · intro vs X wq K;obtain ⟨_,e17,k17⟩:=K.dep 17 rfl rfl rfl;refine zc 91 _ rfl e17 ?_;obtain ⟨_,e2,k2⟩:=K.dep 2 rfl rfl rfl;refine zc 76 _ rfl e2 ?_;exact zo rfl (yi u27 Tryz.underlying3 rfl (wrap_u64 (by omega)) ⟨Below.refl _ _,Left.of rfl⟩)
             · intro vs X wq K;obtain ⟨_,e18,k18⟩:=K.dep 18 rfl rfl rfl;refine zc 92 _ rfl e18 ?_;obtain ⟨_,e2,k2⟩:=K.dep 2 rfl rfl rfl;refine zc 76 _ rfl e2 ?_;exact zo rfl (vn rfl rfl (wrap_u64 (by omega)) ⟨Below.refl _ _,Left.of rfl⟩)
             · intro vs X wq K;obtain ⟨_,e15,k15⟩:=K.dep 15 rfl rfl rfl;refine zc 89 _ rfl e15 ?_;obtain ⟨_,e19,k19⟩:=K.dep 19 rfl rfl rfl;refine zc 93 _ rfl e19 ?_;obtain ⟨_,e2,k2⟩:=K.dep 2 rfl rfl rfl;refine zc 76 _ rfl e2 ?_;exact zo rfl (zr rfl rfl (wrap_u64 (by omega)) ⟨Below.refl _ _,Left.of rfl⟩)
             · intro vs X wq K;obtain ⟨_,e7,k7⟩:=K.dep 7 rfl rfl rfl;refine zc 81 _ rfl e7 ?_;obtain ⟨_,e20,k20⟩:=K.dep 20 rfl rfl rfl;refine zc 94 _ rfl e20 ?_;obtain ⟨_,e2,k2⟩:=K.dep 2 rfl rfl rfl;refine zc 76 _ rfl e2 ?_;exact zo rfl (ybz rfl rfl ⟨Below.refl _ _,Left.of ((by congr 1;rw[bne_eq_false_iff_eq];omega:(.bool (((wat W a:Nat):Int) !=((((yf (wat W a):Nat):Int)+(256*((yg (wat W a):Nat):Int)))+(4294967296*((zt (wat W a):Nat):Int)))):Value)=_))⟩)
             · intro vs X wq K;have LE:=K.1;obtain ⟨_,e24,k24⟩:=K.dep 24 rfl rfl rfl;refine zc 98 _ rfl e24 ?_;obtain ⟨_,e23,k23⟩:=K.dep 23 rfl rfl rfl;refine zc 97 _ rfl e23 ?_;exact zo rfl (zl u22 rfl rfl (yh LE B16) rfl ⟨Below.refl _ _,Left.of rfl⟩)
             · intro vs X wq K;obtain ⟨_,e26,k26⟩:=K.dep 26 rfl rfl rfl;refine zc 100 _ rfl e26 ?_;obtain ⟨_,e23,k23⟩:=K.dep 23 rfl rfl rfl;refine zc 97 _ rfl e23 ?_;exact zo rfl (zr rfl rfl (zg (by omega)) ⟨Below.refl _ _,Left.of rfl⟩)
             · intro vs X wq K;obtain ⟨_,e25,k25⟩:=K.dep 25 rfl rfl rfl;refine zc 99 _ rfl e25 ?_;obtain ⟨_,e27,k27⟩:=K.dep 27 rfl rfl rfl;refine zc 101 _ rfl e27 ?_;obtain ⟨_,e23,k23⟩:=K.dep 23 rfl rfl rfl;refine zc 97 _ rfl e23 ?_;exact zo rfl (zi (j:=a+1) u22 qk (congrArg (fun z↦some (Value.slice z W.length c)) hA) rfl (by omega) (by omega) ⟨Below.refl _ _,Left.of rfl⟩)
             · intro vs X wq K;have LE:=K.1;obtain ⟨_,e28,k28⟩:=K.dep 28 rfl rfl rfl;refine zc 102 _ rfl e28 ?_;obtain ⟨_,e23,k23⟩:=K.dep 23 rfl rfl rfl;refine zc 97 _ rfl e23 ?_;exact zo rfl (yl u27 rfl rfl (kq LE hcm1) ⟨Below.refl _ _,Left.of rfl⟩)
             · intro vs X wq K;obtain ⟨_,e29,k29⟩:=K.dep 29 rfl rfl rfl;refine zc 103 _ rfl e29 ?_;obtain ⟨_,e23,k23⟩:=K.dep 23 rfl rfl rfl;refine zc 97 _ rfl e23 ?_;exact zo rfl (ybz rfl rfl ⟨Below.refl _ _,Left.of ((by congr 1;rw[bne_eq_false_iff_eq];omega:(.bool (((wat W (a+1):Nat):Int) !=0):Value)=_))⟩)
           intro vs w6 LE AO AL AF AA;have hbd:Below (wu6).heap.size (wu6) w6:=(((Ext.refl No (wu6)).drew).trans LE).toBelow;obtain ⟨_,e31,k31⟩:=AL.2.2.2.2.2.2.2.2.2.2.2.2.2.2.2.2.2.2.2.2.2.2.2.2.2.2.2.2.2.2.2.1;refine qe (τ:=[(1,_),(5,_),(6,_),(7,_),(8,_),(105,.bool false)]) ⟨rfl,rfl,rfl,rfl,rfl,congrArg some e31,trivial⟩ ?_;clear AL AF AA AO;have hEd:=Ext.of_below hbd No;have Bs7:=Bs6.ext hEd (fun h=>h.elim);have B17:=B16.ext hEd (fun h=>h.elim);have B87:=B8.ext hEd (fun h=>h.elim);have hO7:=qr hO6 hEd (fun _ _ h=>h.elim);refine yx ?_;refine za rfl (zi (j:=a) u87 sz4 rfl rfl rfl (by omega) (zq (jz (cs':=xc t (l++ [a])) sz4 rfl rfl Bs7 rfl rfl (by rw[zaq];omega) (by rw[Nat.zero_add];exact qck (by omega)) ?_)));rintro wu7 Bs8 E8;have B88:=blk_blk B87 Bs7 (by decide) E8;have hO8:=zlv hO7 Bs7 (by decide) E8;refine yb ?_;refine za rfl (vi (cs:=#[.int .i64 ((a:Nat):Int)]) u55 sz3 zr3 (by decide) rfl (by rw[kc];rfl) ?_);rintro gx wu8 Bx E9 Gx;have hO9:=qr hO8 E9 (fun _ _ h=>h.elim);have hs67:=hE67.size;have hsd:=hEd.size;have hs8:=E8.size;have hs9:=E9.size;have hsa:=hEa.size;refine za rfl (zmq (n':=(l++ [a]).length) (xs':=zzx (l++ [a])) u55 inf3 rfl (by decide) rfl hO9 rfl (ynv Bx Bx.lt rfl) (by simp[Value.oneCell']) (by rw[List.length_append];rfl) (by rw[←natsV_add]) (by rw[List.length_append];unfold maxLen;simp;omega) (by rw[List.length_append];simp;omega) (by omega) ?_);rintro A6 c6 wu9 hO10 E10 N10;have B810:=zek (B88.ext E9 (fun h=>h.elim)) hO9 (by decide) E10;have Bs10:=zek (Bs8.ext E9 (fun h=>h.elim)) hO9 (by decide) E10;refine yu ?_
           have hEn:Ext (fun q=>gs≤q) wB wu9:=((((hEa.step hE67 (fun q hq=>Or.inl (show gs≤q by have hq:wa.heap.size≤q:=hq;omega))).step hEd (fun _ h=>h.elim)).step E8 (fun q hq=>Or.inl (show gs≤q by have:=yj hq;omega))).step E9 (fun _ h=>h.elim)).step E10 (fun q hq=>Or.inl (show gs≤q by have:=own_ge hO9 q hq;omega));refine za rfl (zr rfl rfl (zg (by omega)) (qc ?_));exact qf (a+zt (wat W a),l++ [a],A6,c6) (by show t-(a+zt (wat W a))<t-a;omega) ⟨rfl,rfl,rfl,rfl,trivial⟩ (⟨hS3,.snoc hpre ⟨hS,hhd,hnl⟩,by rw[List.length_append];simp;omega,hEn,hO10,Bs10⟩)
          ·
           refine yk ?_;refine yv (No) Mut.none_ [] [] (jh [Fx.of (.bool true),
            Fx.of (.bool false),
            Fx.of (.bool false),
            Fx.of (.pointer (some ⟨g1,0,none⟩)),
            Fx.of (.slice A W.length c),
            Fx.of (.int .i64 ((a:Nat):Int)),
            Fx.of (.pointer (some ⟨gm,om+a,none⟩)),
            Fx.of (.int .u64 ((wat W a:Nat):Int)),
            Fx.of (.pointer (some ⟨g8,0,none⟩)),
            Fx.of (.int .i64 ((yf (wat W a):Nat):Int)),
            Fx.of (.int .u64 ((yf (wat W a):Nat):Int)),
            Fx.of (.pointer (some ⟨g8,1,none⟩)),
            Fx.of (.int .i64 ((yg (wat W a):Nat):Int)),
            Fx.of (.int .u64 ((yg (wat W a):Nat):Int)),
            Fx.of (.int .u64 (256*((yg (wat W a):Nat):Int))),
            Fx.of (.int .u64 (((yf (wat W a):Nat):Int)+(256*((yg (wat W a):Nat):Int)))),
            Fx.of (.pointer (some ⟨g8,2,none⟩)),
            Fx.of (.int .i64 ((zt (wat W a):Nat):Int)),
            Fx.of (.int .u64 ((zt (wat W a):Nat):Int)),
            Fx.of (.int .u64 (4294967296*((zt (wat W a):Nat):Int))),
            Fx.of (.int .u64 ((((yf (wat W a):Nat):Int)+(256*((yg (wat W a):Nat):Int)))+(4294967296*((zt (wat W a):Nat):Int)))),
            Fx.of (.bool false),
            Fx.of (.bool false),
            Fx.of (.bool false),
            Fx.of (.pointer (some ⟨g1,0,none⟩)),
            Fx.of (.slice A W.length c),
            Fx.of (.int .i64 ((a:Nat):Int)),
            Fx.of (.int .i64 (((a:Nat):Int)+1)),
            Fx.of (.pointer (some ⟨gm,om+(a+1),none⟩)),
            Fx.of (.int .u64 ((wat W (a+1):Nat):Int)),
            Fx.of (.bool true),
            Fx.of (.bool true)]) qt rfl trivial (fun _ h=>by cases h) ?_ ?_
           · refine ⟨arm,arm,arm,arm,?_,arm,?_,?_,arm,?_,?_,arm,?_,?_,?_,?_,arm,?_,?_,?_,?_,?_,arm,arm,arm,?_,arm,?_,?_,?_,?_,arm,trivial⟩
             · intro vs X wq K;have LE:=K.1;obtain ⟨_,e3,k3⟩:=K.dep 3 rfl rfl rfl;refine zc 77 _ rfl e3 ?_;obtain ⟨_,e2,k2⟩:=K.dep 2 rfl rfl rfl;refine zc 76 _ rfl e2 ?_;exact zo rfl (zl u22 rfl rfl (yh LE B16) rfl ⟨Below.refl _ _,Left.of rfl⟩)
             · intro vs X wq K;obtain ⟨_,e4,k4⟩:=K.dep 4 rfl rfl rfl;refine zc 78 _ rfl e4 ?_;obtain ⟨_,e5,k5⟩:=K.dep 5 rfl rfl rfl;refine zc 79 _ rfl e5 ?_;obtain ⟨_,e2,k2⟩:=K.dep 2 rfl rfl rfl;refine zc 76 _ rfl e2 ?_;exact zo rfl (zi (j:=a) u22 qk (congrArg (fun z↦some (Value.slice z W.length c)) hA) rfl rfl (by omega) ⟨Below.refl _ _,Left.of rfl⟩)
             · intro vs X wq K;have LE:=K.1;obtain ⟨_,e6,k6⟩:=K.dep 6 rfl rfl rfl;refine zc 80 _ rfl e6 ?_;obtain ⟨_,e2,k2⟩:=K.dep 2 rfl rfl rfl;refine zc 76 _ rfl e2 ?_;exact zo rfl (yl u27 rfl rfl (kq LE hcm) ⟨Below.refl _ _,Left.of rfl⟩)
             · intro vs X wq K;have LE:=K.1;obtain ⟨_,e8,k8⟩:=K.dep 8 rfl rfl rfl;refine zc 82 _ rfl e8 ?_;obtain ⟨_,e2,k2⟩:=K.dep 2 rfl rfl rfl;refine zc 76 _ rfl e2 ?_;exact zo rfl (zl Tryz.underlying3 rfl rfl (yh LE B8) rfl ⟨Below.refl _ _,Left.of rfl⟩)
             · intro vs X wq K;obtain ⟨_,e9,k9⟩:=K.dep 9 rfl rfl rfl;refine zc 83 _ rfl e9 ?_;obtain ⟨_,e2,k2⟩:=K.dep 2 rfl rfl rfl;refine zc 76 _ rfl e2 ?_;exact zo rfl (yi u27 Tryz.underlying3 rfl (wrap_u64 (by omega)) ⟨Below.refl _ _,Left.of rfl⟩)
             · intro vs X wq K;have LE:=K.1;obtain ⟨_,e11,k11⟩:=K.dep 11 rfl rfl rfl;refine zc 85 _ rfl e11 ?_;obtain ⟨_,e2,k2⟩:=K.dep 2 rfl rfl rfl;refine zc 76 _ rfl e2 ?_;exact zo rfl (zl Tryz.underlying3 rfl rfl (yh LE B8) rfl ⟨Below.refl _ _,Left.of rfl⟩)
             · intro vs X wq K;obtain ⟨_,e12,k12⟩:=K.dep 12 rfl rfl rfl;refine zc 86 _ rfl e12 ?_;obtain ⟨_,e2,k2⟩:=K.dep 2 rfl rfl rfl;refine zc 76 _ rfl e2 ?_;exact zo rfl (yi u27 Tryz.underlying3 rfl (wrap_u64 (by omega)) ⟨Below.refl _ _,Left.of rfl⟩)
             · intro vs X wq K;obtain ⟨_,e13,k13⟩:=K.dep 13 rfl rfl rfl;refine zc 87 _ rfl e13 ?_;obtain ⟨_,e2,k2⟩:=K.dep 2 rfl rfl rfl;refine zc 76 _ rfl e2 ?_;exact zo rfl (vn rfl rfl (wrap_u64 (by omega)) ⟨Below.refl _ _,Left.of rfl⟩)
             · intro vs X wq K;obtain ⟨_,e10,k10⟩:=K.dep 10 rfl rfl rfl;refine zc 84 _ rfl e10 ?_;obtain ⟨_,e14,k14⟩:=K.dep 14 rfl rfl rfl;refine zc 88 _ rfl e14 ?_;obtain ⟨_,e2,k2⟩:=K.dep 2 rfl rfl rfl;refine zc 76 _ rfl e2 ?_;exact zo rfl (zr rfl rfl (wrap_u64 (by omega)) ⟨Below.refl _ _,Left.of rfl⟩)
             · intro vs X wq K;have LE:=K.1;obtain ⟨_,e16,k16⟩:=K.dep 16 rfl rfl rfl;refine zc 90 _ rfl e16 ?_;obtain ⟨_,e2,k2⟩:=K.dep 2 rfl rfl rfl;refine zc 76 _ rfl e2 ?_;exact zo rfl (zl Tryz.underlying3 rfl rfl (yh LE B8) rfl ⟨Below.refl _ _,Left.of rfl⟩)
             · intro vs X wq K;obtain ⟨_,e17,k17⟩:=K.dep 17 rfl rfl rfl;refine zc 91 _ rfl e17 ?_;obtain ⟨_,e2,k2⟩:=K.dep 2 rfl rfl rfl;refine zc 76 _ rfl e2 ?_;exact zo rfl (yi u27 Tryz.underlying3 rfl (wrap_u64 (by omega)) ⟨Below.refl _ _,Left.of rfl⟩)
             · intro vs X wq K;obtain ⟨_,e18,k18⟩:=K.dep 18 rfl rfl rfl;refine zc 92 _ rfl e18 ?_;obtain ⟨_,e2,k2⟩:=K.dep 2 rfl rfl rfl;refine zc 76 _ rfl e2 ?_;exact zo rfl (vn rfl rfl (wrap_u64 (by omega)) ⟨Below.refl _ _,Left.of rfl⟩)
             · intro vs X wq K;obtain ⟨_,e15,k15⟩:=K.dep 15 rfl rfl rfl;refine zc 89 _ rfl e15 ?_;obtain ⟨_,e19,k19⟩:=K.dep 19 rfl rfl rfl;refine zc 93 _ rfl e19 ?_;obtain ⟨_,e2,k2⟩:=K.dep 2 rfl rfl rfl;refine zc 76 _ rfl e2 ?_;exact zo rfl (zr rfl rfl (wrap_u64 (by omega)) ⟨Below.refl _ _,Left.of rfl⟩)
             · intro vs X wq K;obtain ⟨_,e7,k7⟩:=K.dep 7 rfl rfl rfl;refine zc 81 _ rfl e7 ?_;obtain ⟨_,e20,k20⟩:=K.dep 20 rfl rfl rfl;refine zc 94 _ rfl e20 ?_;obtain ⟨_,e2,k2⟩:=K.dep 2 rfl rfl rfl;refine zc 76 _ rfl e2 ?_;exact zo rfl (ybz rfl rfl ⟨Below.refl _ _,Left.of ((by congr 1;rw[bne_eq_false_iff_eq];omega:(.bool (((wat W a:Nat):Int) !=((((yf (wat W a):Nat):Int)+(256*((yg (wat W a):Nat):Int)))+(4294967296*((zt (wat W a):Nat):Int)))):Value)=_))⟩)
             · intro vs X wq K;have LE:=K.1;obtain ⟨_,e24,k24⟩:=K.dep 24 rfl rfl rfl;refine zc 98 _ rfl e24 ?_;obtain ⟨_,e23,k23⟩:=K.dep 23 rfl rfl rfl;refine zc 97 _ rfl e23 ?_;exact zo rfl (zl u22 rfl rfl (yh LE B16) rfl ⟨Below.refl _ _,Left.of rfl⟩)
             · intro vs X wq K;obtain ⟨_,e26,k26⟩:=K.dep 26 rfl rfl rfl;refine zc 100 _ rfl e26 ?_;obtain ⟨_,e23,k23⟩:=K.dep 23 rfl rfl rfl;refine zc 97 _ rfl e23 ?_;exact zo rfl (zr rfl rfl (zg (by omega)) ⟨Below.refl _ _,Left.of rfl⟩)
             · intro vs X wq K;obtain ⟨_,e25,k25⟩:=K.dep 25 rfl rfl rfl;refine zc 99 _ rfl e25 ?_;obtain ⟨_,e27,k27⟩:=K.dep 27 rfl rfl rfl;refine zc 101 _ rfl e27 ?_;obtain ⟨_,e23,k23⟩:=K.dep 23 rfl rfl rfl;refine zc 97 _ rfl e23 ?_;exact zo rfl (zi (j:=a+1) u22 qk (congrArg (fun z↦some (Value.slice z W.length c)) hA) rfl (by omega) (by omega) ⟨Below.refl _ _,Left.of rfl⟩)
             · intro vs X wq K;have LE:=K.1;obtain ⟨_,e28,k28⟩:=K.dep 28 rfl rfl rfl;refine zc 102 _ rfl e28 ?_;obtain ⟨_,e23,k23⟩:=K.dep 23 rfl rfl rfl;refine zc 97 _ rfl e23 ?_;exact zo rfl (yl u27 rfl rfl (kq LE hcm1) ⟨Below.refl _ _,Left.of rfl⟩)
             · intro vs X wq K;obtain ⟨_,e29,k29⟩:=K.dep 29 rfl rfl rfl;refine zc 103 _ rfl e29 ?_;obtain ⟨_,e23,k23⟩:=K.dep 23 rfl rfl rfl;refine zc 97 _ rfl e23 ?_;exact zo rfl (ybz rfl rfl ⟨Below.refl _ _,Left.of ((by congr 1;rw[bne_iff_ne];omega:(.bool (((wat W (a+1):Nat):Int) !=0):Value)=_))⟩)
           intro vs w7 LE AO AL AF AA;have hbd:Below (wu6).heap.size (wu6) w7:=(((Ext.refl No (wu6)).drew).trans LE).toBelow;obtain ⟨_,e31,k31⟩:=AL.2.2.2.2.2.2.2.2.2.2.2.2.2.2.2.2.2.2.2.2.2.2.2.2.2.2.2.2.2.2.2.1;refine qe (τ:=[(1,_),(5,_),(6,_),(7,_),(8,_),(105,.bool true)]) ⟨rfl,rfl,rfl,rfl,rfl,congrArg some e31,trivial⟩ ?_;clear AL AF AA AO;refine xb ?_;exact ⟨(hE6w.step (Ext.of_below hbd No) (fun _ h=>h.elim)).below (fun q hq=>by rw[←hbase];exact hq),_,false,rfl,fun h=>by (cases h)⟩
         ·
          have hhd2:¬wat W a=yf (wat W a)+256*yg (wat W a)+4294967296*zt (wat W a):=hhd;refine yk ?_;refine yv (No) Mut.none_ [] [] (jh [Fx.of (.bool true),
           Fx.of (.bool false),
           Fx.of (.bool false),
           Fx.of (.pointer (some ⟨g1,0,none⟩)),
           Fx.of (.slice A W.length c),
           Fx.of (.int .i64 ((a:Nat):Int)),
           Fx.of (.pointer (some ⟨gm,om+a,none⟩)),
           Fx.of (.int .u64 ((wat W a:Nat):Int)),
           Fx.of (.pointer (some ⟨g8,0,none⟩)),
           Fx.of (.int .i64 ((yf (wat W a):Nat):Int)),
           Fx.of (.int .u64 ((yf (wat W a):Nat):Int)),
           Fx.of (.pointer (some ⟨g8,1,none⟩)),
           Fx.of (.int .i64 ((yg (wat W a):Nat):Int)),
           Fx.of (.int .u64 ((yg (wat W a):Nat):Int)),
           Fx.of (.int .u64 (256*((yg (wat W a):Nat):Int))),
           Fx.of (.int .u64 (((yf (wat W a):Nat):Int)+(256*((yg (wat W a):Nat):Int)))),
           Fx.of (.pointer (some ⟨g8,2,none⟩)),
           Fx.of (.int .i64 ((zt (wat W a):Nat):Int)),
           Fx.of (.int .u64 ((zt (wat W a):Nat):Int)),
           Fx.of (.int .u64 (4294967296*((zt (wat W a):Nat):Int))),
           Fx.of (.int .u64 ((((yf (wat W a):Nat):Int)+(256*((yg (wat W a):Nat):Int)))+(4294967296*((zt (wat W a):Nat):Int)))),
           Fx.of (.bool true),
           Fx.of (.bool true),
           Fx.of (.bool true),
           Fx.of undef,
           Fx.of undef,
           Fx.of undef,
           Fx.of undef,
           Fx.of undef,
           Fx.of undef,
           Fx.of undef,
           Fx.of (.bool true)]) qt rfl trivial (fun _ h=>by cases h) ?_ ?_
          · refine ⟨arm,arm,arm,arm,?_,arm,?_,?_,arm,?_,?_,arm,?_,?_,?_,?_,arm,?_,?_,?_,?_,?_,arm,arm,arm,arm,arm,arm,arm,arm,arm,arm,trivial⟩
            · intro vs X wq K;have LE:=K.1;obtain ⟨_,e3,k3⟩:=K.dep 3 rfl rfl rfl;refine zc 77 _ rfl e3 ?_;obtain ⟨_,e2,k2⟩:=K.dep 2 rfl rfl rfl;refine zc 76 _ rfl e2 ?_;exact zo rfl (zl u22 rfl rfl (yh LE B16) rfl ⟨Below.refl _ _,Left.of rfl⟩)
            · intro vs X wq K;obtain ⟨_,e4,k4⟩:=K.dep 4 rfl rfl rfl;refine zc 78 _ rfl e4 ?_;obtain ⟨_,e5,k5⟩:=K.dep 5 rfl rfl rfl;refine zc 79 _ rfl e5 ?_;obtain ⟨_,e2,k2⟩:=K.dep 2 rfl rfl rfl;refine zc 76 _ rfl e2 ?_;exact zo rfl (zi (j:=a) u22 qk (congrArg (fun z↦some (Value.slice z W.length c)) hA) rfl rfl (by omega) ⟨Below.refl _ _,Left.of rfl⟩)
            · intro vs X wq K;have LE:=K.1;obtain ⟨_,e6,k6⟩:=K.dep 6 rfl rfl rfl;refine zc 80 _ rfl e6 ?_;obtain ⟨_,e2,k2⟩:=K.dep 2 rfl rfl rfl;refine zc 76 _ rfl e2 ?_;exact zo rfl (yl u27 rfl rfl (kq LE hcm) ⟨Below.refl _ _,Left.of rfl⟩)
            · intro vs X wq K;have LE:=K.1;obtain ⟨_,e8,k8⟩:=K.dep 8 rfl rfl rfl;refine zc 82 _ rfl e8 ?_;obtain ⟨_,e2,k2⟩:=K.dep 2 rfl rfl rfl;refine zc 76 _ rfl e2 ?_;exact zo rfl (zl Tryz.underlying3 rfl rfl (yh LE B8) rfl ⟨Below.refl _ _,Left.of rfl⟩)
            · intro vs X wq K;obtain ⟨_,e9,k9⟩:=K.dep 9 rfl rfl rfl;refine zc 83 _ rfl e9 ?_;obtain ⟨_,e2,k2⟩:=K.dep 2 rfl rfl rfl;refine zc 76 _ rfl e2 ?_;exact zo rfl (yi u27 Tryz.underlying3 rfl (wrap_u64 (by omega)) ⟨Below.refl _ _,Left.of rfl⟩)
            · intro vs X wq K;have LE:=K.1;obtain ⟨_,e11,k11⟩:=K.dep 11 rfl rfl rfl;refine zc 85 _ rfl e11 ?_;obtain ⟨_,e2,k2⟩:=K.dep 2 rfl rfl rfl;refine zc 76 _ rfl e2 ?_;exact zo rfl (zl Tryz.underlying3 rfl rfl (yh LE B8) rfl ⟨Below.refl _ _,Left.of rfl⟩)
            · intro vs X wq K;obtain ⟨_,e12,k12⟩:=K.dep 12 rfl rfl rfl;refine zc 86 _ rfl e12 ?_;obtain ⟨_,e2,k2⟩:=K.dep 2 rfl rfl rfl;refine zc 76 _ rfl e2 ?_;exact zo rfl (yi u27 Tryz.underlying3 rfl (wrap_u64 (by omega)) ⟨Below.refl _ _,Left.of rfl⟩)
            · intro vs X wq K;obtain ⟨_,e13,k13⟩:=K.dep 13 rfl rfl rfl;refine zc 87 _ rfl e13 ?_;obtain ⟨_,e2,k2⟩:=K.dep 2 rfl rfl rfl;refine zc 76 _ rfl e2 ?_;exact zo rfl (vn rfl rfl (wrap_u64 (by omega)) ⟨Below.refl _ _,Left.of rfl⟩)
            · intro vs X wq K;obtain ⟨_,e10,k10⟩:=K.dep 10 rfl rfl rfl;refine zc 84 _ rfl e10 ?_;obtain ⟨_,e14,k14⟩:=K.dep 14 rfl rfl rfl;refine zc 88 _ rfl e14 ?_;obtain ⟨_,e2,k2⟩:=K.dep 2 rfl rfl rfl;refine zc 76 _ rfl e2 ?_;exact zo rfl (zr rfl rfl (wrap_u64 (by omega)) ⟨Below.refl _ _,Left.of rfl⟩)
            · intro vs X wq K;have LE:=K.1;obtain ⟨_,e16,k16⟩:=K.dep 16 rfl rfl rfl;refine zc 90 _ rfl e16 ?_;obtain ⟨_,e2,k2⟩:=K.dep 2 rfl rfl rfl;refine zc 76 _ rfl e2 ?_;exact zo rfl (zl Tryz.underlying3 rfl rfl (yh LE B8) rfl ⟨Below.refl _ _,Left.of rfl⟩)
            · intro vs X wq K;obtain ⟨_,e17,k17⟩:=K.dep 17 rfl rfl rfl;refine zc 91 _ rfl e17 ?_;obtain ⟨_,e2,k2⟩:=K.dep 2 rfl rfl rfl;refine zc 76 _ rfl e2 ?_;exact zo rfl (yi u27 Tryz.underlying3 rfl (wrap_u64 (by omega)) ⟨Below.refl _ _,Left.of rfl⟩)
            · intro vs X wq K;obtain ⟨_,e18,k18⟩:=K.dep 18 rfl rfl rfl;refine zc 92 _ rfl e18 ?_;obtain ⟨_,e2,k2⟩:=K.dep 2 rfl rfl rfl;refine zc 76 _ rfl e2 ?_;exact zo rfl (vn rfl rfl (wrap_u64 (by omega)) ⟨Below.refl _ _,Left.of rfl⟩)
            · intro vs X wq K;obtain ⟨_,e15,k15⟩:=K.dep 15 rfl rfl rfl;refine zc 89 _ rfl e15 ?_;obtain ⟨_,e19,k19⟩:=K.dep 19 rfl rfl rfl;refine zc 93 _ rfl e19 ?_;obtain ⟨_,e2,k2⟩:=K.dep 2 rfl rfl rfl;refine zc 76 _ rfl e2 ?_;exact zo rfl (zr rfl rfl (wrap_u64 (by omega)) ⟨Below.refl _ _,Left.of rfl⟩)
            · intro vs X wq K;obtain ⟨_,e7,k7⟩:=K.dep 7 rfl rfl rfl;refine zc 81 _ rfl e7 ?_;obtain ⟨_,e20,k20⟩:=K.dep 20 rfl rfl rfl;refine zc 94 _ rfl e20 ?_;obtain ⟨_,e2,k2⟩:=K.dep 2 rfl rfl rfl;refine zc 76 _ rfl e2 ?_;exact zo rfl (ybz rfl rfl ⟨Below.refl _ _,Left.of ((by congr 1;rw[bne_iff_ne];omega:(.bool (((wat W a:Nat):Int) !=((((yf (wat W a):Nat):Int)+(256*((yg (wat W a):Nat):Int)))+(4294967296*((zt (wat W a):Nat):Int)))):Value)=_))⟩)
          intro vs w8 LE AO AL AF AA;have hbd:Below (wu6).heap.size (wu6) w8:=(((Ext.refl No (wu6)).drew).trans LE).toBelow;obtain ⟨_,e31,k31⟩:=AL.2.2.2.2.2.2.2.2.2.2.2.2.2.2.2.2.2.2.2.2.2.2.2.2.2.2.2.2.2.2.2.1;refine qe (τ:=[(1,_),(5,_),(6,_),(7,_),(8,_),(105,.bool true)]) ⟨rfl,rfl,rfl,rfl,rfl,congrArg some e31,trivial⟩ ?_;clear AL AF AA AO;refine xb ?_;exact ⟨(hE6w.step (Ext.of_below hbd No) (fun _ h=>h.elim)).below (fun q hq=>by rw[←hbase];exact hq),_,false,rfl,fun h=>by (cases h)⟩
        ·
         have hb9:b=false:=by cases b<;>simp_all
         refine zf 73 (.bool false) rfl ((by rw[hb9]:(.bool b:Value)=_)) (yk ?_);refine yv (No) Mut.none_ [] [] (jh [Fx.of (.bool false),
          Fx.of (.bool true),
          Fx.of (.bool true),
          Fx.of undef,
          Fx.of undef,
          Fx.of undef,
          Fx.of undef,
          Fx.of undef,
          Fx.of undef,
          Fx.of undef,
          Fx.of undef,
          Fx.of undef,
          Fx.of undef,
          Fx.of undef,
          Fx.of undef,
          Fx.of undef,
          Fx.of undef,
          Fx.of undef,
          Fx.of undef,
          Fx.of undef,
          Fx.of undef,
          Fx.of undef,
          Fx.of (.bool true),
          Fx.of (.bool true),
          Fx.of undef,
          Fx.of undef,
          Fx.of undef,
          Fx.of undef,
          Fx.of undef,
          Fx.of undef,
          Fx.of undef,
          Fx.of (.bool true)]) qt rfl trivial (fun _ h=>by cases h) ?_ ?_
         · exact ⟨arm,arm,arm,arm,arm,arm,arm,arm,arm,arm,arm,arm,arm,arm,arm,arm,arm,arm,arm,arm,arm,arm,arm,arm,arm,arm,arm,arm,arm,arm,arm,arm,trivial⟩
         intro vs w9 LE AO AL AF AA;have hbd:Below (wu6).heap.size (wu6) w9:=(((Ext.refl No (wu6)).drew).trans LE).toBelow;obtain ⟨_,e31,k31⟩:=AL.2.2.2.2.2.2.2.2.2.2.2.2.2.2.2.2.2.2.2.2.2.2.2.2.2.2.2.2.2.2.2.1;refine qe (τ:=[(1,_),(5,_),(6,_),(7,_),(8,_),(105,.bool true)]) ⟨rfl,rfl,rfl,rfl,rfl,congrArg some e31,trivial⟩ ?_;clear AL AF AA AO;refine xb ?_;exact ⟨(hE6w.step (Ext.of_below hbd No) (fun _ h=>h.elim)).below (fun q hq=>by rw[←hbase];exact hq),_,false,rfl,fun h=>by (cases h)⟩
       ·
        have hc2:=of_decide_eq_false hc2;have hae:a=t:=by omega
        have hpt:Pre W t t l:=hae▸hpre;obtain ⟨wL,hwL⟩:∃wL,wL=w4:=⟨_,rfl⟩;subst hwL;have hlt:=B1a.lt;have hgsl:=Bsa.lt;refine qo ?_;refine qw (ι:=Nat) (fun m=>[(1,.pointer (some ⟨g1,0,none⟩)),(5,.slice A5 l.length c5),(6,.slice (some ⟨gs,0,none⟩) t t),(10,.int .i64 ((m:Nat):Int))]) (fun m w'=>m≤l.length∧Ext (fun q=>wL.heap.size≤q) wL w'∧Done W l m) (fun m=>l.length-m) 0 ⟨rfl,rfl,rfl,rfl,trivial⟩ (⟨Nat.zero_le _,Ext.refl _ _,fun j x hj=>by omega⟩) ?_;rintro m w11 ⟨hml,hEm,hDm⟩;have hEmw:Ext (fun q=>base≤q) w w11:=hEw.step hEm (fun q hq=>Or.inl (show base≤q by have hq:wL.heap.size≤q:=hq;have:=hEw.size;omega));refine qa ?_;refine zx rfl (fun hc3=>?_) (fun hc3=>?_)
        ·
         have hc3:=of_decide_eq_true hc3;have hmlt:m<l.length:=by omega
         obtain ⟨x,hx⟩:∃x,l[m]? =some x:=⟨_,List.getElem?_eq_getElem hmlt⟩;have hLx:=hpt.mem (List.mem_of_getElem? hx);have hSx:=hLx.toSeen;have hS2:=hSx.hi;have hS3:=hSx.room;have hS4:=hSx.fit;have h9:=zok (wat W x);obtain ⟨wm,hwm⟩:∃wm,wm=w11:=⟨_,rfl⟩;subst hwm;have B1m:=B1a.ext hEm (fun h=>by have h:wL.heap.size≤g1:=h;omega);have hOm:=qr hOa hEm (fun q hq h=>by have:=zvk hOa q hq;have h:wL.heap.size≤q:=h;omega);have hMm:MemA n wm A W t:=hMa.low ⟨hEm,fun q hq=>by have hq:wL.heap.size≤q:=hq;have:=hMa.size;omega⟩;obtain ⟨gl,hAl,hgl,hgl2,hcl⟩:=zvv hOm (by omega);refine yk ?_;refine yv (No) Mut.none_ [⟨9,10,89,#[.int .i64 0,.int .i64 0,.int .i64 0]⟩] [] (jh [Fx.of (.agg #[.slice A W.length c,.int .i64 ((t:Nat):Int)]),
          Fx.of (.slice A5 l.length c5),
          Fx.of (.int .i64 ((m:Nat):Int)),
          Fx.of (.pointer (some ⟨gl,0+m,none⟩)),
          Fx.of (.int .i64 ((x:Nat):Int)),
          Fx.of (.tuple #[.agg #[.int .i64 ((yf (wat W x):Nat):Int),.int .i64 ((yg (wat W x):Nat):Int),.int .i64 ((zt (wat W x):Nat):Int)],.bool true]),
          Fx.of (.tuple #[.agg #[.int .i64 ((yf (wat W x):Nat):Int),.int .i64 ((yg (wat W x):Nat):Int),.int .i64 ((zt (wat W x):Nat):Int)],.bool true]),
          Fx.of (.agg #[.int .i64 ((yf (wat W x):Nat):Int),.int .i64 ((yg (wat W x):Nat):Int),.int .i64 ((zt (wat W x):Nat):Int)]),
          Fx.of (.bool true),
          Fx.of undef,
          Fx.of undef,
          Fx.of (.bool true)]) qt rfl trivial (fun _ h=>by cases h) ?_ ?_
         · refine ⟨?_,arm,arm,?_,?_,?_,arm,arm,arm,?_,?_,arm,trivial⟩
           · intro vs X wq K;have LE:=K.1;exact yy u24 rfl kr rfl (yh LE B1m) rfl ⟨Below.refl _ _,Left.of rfl⟩
           · intro vs X wq K;obtain ⟨_,e1,k1⟩:=K.dep 1 rfl rfl rfl;refine zc 125 _ rfl e1 ?_;obtain ⟨_,e2,k2⟩:=K.dep 2 rfl rfl rfl;refine zc 126 _ rfl e2 ?_;exact zi (j:=m) u55 sz3 (congrArg (fun z↦some (Value.slice z l.length c5)) hAl) rfl rfl hmlt ⟨Below.refl _ _,Left.of rfl⟩
           · intro vs X wq K;have LE:=K.1;obtain ⟨_,e3,k3⟩:=K.dep 3 rfl rfl rfl;refine zc 127 _ rfl e3 ?_;exact yl Tryz.underlying3 rfl rfl (by rw[Nat.zero_add];exact kq LE (hcl m _ (natsV_at hx))) ⟨Below.refl _ _,Left.of rfl⟩
           · intro vs X wq K;have LE:=K.1;obtain ⟨_,e0,k0⟩:=K.dep 0 rfl rfl rfl;refine zc 124 _ rfl e0 ?_;obtain ⟨_,e4,k4⟩:=K.dep 4 rfl rfl rfl;refine zc 128 _ rfl e4 (zd en48 rfl ((rlook_yes _ A W c n t x (hMm.no ((Ext.refl No _).drew.trans LE)) hSx (by omega)).mono ?_));rintro e w2 ⟨rfl,hb⟩;exact ⟨_,rfl,hb,Left.of rfl⟩
           · exact ⟨_,_,_,_,_,rfl,zr89,rfl⟩
           · refine ⟨_,_,_,_,_,rfl,rfl,rfl,sz89,fun vs X wq K=>?_⟩;obtain ⟨_,e0,_⟩:=K.dep 7 rfl rfl rfl;exact ⟨vs 7,rfl,by rw[e0];rfl,by rw[e0];rfl⟩
         intro vs w12 LE AO AL AF AA;have hbd:Below (wm).heap.size (wm) w12:=(((Ext.refl No (wm)).drew).trans LE).toBelow;obtain ⟨_,e7,k7⟩:=AL.2.2.2.2.2.2.2.1;obtain ⟨gX0,v0,y0,qX0,GX0,BX0,ey,ev0⟩:=AF.1;cases ey
         obtain rfl:vs 7=v0:=Option.some.inj ev0;rw[e7] at BX0;have BX0:Blk w12 gX0 89 #[.int .i64 ((yf (wat W x):Nat):Int),.int .i64 ((yg (wat W x):Nat):Int),.int .i64 ((zt (wat W x):Nat):Int)]:=BX0;have e9:=qX0;refine qe (τ:=[(1,_),(5,_),(6,_),(10,_),(11,.pointer (some ⟨gX0,0,none⟩))]) ⟨rfl,rfl,rfl,rfl,congrArg some e9,trivial⟩ ?_;clear AL AF AA AO;have hEd:=Ext.of_below hbd No;have hsd:=hEd.size;have B1d:=B1m.ext hEd (fun h=>h.elim);have hOd:=qr hOm hEd (fun _ _ h=>h.elim);have hMd:=hMm.no hEd;have Bsm:=Bsa.ext hEm (fun h=>by have h:wL.heap.size≤gs:=h;omega);have Bsd:=Bsm.ext hEd (fun h=>h.elim);have hcl2:=fun (j:Nat) (u:Value) (hj:(zzx l)[j]? =some u)=>(hEd.cell (World.block_lt_of_cell? _ _ (hcl j u hj)) (fun h=>h)).trans (hcl j u hj);obtain ⟨wd,hwd⟩:∃wd,wd=w12:=⟨_,rfl⟩;subst hwd;refine yu ?_;refine qw (ι:=Nat) (fun i=>[(1,.pointer (some ⟨g1,0,none⟩)),(5,.slice A5 l.length c5),(6,.slice (some ⟨gs,0,none⟩) t t),(10,.int .i64 ((m:Nat):Int)),(11,.pointer (some ⟨gX0,0,none⟩)),(13,.int .i64 ((i:Nat):Int))]) (fun i w'=>i≤yg (wat W x)∧Ext No wd w'∧ ∀j,j<i→WordOk l (wat W (x+2+j))) (fun i=>yg (wat W x)-i) 0 ⟨rfl,rfl,rfl,rfl,rfl,rfl,trivial⟩ (⟨Nat.zero_le _,Ext.refl _ _,fun j hj=>by omega⟩) ?_;rintro i w14 ⟨hit,hEi,hWi⟩;have hEiw:Ext (fun q=>base≤q) w w14:=(hEmw.step hEd (fun _ h=>h.elim)).step hEi (fun _ h=>h.elim);refine yk ?_;refine za rfl (zl Tryz.underlying3 rfl rfl (BX0.ext hEi (fun h↦h.elim)) rfl (qc ?_));refine zx rfl (fun hc4=>?_) (fun hc4=>?_)
         ·
          have hc4:=of_decide_eq_true hc4;have B1i2:=B1d.ext hEi (fun h=>h.elim);have hMi:=hMd.no hEi;obtain ⟨gm,om,hA,hgm,hcm⟩:=hMi.words.at (show x+2+i<W.length by omega);have hcl3:=fun (j:Nat) (u:Value) (hj:(zzx l)[j]? =some u)=>(hEi.cell (World.block_lt_of_cell? _ _ (hcl2 j u hj)) (fun h=>h)).trans (hcl2 j u hj);obtain ⟨wo,hwo⟩:∃wo,wo=wat W (x+2+i):=⟨_,rfl⟩;have hwou:U64 wo:=by rw[hwo];exact zax hw.in_ _
          rw[←hwo] at hcm;refine yk ?_;refine yv (No) Mut.none_ [] [] (jh [Fx.of (.pointer (some ⟨g1,0,none⟩)),
           Fx.of (.slice A W.length c),
           Fx.of (.slice A5 l.length c5),
           Fx.of (.int .i64 ((m:Nat):Int)),
           Fx.of (.pointer (some ⟨gl,0+m,none⟩)),
           Fx.of (.int .i64 ((x:Nat):Int)),
           Fx.of (.int .i64 (((x:Nat):Int)+2)),
           Fx.of (.int .i64 ((i:Nat):Int)),
           Fx.of (.int .i64 ((((x:Nat):Int)+2)+((i:Nat):Int))),
           Fx.of (.pointer (some ⟨gm,om+(x+2+i),none⟩)),
           Fx.of (.int .u64 ((wo:Nat):Int)),
           Fx.of (.int .u64 ((wo:Nat):Int))]) qt rfl trivial (fun _ h=>by cases h) ?_ ?_
          · refine ⟨arm,?_,arm,arm,?_,?_,?_,arm,?_,?_,?_,arm,trivial⟩
            · intro vs X wq K;have LE:=K.1;obtain ⟨_,e0,k0⟩:=K.dep 0 rfl rfl rfl;refine zc 138 _ rfl e0 ?_;exact zl u22 rfl rfl (yh LE B1i2) rfl ⟨Below.refl _ _,Left.of rfl⟩
            · intro vs X wq K;obtain ⟨_,e2,k2⟩:=K.dep 2 rfl rfl rfl;refine zc 140 _ rfl e2 ?_;obtain ⟨_,e3,k3⟩:=K.dep 3 rfl rfl rfl;refine zc 141 _ rfl e3 ?_;exact zi (j:=m) u55 sz3 (congrArg (fun z↦some (Value.slice z l.length c5)) hAl) rfl rfl hmlt ⟨Below.refl _ _,Left.of rfl⟩
            · intro vs X wq K;have LE:=K.1;obtain ⟨_,e4,k4⟩:=K.dep 4 rfl rfl rfl;refine zc 142 _ rfl e4 ?_;exact yl Tryz.underlying3 rfl rfl (by rw[Nat.zero_add];exact kq LE (hcl3 m _ (natsV_at hx))) ⟨Below.refl _ _,Left.of rfl⟩
            · intro vs X wq K;obtain ⟨_,e5,k5⟩:=K.dep 5 rfl rfl rfl;refine zc 143 _ rfl e5 ?_;exact zr rfl rfl (zg (by omega)) ⟨Below.refl _ _,Left.of rfl⟩
            · intro vs X wq K;obtain ⟨_,e6,k6⟩:=K.dep 6 rfl rfl rfl;refine zc 144 _ rfl e6 ?_;obtain ⟨_,e7,k7⟩:=K.dep 7 rfl rfl rfl;refine zc 145 _ rfl e7 ?_;exact zr rfl rfl (zg (by omega)) ⟨Below.refl _ _,Left.of rfl⟩
            · intro vs X wq K;obtain ⟨_,e1,k1⟩:=K.dep 1 rfl rfl rfl;refine zc 139 _ rfl e1 ?_;obtain ⟨_,e8,k8⟩:=K.dep 8 rfl rfl rfl;refine zc 146 _ rfl e8 ?_;exact zi (j:=x+2+i) u22 qk (congrArg (fun z↦some (Value.slice z W.length c)) hA) rfl (by omega) (by omega) ⟨Below.refl _ _,Left.of rfl⟩
            · intro vs X wq K;have LE:=K.1;obtain ⟨_,e9,k9⟩:=K.dep 9 rfl rfl rfl;refine zc 147 _ rfl e9 ?_;exact yl u27 rfl rfl (kq LE hcm) ⟨Below.refl _ _,Left.of rfl⟩
          intro vs w15 LE AO AL AF AA;have hbd:Below (w14).heap.size (w14) w15:=(((Ext.refl No (w14)).drew).trans LE).toBelow;obtain ⟨_,e11,k11⟩:=AL.2.2.2.2.2.2.2.2.2.2.2.1;refine qe (τ:=[(1,_),(5,_),(6,_),(10,_),(11,_),(13,_),(14,.int .u64 ((wo:Nat):Int))]) ⟨rfl,rfl,rfl,rfl,rfl,rfl,congrArg some e11,trivial⟩ ?_;clear AL AF AA AO;have hEd2:=Ext.of_below hbd No;refine qb ?_;refine za rfl (zd en49 rfl ((rkind_any _ wo hwou).mono ?_));rintro e w16 ⟨rfl,hb⟩;refine ⟨_,rfl,?_⟩;have hE3:=hEd2.trans (Ext.of_below hb No);refine zz ?_;by_cases hk3:zw wo=3
          ·
           refine zk 152 (.bool true) rfl ((by rw[hk3];rfl:(.bool (((zw wo:Nat):Int)==3):Value)=_)) (ylz ?_);exact ⟨(hEiw.step hE3 (fun _ h=>h.elim)).below (fun q hq=>by rw[←hbase];exact hq),_,false,rfl,fun h=>by (cases h)⟩
          ·
           refine zk 152 (.bool false) rfl ((by congr 1;rw[beq_eq_false_iff_ne];omega:(.bool (((zw wo:Nat):Int)==3):Value)=_)) (yb ?_);by_cases hk0:zw wo=0
           ·
            refine za rfl (zd en50 rfl (((rat_any _ wo hwou).mono (fun _ _ h=>by rw[if_pos hk0] at h;exact h)).mono ?_));rintro e w17 ⟨rfl,hb⟩;refine ⟨_,rfl,?_⟩;have hE4:=hE3.trans (Ext.of_below hb No);have hwa:=wkind_addr hk0;have hE5:=hEi.trans hE4;refine yt ?_;refine zf 159 (.bool true) rfl ((by rw[hk0];rfl:(.bool (((zw wo:Nat):Int)==0):Value)=_)) (qc ?_);refine onx rfl (zl Tryz.underlying3 rfl rfl (B1d.ext hE5 (fun h↦h.elim)) rfl (stp ?_));by_cases htt:t≤wo/4
            ·
             refine zf 164 (.bool true) rfl ((by rw[decide_eq_true];omega:(.bool (decide (((t:Nat):Int)≤((wo/4:Nat):Int))):Value)=_)) (stp28 ?_);exact ⟨(hEiw.step hE4 (fun _ h=>h.elim)).below (fun q hq=>by rw[←hbase];exact hq),_,false,rfl,fun h=>by (cases h)⟩
            ·
             refine zf 164 (.bool false) rfl ((by rw[decide_eq_false];omega:(.bool (decide (((t:Nat):Int)≤((wo/4:Nat):Int))):Value)=_)) (qc ?_);refine onx rfl (zi (j:=wo/4) u87 sz4 rfl rfl rfl (by omega) (onx rfl (zl u4 rfl rfl (Bsd.ext hE5 (fun h↦h.elim)) (by rw[Nat.zero_add];exact zfk (by omega)) (yk ?_))));by_cases hin:wo/4∈l
             ·
              refine zk 172 (.bool false) rfl ((by rw[decide_eq_true hin];rfl:(.bool (!(decide (wo/4∈l))):Value)=_)) (yb ?_);refine za rfl (zr rfl rfl (zg (by omega)) (zy ?_));exact qf (i+1) (by show yg (wat W x)-(i+1)<yg (wat W x)-i;omega) ⟨rfl,rfl,rfl,rfl,rfl,rfl,trivial⟩ (⟨by omega,hE5,words_next hWi (by rw[←hwo];exact ⟨hk3,fun _=>hin⟩)⟩)
             ·
              refine zk 172 (.bool true) rfl ((by rw[decide_eq_false hin];rfl:(.bool (!(decide (wo/4∈l))):Value)=_)) (xm ?_);exact ⟨(hEiw.step hE4 (fun _ h=>h.elim)).below (fun q hq=>by rw[←hbase];exact hq),_,false,rfl,fun h=>by (cases h)⟩
           ·
            refine za rfl (zd en50 rfl (((rat_any _ wo hwou).mono (fun _ _ h=>by rw[if_neg hk0] at h;exact h)).mono ?_));rintro e w18 ⟨rfl,hb⟩;refine ⟨_,rfl,?_⟩;have hE4:=hE3.trans (Ext.of_below hb No);refine yt ?_;refine zf 159 (.bool false) rfl ((by congr 1;rw[beq_eq_false_iff_ne];omega:(.bool (((zw wo:Nat):Int)==0):Value)=_)) (stp21 ?_);refine za rfl (zr rfl rfl (zg (by omega)) (zy ?_));exact qf (i+1) (by show yg (wat W x)-(i+1)<yg (wat W x)-i;omega) ⟨rfl,rfl,rfl,rfl,rfl,rfl,trivial⟩ (⟨by omega,hEi.trans hE4,words_next hWi (by rw[←hwo];exact ⟨hk3,fun h=>absurd h hk0⟩)⟩)
         ·
          have hc4:=of_decide_eq_false hc4;have hie:i=yg (wat W x):=by omega
          refine yx ?_;refine za rfl (zr rfl rfl (zg (by omega)) (zy ?_));exact qf (m+1) (by show l.length-(m+1)<l.length-m;omega) ⟨rfl,rfl,rfl,rfl,trivial⟩ (⟨hmlt,(hEm.step hEd (fun _ h=>h.elim)).step hEi (fun _ h=>h.elim),hDm.next hx (by rw[←hie];exact hWi)⟩)
        ·
         have hc3:=of_decide_eq_false hc3;have hme:m=l.length:=by omega
         have hOf:=qr hOa hEm (fun q hq h=>by have:=zvk hOa q hq;have h:wL.heap.size≤q:=h;omega);refine jt ?_;exact ⟨hEmw.below (fun q hq=>by rw[←hbase];exact hq),_,true,rfl,fun _=>⟨t,l,A5,c5,ht,(hme▸hDm).form (by omega) (by omega) ht1 htl h0 (fun j h1 h2=>hzi j h1 (by omega)) hpt,rfl,yhz hOf (by omega)⟩⟩
end
end Go.Proofs.YtebjkmjfcijebaaGreat
namespace Go.Proofs.YtebjkmjfcijebaaGreat
open Go.RowKit
set_option maxHeartbeats 20000000
attribute [local irreducible] OW RS CW EW
theorem Objs.short {W:List Nat} {top a:Nat} {l:List Nat} (h:Objs W top a l):a+l.length≤top:=by
 induction h with
 | nil=>simp
 | cons h1 h2 ih=>have:=h1.fit;rw[List.length_cons];omega
theorem FormL.short {W:List Nat} {top:Nat} {l:List Nat} (h:FormL W top l):l.length≤1048576:=by
 have:=h.objs.short;have:=h.len;have:=h.most;omega
def NatsA (n:Nat) (w:World) (A:Option Addr) (l:List Nat):Prop:=RowS n w 1 (fun w g o x=>w.cell? ⟨g,o,none⟩=some (.int .i64 ((x:Nat):Int))) A l
theorem NatsA.low {n:Nat} {X:Nat→Prop} {w w':World} {A:Option Addr} {l:List Nat} (h:NatsA n w A l) (k:Low n X w w'):NatsA n w' A l:=RowS.low h fun _ _ _ hg hc=>k.cell hg hc
theorem NatsA.no {n:Nat} {w w':World} {A:Option Addr} {l:List Nat} (h:NatsA n w A l) (k:Ext No w w'):NatsA n w' A l:=h.low (X:=No) ⟨k,fun _ h=>h.elim⟩
theorem NatsA.cell {n:Nat} {w:World} {A:Option Addr} {l:List Nat} (h:NatsA n w A l) {j x:Nat} (hj:l[j]? =some x):∃g o,A=some ⟨g,o,none⟩∧g<n∧w.cell? ⟨g,o+j,none⟩=some (.int .i64 ((x:Nat):Int)):=by
 obtain ⟨g,o,e,hg,hc⟩:=RowS.at h hj;exact ⟨g,o,e,hg,by rwa [Nat.mul_one] at hc⟩
theorem lright_any (w:World) (A:Option Addr) (W:List Nat) (c n:Nat) (top:Int) (hw:WordsA n w A W) (htop:I64 top) (hn:n≤w.heap.size):Calls Tryz.prog 5 #[.agg #[.slice A W.length c,.int .i64 top]] w fun e w'=>(∃b,e= .returned (.bool b)∧(b=true→ ∃t l,top=((t:Nat):Int)∧FormL W t l))∧Below w.heap.size w w':=by
 refine zh Tryz.func5 rfl Tryz.ntmps5 rfl (zy ?_);refine za rfl (zn rfl ?_);rintro g1 wA B1 E1 G1;have hsA:=E1.size;refine yb ?_;refine za rfl (zd en20 rfl ((rall_any _ A W c n top (hw.no E1) htop (by omega)).mono ?_));rintro e w1 ⟨hb,v,b,rfl,hv⟩;refine ⟨_,rfl,(xb ?_)⟩;exact ⟨⟨b,rfl,fun h=>by obtain ⟨t,l,_,_,ht,hf,_⟩:=hv h;exact ⟨t,l,ht,hf⟩⟩,(E1.trans (Ext.of_below hb No)).toBelow⟩
end Go.Proofs.YtebjkmjfcijebaaGreat
namespace Go.Proofs.YtebjkmjfcijebaaGreat
open Go.RowKit
set_option maxHeartbeats 20000000
attribute [local irreducible] OW RS CW EW
theorem ahas_any (w:World) (a k t s i:Nat) (hs:s<16777216) (hi:i+2<s):Calls Tryz.prog 73 #[.agg #[.int .i64 ((a:Nat):Int),.int .i64 ((k:Nat):Int),.int .i64 ((t:Nat):Int),.int .i64 ((s:Nat):Int)],.int .i64 ((i:Nat):Int)] w fun e w'=>e= .returned (.bool true)∧Below w.heap.size w w':=by
 refine zh Tryz.func73 rfl Tryz.ntmps73 rfl (zy ?_);refine za rfl (zn rfl ?_);rintro g1 wA B1 E1 G1;refine yu ?_;refine zf 6 (.bool true) rfl ((by rw[decide_eq_true];omega:(.bool (decide ((0:Int)≤((i:Nat):Int))):Value)=_)) (qb ?_);refine onx rfl (qz rfl rfl (zg (by omega)) (stp ?_));refine zf 12 (.bool true) rfl ((by rw[decide_eq_true];omega:(.bool (decide (((i:Nat):Int)<((s:Nat):Int)-2)):Value)=_)) (yb ?_);exact ⟨rfl,E1.toBelow⟩
section
variable (w:World) (A:Option Addr) (W:List Nat) (c n top a:Nat) (hM:MemA n w A W top) (hS:Seen W top a)
include hM hS
theorem akind_any:Calls Tryz.prog 59 #[xg A W c top,.int .i64 ((a:Nat):Int)] w fun e w'=>e= .returned (.tuple #[.int .i64 ((yf (wat W a):Nat):Int),.int .i64 0])∧Below w.heap.size w w':=by
 refine zh Tryz.func59 rfl Tryz.ntmps59 rfl (zy ?_);refine za rfl (zn rfl ?_);rintro g1 wA B1 E1 G1;have hsA:=E1.size;refine yx ?_;refine za rfl (zd en56 rfl ((znq _ A W c n top a (hM.no E1) hS).mono ?_));rintro e w1 ⟨rfl,hb⟩;refine ⟨_,rfl,?_⟩;have E2:=E1.trans (Ext.of_below hb No);have hs2:=(Ext.of_below hb No).size;refine qc ?_;refine za rfl (zp zfz ?_);rintro g6 wB B60 E3 G6;refine zq (zm xk rfl rfl B60 rfl rfl rfl ?_);rintro wC B6 E4;refine zoz ?_;exact ⟨rfl,(((E2.trans E3).noL w.heap.size).step E4 (fun q hq=>Or.inl (show w.heap.size≤q by have:=yj hq;omega))).below (fun _ h=>h)⟩
theorem asize_any:Calls Tryz.prog 60 #[xg A W c top,.int .i64 ((a:Nat):Int)] w fun e w'=>e= .returned (.tuple #[.int .i64 ((yg (wat W a):Nat):Int),.int .i64 ((zt (wat W a)-2-yg (wat W a):Nat):Int),.int .i64 0])∧Below w.heap.size w w':=by
 have h6:=hS.fit;have h9:=zok (wat W a);have h10:=zcx (wat W a);refine zh Tryz.func60 rfl Tryz.ntmps60 rfl (zy ?_);refine za rfl (zn rfl ?_);rintro g1 wA B1 E1 G1;have hsA:=E1.size;refine qa ?_;refine za rfl (zd en56 rfl ((znq _ A W c n top a (hM.no E1) hS).mono ?_));rintro e w1 ⟨rfl,hb⟩;refine ⟨_,rfl,?_⟩;have E2:=E1.trans (Ext.of_below hb No);have hs2:=(Ext.of_below hb No).size;refine qc ?_;refine za rfl (zp zfz ?_);rintro g6 wB B60 E3 G6;refine zq (zm xk rfl rfl B60 rfl rfl rfl ?_);rintro wC B6 E4;have B6b:Blk wC g6 101 #[.int .i64 ((a:Nat):Int),.int .i64 ((yf (wat W a):Nat):Int),.int .i64 ((yg (wat W a):Nat):Int),.int .i64 ((zt (wat W a):Nat):Int)]:=B6;refine jt ?_;refine yv (No) Mut.none_ [] [] (jh [Fx.of (.pointer (some ⟨g6,2,none⟩)),
  Fx.of (.int .i64 ((yg (wat W a):Nat):Int)),
  Fx.of (.pointer (some ⟨g6,3,none⟩)),
  Fx.of (.int .i64 ((zt (wat W a):Nat):Int)),
  Fx.of (.int .i64 (((zt (wat W a):Nat):Int)-2)),
  Fx.of (.pointer (some ⟨g6,2,none⟩)),
  Fx.of (.int .i64 ((yg (wat W a):Nat):Int)),
  Fx.of (.int .i64 ((zt (wat W a)-2-yg (wat W a):Nat):Int)),
  Fx.of (.int .i64 ((yg (wat W a):Nat):Int)),
  Fx.of (.int .i64 ((zt (wat W a)-2-yg (wat W a):Nat):Int)),
  Fx.of (.int .i64 0)]) qt rfl trivial (fun _ h=>by cases h) ?_ ?_
 · refine ⟨arm,?_,arm,?_,?_,arm,?_,?_,arm,arm,arm,trivial⟩
   · intro vs X wq K;have LE:=K.1;obtain ⟨_,e0,k0⟩:=K.dep 0 rfl rfl rfl;refine zc 17 _ rfl e0 ?_;exact zl Tryz.underlying3 rfl rfl (yh LE B6b) rfl ⟨Below.refl _ _,Left.of rfl⟩
   · intro vs X wq K;have LE:=K.1;obtain ⟨_,e2,k2⟩:=K.dep 2 rfl rfl rfl;refine zc 19 _ rfl e2 ?_;exact zl Tryz.underlying3 rfl rfl (yh LE B6b) rfl ⟨Below.refl _ _,Left.of rfl⟩
   · intro vs X wq K;obtain ⟨_,e3,k3⟩:=K.dep 3 rfl rfl rfl;refine zc 20 _ rfl e3 ?_;exact qz rfl rfl (zg (by omega)) ⟨Below.refl _ _,Left.of rfl⟩
   · intro vs X wq K;have LE:=K.1;obtain ⟨_,e5,k5⟩:=K.dep 5 rfl rfl rfl;refine zc 22 _ rfl e5 ?_;exact zl Tryz.underlying3 rfl rfl (yh LE B6b) rfl ⟨Below.refl _ _,Left.of rfl⟩
   · intro vs X wq K;obtain ⟨_,e4,k4⟩:=K.dep 4 rfl rfl rfl;refine zc 21 _ rfl e4 ?_;obtain ⟨_,e6,k6⟩:=K.dep 6 rfl rfl rfl;refine zc 23 _ rfl e6 ?_;exact qz rfl rfl (zg (by omega)) ⟨Below.refl _ _,Left.of ((by congr 1;omega:(.int .i64 ((((zt (wat W a):Nat):Int)-2)-((yg (wat W a):Nat):Int)):Value)=_))⟩
 intro vs w2 LE AO AL AF AA;have hbd:Below (wC).heap.size (wC) w2:=(((Ext.refl No (wC)).drew).trans LE).toBelow;obtain ⟨_,e8,k8⟩:=AL.2.2.2.2.2.2.2.2.1;obtain ⟨_,e9,k9⟩:=AL.2.2.2.2.2.2.2.2.2.1;obtain ⟨_,e10,k10⟩:=AL.2.2.2.2.2.2.2.2.2.2.1;refine qe (τ:=[(4,.int .i64 ((yg (wat W a):Nat):Int)),(5,.int .i64 ((zt (wat W a)-2-yg (wat W a):Nat):Int)),(6,.int .i64 0)]) ⟨congrArg some e8,congrArg some e9,congrArg some e10,trivial⟩ ?_;clear AL AF AA AO;refine zy ?_;refine vc (rs:=[.tmp 4,.tmp 5,.tmp 6]) (vs:=[_,_,_]) rfl ⟨rfl,rfl,rfl,trivial⟩ ?_;exact ⟨rfl,((((E2.trans E3).noL w.heap.size).step E4 (fun q hq=>Or.inl (show w.heap.size≤q by have:=yj hq;omega))).step (Ext.of_below hbd No) (fun _ h=>h.elim)).below (fun _ h=>h)⟩
theorem aget_any (i:Nat) (hi:i+2<zt (wat W a)):Calls Tryz.prog 61 #[xg A W c top,.int .i64 ((a:Nat):Int),.int .i64 ((i:Nat):Int)] w fun e w'=>e= .returned (.tuple #[.int .u64 ((wat W (a+2+i):Nat):Int),.int .i64 0])∧Below w.heap.size w w':=by
 have h2:=hS.hi;have h7:=hS.room;have h3:=hM.len;have h4:=hM.most;have h10:=zcx (wat W a);refine zh Tryz.func61 rfl Tryz.ntmps61 rfl (zy ?_);refine za rfl (zn rfl ?_);rintro g1 wA B1 E1 G1;have hsA:=E1.size;have h1l:=B1.lt;refine yx ?_;refine za rfl (zd en56 rfl ((znq _ A W c n top a (hM.no E1) hS).mono ?_));rintro e w1 ⟨rfl,hb⟩;refine ⟨_,rfl,?_⟩;have E2:=E1.trans (Ext.of_below hb No);have hs2:=(Ext.of_below hb No).size;have B12:=B1.ext (Ext.of_below hb No) (fun h=>h.elim);refine qc ?_;refine za rfl (zp zfz ?_);rintro g6 wB B60 E3 G6;refine zq (zm xk rfl rfl B60 rfl rfl rfl ?_);rintro wC B6 E4;have hEC:=((E2.trans E3).noL w.heap.size).step E4 (fun q hq=>Or.inl (show w.heap.size≤q by have:=yj hq;omega));have B13:Blk wC g1 24 #[.slice A W.length c,.int .i64 ((top:Nat):Int)]:=(B12.ext E3 (fun h=>h.elim)).ext E4 (fun h=>by have:=yj h;omega);refine yt ?_;refine onx rfl (zd en73 rfl ((ahas_any _ a _ _ _ i h10 hi).mono ?_));rintro e w2 ⟨rfl,hb⟩;refine ⟨_,rfl,?_⟩;have hED:=hEC.step (Ext.of_below hb No) (fun _ h=>h.elim);have B14:=B13.ext (Ext.of_below hb No) (fun h=>h.elim);have hMD:=hM.low ⟨hED,fun q hq=>Nat.le_trans hM.size hq⟩;obtain ⟨gm,om,hA,hgm,hcm⟩:=hMD.words.at (show a+2+i<W.length by omega);refine qo ?_;refine za rfl (zr rfl rfl (zg (by omega)) (stp ?_));refine za rfl (zr rfl rfl (zg (by omega)) (za rfl (zi (j:=a+2+i) u22 qk (congrArg (fun z↦some (Value.slice z W.length c)) hA) rfl (by omega) (by omega) (za rfl (yl u27 rfl rfl hcm (yb ?_))))));exact ⟨rfl,hED.below (fun _ h=>h)⟩
theorem ycz (i:Nat) (hi:i+2<zt (wat W a)):Calls Tryz.prog 35 #[xg A W c top,.int .i64 ((a:Nat):Int),.int .i64 ((i:Nat):Int)] w fun e w'=>e= .returned (.int .u64 ((wat W (a+2+i):Nat):Int))∧Below w.heap.size w w':=by
 refine zh Tryz.func35 rfl Tryz.ntmps35 rfl (zy ?_);refine za rfl (zn rfl ?_);rintro g1 wA B1 E1 G1;refine yx ?_;refine za rfl (zd en61 rfl ((aget_any _ A W c n top a (hM.no E1) hS i hi).mono ?_));rintro e w1 ⟨rfl,hb⟩;refine ⟨_,rfl,(xb ?_)⟩;exact ⟨rfl,(E1.trans (Ext.of_below hb No)).toBelow⟩
end
section
variable (w:World) (A:Option Addr) (W:List Nat) (c n top x:Nat) (hM:MemA n w A W top) (hx:U64 x)
include hM hx
theorem zsk (hk:zw x=0) (hS:Seen W top (x/4)):Calls Tryz.prog 34 #[xg A W c top,.int .u64 ((x:Nat):Int)] w fun e w'=>e= .returned (.tuple #[.int .i64 ((x/4:Nat):Int),.agg #[.int .i64 ((yf (wat W (x/4)):Nat):Int),.int .i64 ((yg (wat W (x/4)):Nat):Int),.int .i64 ((zt (wat W (x/4))-2-yg (wat W (x/4)):Nat):Int)],.bool true])∧Below w.heap.size w w':=by
 refine zh Tryz.func34 rfl Tryz.ntmps34 rfl (zy ?_);refine za rfl (zn rfl ?_);rintro g1 wA B1 E1 G1;refine stp ?_;refine za rfl (zp og ?_);rintro g5 wB B5 E2 G5;have hsA:=E1.size;have h5l:=B5.lt;have B1b:Blk wB g1 24 #[.slice A W.length c,.int .i64 ((top:Nat):Int)]:=B1.ext E2 (fun h=>h.elim);have hEB:=E1.trans E2;refine yb ?_;refine za rfl (zd en57 rfl (((at_any _ x hx).mono (fun _ _ h=>by rw[if_pos hk] at h;exact h)).mono ?_));rintro e w1 ⟨rfl,hb⟩;refine ⟨_,rfl,?_⟩;have E3:=Ext.of_below hb No;have B12:=B1b.ext E3 (fun h=>h.elim);have hE3:=hEB.trans E3;refine stp21 ?_;refine za rfl (zd en59 rfl ((akind_any _ A W c n top (x/4) (hM.no hE3) hS).mono ?_));rintro e w2 ⟨rfl,hb⟩;refine ⟨_,rfl,?_⟩;have E4:=Ext.of_below hb No;have B13:=B12.ext E4 (fun h=>h.elim);have hE4:=hE3.trans E4;refine yt ?_;refine za rfl (zd en60 rfl ((asize_any _ A W c n top (x/4) (hM.no hE4) hS).mono ?_));rintro e w3 ⟨rfl,hb⟩;refine ⟨_,rfl,?_⟩;have E5:=Ext.of_below hb No;have hE5:=hE4.trans E5;have B5e:=((B5.ext E3 (fun h=>h.elim)).ext E4 (fun h=>h.elim)).ext E5 (fun h=>h.elim);refine xb ?_;refine za rfl (ye (cs:=#[.int .i64 ((yf (wat W (x/4)):Nat):Int),.int .i64 ((yg (wat W (x/4)):Nat):Int),.int .i64 ((zt (wat W (x/4))-2-yg (wat W (x/4)):Nat):Int)]) pl68 og rfl rfl (qc ?_));refine zq (zm xj rfl rfl B5e rfl rfl rfl ?_);rintro wC B5f E6;refine qb ?_;refine vc (rs:=[.tmp 4,.cell 5 68,.tmp 6]) (vs:=[_,_,_]) rfl ⟨rfl,⟨_,rfl,xd u68 rfl xj B5f rfl⟩,rfl,trivial⟩ ?_;exact ⟨rfl,((hE5.noL w.heap.size).step E6 (fun q hq=>Or.inl (show w.heap.size≤q by have:=yj hq;omega))).below (fun _ h=>h)⟩
theorem ogood_any (hk3:zw x≠3) (hS:zw x=0→Seen W top (x/4)):Calls Tryz.prog 40 #[xg A W c top,.int .u64 ((x:Nat):Int)] w fun e w'=>e= .returned (.bool true)∧Below w.heap.size w w':=by
 refine zh Tryz.func40 rfl Tryz.ntmps40 rfl (zy ?_);refine za rfl (zn rfl ?_);rintro g1 wA B1 E1 G1;have hsA:=E1.size;refine yu ?_;refine za rfl (zd en30 rfl ((ji _ x hx).mono ?_));rintro e w1 ⟨rfl,hb⟩;refine ⟨_,rfl,?_⟩;have E2:=Ext.of_below hb No;have hE2:=E1.trans E2;have B12:=B1.ext E2 (fun h=>h.elim);have hs2:=E2.size;refine stp ?_;by_cases hk:zw x=0
 ·
  refine zf 10 (.bool true) rfl ((by rw[hk];rfl:(.bool (((zw x:Nat):Int)==0):Value)=_)) (yu ?_);refine za rfl (zd ykv rfl ((zsk _ A W c n top x (hM.no hE2) hx hk (hS hk)).mono ?_));rintro e w2 ⟨rfl,hb⟩;refine ⟨_,rfl,?_⟩;have E3:=Ext.of_below hb No;have hs3:=E3.size;refine qb ?_;refine za rfl (zp og ?_);rintro g5 wB B5 E4 G5;refine stp ?_;refine zq (zm xj rfl rfl B5 rfl rfl rfl ?_);rintro wC B5f E6;refine qo ?_;exact ⟨rfl,((((hE2.trans E3).trans E4).noL w.heap.size).step E6 (fun q hq=>Or.inl (show w.heap.size≤q by have:=yj hq;omega))).below (fun _ h=>h)⟩
 ·
  refine zf 10 (.bool false) rfl ((by congr 1;rw[beq_eq_false_iff_ne];omega:(.bool (((zw x:Nat):Int)==0):Value)=_)) (yx ?_);refine za rfl (zd en30 rfl ((ji _ x hx).mono ?_));rintro e w3 ⟨rfl,hb⟩;refine ⟨_,rfl,(stp ?_)⟩;refine zf 21 (.bool true) rfl ((by congr 1;rw[bne_iff_ne];omega:(.bool (((zw x:Nat):Int) !=3):Value)=_)) (yk ?_);exact ⟨rfl,(hE2.trans (Ext.of_below hb No)).toBelow⟩
end
theorem oall_any (w:World) (A B:Option Addr) (W R:List Nat) (c d n top:Nat) (hM:MemA n w A W top) (hr:WordsA n w B R) (hg:∀x∈R,zw x≠3∧(zw x=0→Seen W top (x/4))):Calls Tryz.prog 45 #[xg A W c top,.slice B R.length d] w fun e w'=>e= .returned (.bool true)∧Below w.heap.size w w':=by
 have hrl:=hr.len;refine zh Tryz.func45 rfl Tryz.ntmps45 rfl (zy ?_);refine za rfl (zn rfl ?_);rintro g1 wA B1 E1 G1;refine qo ?_;refine qw (ι:=Nat) (fun i=>[(2,.pointer (some ⟨g1,0,none⟩)),(7,.slice B R.length d),(8,.int .i64 ((R.length:Nat):Int)),(9,.int .i64 ((i:Nat):Int))]) (fun i w'=>i≤R.length∧Ext No wA w') (fun i=>R.length-i) 0 ⟨rfl,rfl,rfl,rfl,trivial⟩ (⟨Nat.zero_le _,Ext.refl _ _⟩) ?_;rintro i w2 ⟨hil,hEi⟩;refine yb ?_;refine zx rfl (fun hc=>?_) (fun hc=>?_)
 ·
  have hc:=of_decide_eq_true hc;have hlt:i<R.length:=by omega
  obtain ⟨x,hx⟩:∃x,R[i]? =some x:=⟨_,List.getElem?_eq_getElem hlt⟩;have hxm:=List.mem_of_getElem? hx;have hEw:=E1.trans hEi;obtain ⟨g,o,hB,hgb,hcx⟩:=(hr.no hEw).cell hx;have B1i:=B1.ext hEi (fun h=>h.elim);refine yb ?_;refine za rfl (zi (j:=i) u22 qk (congrArg (fun z↦some (Value.slice z R.length d)) hB) rfl rfl hlt (za rfl (yl u27 rfl rfl hcx (yu ?_))));refine za rfl (zd en40 rfl ((ogood_any _ A W c n top x (hM.no hEw) (hr.in_ x hxm) (hg x hxm).1 (hg x hxm).2).mono ?_));rintro e w3 ⟨rfl,hb⟩;refine ⟨_,rfl,(yx ?_)⟩;refine za rfl (zr rfl rfl (zg (by omega)) (zy ?_));exact qf (i+1) (by show R.length-(i+1)<R.length-i;omega) ⟨rfl,rfl,rfl,rfl,trivial⟩ (⟨hlt,hEi.trans (Ext.of_below hb No)⟩)
 ·
  refine qo ?_;exact ⟨rfl,(E1.trans hEi).toBelow⟩
end Go.Proofs.YtebjkmjfcijebaaGreat
namespace Go.Proofs.YtebjkmjfcijebaaGreat
open Go.RowKit
set_option maxHeartbeats 20000000
attribute [local irreducible] OW RS CW EW
section
variable {P:Program} {N:Nat} {ops:Array Oper} {Q:Exit→Act→World→Prop} {σ:Env} {w:World} {ty:TypeId} {pos:String} {af:Array Edge} {dst:Option Nat} {Post:Value→World→Prop}
theorem zrv {x y:Operand} {T U e:TypeId} {a:Addr} (hd:P.underlying T=some (.pointer e)) (hx:ev σ x=some (.pointer (some a))) (hy:ev σ y=some (.pointer none)) (k:Post (.bool false) w):OW P N ops Q ⟨dst,.binOp .eql T x y U,ty,pos,af,none⟩ σ w Post:=
 yw (fun ρ ha=>by
  have e1:(Op.equal T (.pointer (some a)) (.pointer none)).run P w= .ok false w:=by
   unfold Op.equal;rw[show Op.maxDepth=9999+1 from rfl,Op.equalIn];simp only[Sem.run_bind,run_underlying hd,Result.andThen_ok]
   rfl
  simp only[execOp,ha hx,ha hy,eqGuard,binOp]
  simp[e1,go_sem]) k
end
structure OwnM (lo:Nat) (w:World) (gm gW cap:Nat) (W:List Nat) (top:Nat):Prop where
 mb:Blk w gm 24 #[.slice (some ⟨gW,0,none⟩) W.length cap,.int .i64 ((top:Nat):Int)]
 row:w.ownsRow lo 27 1 (.slice (some ⟨gW,0,none⟩) W.length cap) W.length (ym W)
 in_:∀x∈W,U64 x
 one:1≤top
 len:top≤W.length
 most:W.length≤1048576
section
variable {lo gm gW cap top:Nat} {w w':World} {W:List Nat} {X:Nat→Prop}
theorem OwnM.mem (h:OwnM lo w gm gW cap W top):MemA w.heap.size w (some ⟨gW,0,none⟩) W top:=⟨zpz h.row (by have:=h.most;omega) h.in_,h.one,h.len,h.most,Nat.le_refl _⟩
theorem OwnM.ext (h:OwnM lo w gm gW cap W top) (k:Ext X w w') (h1:¬X gm) (h2:¬X gW):OwnM lo w' gm gW cap W top:=⟨h.mb.ext k h1,qr h.row k (fun q hq hx=>by cases hq;exact h2 hx),h.in_,h.one,h.len,h.most⟩
theorem OwnM.lt (h:OwnM lo w gm gW cap W top):gm<w.heap.size∧gW<w.heap.size:=⟨h.mb.lt,zvk h.row gW rfl⟩
theorem OwnM.late (h:OwnM lo w gm gW cap W top) (k:Ext X w w') (hX:∀q,X q→w.heap.size≤q):OwnM lo w' gm gW cap W top:=h.ext k (fun hx=>by have:=hX _ hx;have:=h.lt.1;omega) (fun hx=>by have:=hX _ hx;have:=h.lt.2;omega)
theorem OwnM.put {j x:Nat} (h:OwnM lo w gm gW cap W top) (hx:U64 x) (ho:w'.ownsRow lo 27 1 (.slice (some ⟨gW,0,none⟩) W.length cap) W.length (ym (W.set j x))) (k:Ext (Mut [some gW]) w w'):OwnM lo w' gm gW cap (W.set j x) top:=
 ⟨by rw[List.length_set];exact zek h.mb h.row (by decide) k,by rw[List.length_set];exact ho,fun y hy=>by
  rcases List.mem_or_eq_of_mem_set hy with hy | rfl
  · exact h.in_ y hy
  · exact hx,h.one,by rw[List.length_set];exact h.len,by rw[List.length_set];exact h.most⟩
theorem Ext.step2w {g:Nat} {w1 w2 w3:World} (h:Ext (fun q=>w1.heap.size≤q) w1 w2) (k:Ext (Mut [some g]) w2 w3):Ext (Mut [some g]) w1 w3:=
 (h.mono (Y:=No) (fun q hq hlt=>by have hq:w1.heap.size≤q:=hq;omega)).mono (Y:=Mut [some g]) (fun _ h _=>h.elim) |>.step k fun _ h=>Or.inl h
theorem gu {j x:Nat}:(ym W).set j (.int .u64 ((x:Nat):Int))=ym (W.set j x):=by unfold ym;rw[List.map_set]
end
theorem aset_any (lo gm gW cap top a i x:Nat) (w:World) (W:List Nat) (hM:OwnM lo w gm gW cap W top) (hS:Seen W top a) (hi:i+2<zt (wat W a)) (hx:U64 x) (hk:i<yg (wat W a)→zw x≠3) :
 Calls Tryz.prog 52 #[.pointer (some ⟨gm,0,none⟩),.int .i64 ((a:Nat):Int),.int .i64 ((i:Nat):Int),.int .u64 ((x:Nat):Int)] w fun e w'=>e= .returned (.int .i64 0)∧OwnM lo w' gm gW cap (W.set (a+2+i) x) top∧Ext (Mut [some gW]) w w':=by
 have h2:=hS.hi;have h7:=hS.room;have h3:=hM.len;have h4:=hM.most;have h10:=zcx (wat W a);refine zh Tryz.func52 rfl Tryz.ntmps52 rfl (qa ?_);refine za rfl (zrv u37 rfl rfl (qa ?_));refine za rfl (yy u24 rfl kr rfl hM.mb rfl (stp ?_));refine za rfl (zd en56 rfl ((znq _ (some ⟨gW,0,none⟩) W cap _ top a hM.mem hS).mono ?_));rintro e w1 ⟨rfl,hb⟩;refine ⟨_,rfl,?_⟩;have E1:=Ext.of_below hb No;have hs1:=E1.size;refine qc ?_;refine za rfl (zp zfz ?_);rintro g9 wB B90 E2 G9;refine zq (zm xk rfl rfl B90 rfl rfl rfl ?_);rintro wC B9a E3;have B9:Blk wC g9 101 #[.int .i64 ((a:Nat):Int),.int .i64 ((yf (wat W a):Nat):Int),.int .i64 ((yg (wat W a):Nat):Int),.int .i64 ((zt (wat W a):Nat):Int)]:=B9a;have hEC:Ext (fun q=>w.heap.size≤q) w wC:=((E1.trans E2).noL w.heap.size).step E3 (fun q hq=>Or.inl (show w.heap.size≤q by have:=yj hq;omega));refine yt ?_;refine onx rfl (zd en73 rfl ((ahas_any _ a _ _ _ i h10 hi).mono ?_));rintro e w2 ⟨rfl,hb⟩;refine ⟨_,rfl,?_⟩;have E4:=Ext.of_below hb No;have B94:=B9.ext E4 (fun h=>h.elim);have hED:=hEC.step E4 (fun _ h=>h.elim);refine jt ?_;by_cases hlt:i<yg (wat W a)
 ·
  refine zf 32 (.bool true) rfl ((by rw[decide_eq_true];omega:(.bool (decide (((i:Nat):Int)<((yg (wat W a):Nat):Int))):Value)=_)) (zy ?_);refine onx rfl (zd en30 rfl ((ji _ x hx).mono ?_));rintro e w3 ⟨rfl,hb⟩;refine ⟨_,rfl,?_⟩;have hEE:=hED.step (Ext.of_below hb No) (fun _ h=>h.elim);have hk3:=hk hlt;refine stp ?_;refine zf 36 (.bool false) rfl ((by congr 1;rw[beq_eq_false_iff_ne];omega:(.bool (((zw x:Nat):Int)==3):Value)=_)) ?_;have hMZ:=hM.late hEE (fun _ h=>h);refine yt ?_;refine za rfl (zl u22 rfl rfl hMZ.mb rfl (stp ?_));refine za rfl (zr rfl rfl (zg (by omega)) (stp ?_));refine za rfl (zr rfl rfl (zg (by omega)) (stp ?_));refine za rfl (zi (j:=a+2+i) u22 qk rfl rfl (by omega) (by omega) (zq (zmx (o:=0+(a+2+i)) (xs':=ym (W.set (a+2+i) x)) qk rfl rfl hMZ.row (by omega) rfl rfl (by rw[Nat.zero_add,gu]) ?_)));rintro wS OS ES;refine qa ?_;exact ⟨rfl,hMZ.put hx OS ES,(hEE.step2w ES)⟩
 ·
  refine zf 32 (.bool false) rfl ((by rw[decide_eq_false];omega:(.bool (decide (((i:Nat):Int)<((yg (wat W a):Nat):Int))):Value)=_)) ?_;have hMZ:=hM.late hED (fun _ h=>h);refine xb ?_;refine za rfl (zl u22 rfl rfl hMZ.mb rfl (stp ?_));refine za rfl (zr rfl rfl (zg (by omega)) (stp ?_));refine za rfl (zr rfl rfl (zg (by omega)) (stp ?_));refine za rfl (zi (j:=a+2+i) u22 qk rfl rfl (by omega) (by omega) (zq (zmx (o:=0+(a+2+i)) (xs':=ym (W.set (a+2+i) x)) qk rfl rfl hMZ.row (by omega) rfl rfl (by rw[Nat.zero_add,gu]) ?_)));rintro wS OS ES;refine qa ?_;exact ⟨rfl,hMZ.put hx OS ES,(hED.step2w ES)⟩
end Go.Proofs.YtebjkmjfcijebaaGreat
namespace Go.Proofs.YtebjkmjfcijebaaGreat
open Go.RowKit
set_option maxHeartbeats 20000000
attribute [local irreducible] OW RS CW EW
theorem wat_set {W:List Nat} {j x:Nat} (hj:j<W.length) (i:Nat):wat (W.set j x) i=if i=j then x else wat W i:=by
 unfold wat;rw[List.getD_eq_getElem?_getD,List.getD_eq_getElem?_getD,List.getElem?_set];by_cases h:j=i
 · subst h;simp[hj]
 · rw[if_neg h,if_neg (fun e=>h e.symm)]
theorem set_zero {W:List Nat} {j:Nat} (hj:j<W.length) (h:wat W j=0):W.set j 0=W:=by
 apply List.ext_getElem?
 intro i;rw[List.getElem?_set];split
 · rename_i e;subst e;have h9:=ke hj;rw[h] at h9;rw[h9]
 · rfl
theorem wat_ext {W V:List Nat} (hl:V.length=W.length) (h:∀i,i<W.length→wat V i=wat W i):V=W:=by
 apply List.ext_getElem?
 intro i;by_cases hi:i<W.length
 · rw[ke hi,ke (by omega),h i hi]
 · rw[List.getElem?_eq_none (by omega),List.getElem?_eq_none (by omega)]
def NewM (W V:List Nat) (top h i:Nat):Prop:=V.length=W.length∧ ∀j,j<W.length→wat V j=if j=top then h else if top+2≤j∧j<top+2+i then 2 else wat W j
theorem NewM.zero {W:List Nat} {top h:Nat} (ht:top<W.length):NewM W (W.set top h) top h 0:=⟨List.length_set ..,fun j hj=>by
 rw[wat_set ht];split
 · rfl
 · rw[if_neg (by omega)]⟩
theorem NewM.next {W V:List Nat} {top h i:Nat} (hN:NewM W V top h i) (hi:top+2+i<W.length):NewM W (V.set (top+2+i) 2) top h (i+1):=⟨by rw[List.length_set];exact hN.1,fun j hj=>by
 rw[wat_set (by rw[hN.1];exact hi),hN.2 j hj];by_cases e:j=top+2+i
 · rw[if_pos e,if_neg (by omega),if_pos (by omega)]
 · rw[if_neg e];by_cases e2:j=top
   · rw[if_pos e2,if_pos e2]
   · rw[if_neg e2,if_neg e2];by_cases e3:top+2≤j∧j<top+2+i
     · rw[if_pos e3,if_pos (by omega)]
     · rw[if_neg e3,if_neg (by omega)]⟩
theorem NewM.isLaid {W V:List Nat} {top k t r:Nat} (hN:NewM W V top (jr k t (2+t+r)) t) (hz:∀i,top≤i→wat W i=0) (hr:top+(2+t+r)≤W.length):V=laid W top k (List.replicate t 2) (List.replicate r 0):=by
 have hL:top+(2+(List.replicate t 2).length+(List.replicate r 0).length)≤W.length:=by simpa using hr
 have h1:(laid W top k (List.replicate t 2) (List.replicate r 0)).length=W.length:=zbq hL;refine wat_ext (by rw[h1,hN.1]) fun i hi=>?_;rw[h1] at hi;rw[hN.2 i hi];by_cases e1:i<top
 · rw[if_neg (by omega),if_neg (by omega)];exact (laid_lt hL i e1).symm
 · by_cases e2:i=top
   · rw[if_pos e2,e2,ou hL];simp
   · rw[if_neg e2];by_cases e3:i=top+1
     · rw[if_neg (by omega),e3,laid_nil hL];exact hz _ (by omega)
     · by_cases e4:i<top+(2+t+r)
       · obtain ⟨j,rfl⟩:∃j,i=top+2+j:=⟨i-top-2,by omega⟩;by_cases e5:j<t
         · rw[if_pos (by omega),yiv hL (v:=2) (by rw[List.getElem?_append_left (by simpa using e5),List.getElem?_replicate,if_pos e5])]
         · rw[if_neg (by omega),yiv hL (v:=0) (by rw[List.getElem?_append_right (by simp;omega),List.length_replicate,List.getElem?_replicate,if_pos (by omega)])];exact hz _ (by omega)
       · rw[if_neg (by omega),yzv hL (by simp;omega)]
theorem yzq {x y k:Nat} (hx:x<2^k) (hy:y<18446744073709551616) (hk:k≤64) (h0:y%2^k=0):IntKind.u64.wrap (BitVec.ofInt IntKind.u64.bits (x:Int) ||| BitVec.ofInt IntKind.u64.bits (y:Int)).toNat=((x+y:Nat):Int):=by
 rw[BitVec.or_comm,Nat.add_comm];exact or_maskO hy hx hk h0
theorem const0_any (w:World):Calls Tryz.prog 22 #[.int .i64 0] w fun e w'=>e= .returned (.tuple #[.int .u64 2,.int .i64 0])∧Below w.heap.size w w':=by
 refine zh Tryz.func22 rfl Tryz.ntmps22 rfl (zoz ?_);refine za rfl (yi (z:=0) u27 Tryz.underlying3 rfl (by kernel_rfl) (za rfl (xn (z:=0) rfl rfl (by decide) (by kernel_rfl) (za rfl (zrq (z:=2) rfl rfl (by kernel_rfl) (yb ?_))))));exact ⟨rfl,Below.refl _ _⟩
section
variable (lo gm gW cap top k t r:Nat) (w:World) (W:List Nat) (hM:OwnM lo w gm gW cap W top) (hk:1≤k∧k<256) (ht:t≤1048576) (hr:r≤1048576) (hmW:gm≠gW)
include hM hk ht hr hmW
theorem aalloc_ok (hz:∀i,top≤i→wat W i=0) (hf:top+(2+t+r)≤W.length):Calls Tryz.prog 51 #[.pointer (some ⟨gm,0,none⟩),.int .i64 ((k:Nat):Int),.int .i64 ((t:Nat):Int),.int .i64 ((r:Nat):Int)] w fun e w'=>e= .returned (.tuple #[.int .i64 ((top:Nat):Int),.int .i64 0])∧OwnM lo w' gm gW cap (laid W top k (List.replicate t 2) (List.replicate r 0)) (top+(2+t+r))∧Ext (Mut [some gm,some gW]) w w':=by
 have h1:=hM.one;have h3:=hM.len;have h4:=hM.most;have hXm:∀q,Mut [some gm] q→Mut [some gm,some gW] q:=fun q hq=>Or.inl (by rw[yj hq]);have hXw:∀q,Mut [some gW] q→Mut [some gm,some gW] q:=fun q hq=>Or.inr (Or.inl (by rw[yj hq]));refine zh Tryz.func51 rfl Tryz.ntmps51 rfl (yx ?_);refine yv (No) Mut.none_ [] [] (jh [Fx.of (.pointer (some ⟨gm,0,none⟩)),
  Fx.of (.bool false),
  Fx.of (.bool false),
  Fx.of (.pointer (some ⟨gm,0,none⟩)),
  Fx.of (.pointer (some ⟨gm,0,none⟩)),
  Fx.of (.pointer (some ⟨gm,1,none⟩)),
  Fx.of (.int .i64 ((top:Nat):Int)),
  Fx.of (.bool false),
  Fx.of (.bool false),
  Fx.of (.bool false),
  Fx.of (.pointer (some ⟨gm,0,none⟩)),
  Fx.of (.pointer (some ⟨gm,0,none⟩)),
  Fx.of (.pointer (some ⟨gm,1,none⟩)),
  Fx.of (.int .i64 ((top:Nat):Int)),
  Fx.of (.pointer (some ⟨gm,0,none⟩)),
  Fx.of (.pointer (some ⟨gm,0,none⟩)),
  Fx.of (.pointer (some ⟨gm,0,none⟩)),
  Fx.of (.slice (some ⟨gW,0,none⟩) W.length cap),
  Fx.of (.int .i64 (((W.length:Nat)):Int)),
  Fx.of (.bool false),
  Fx.of (.bool false),
  Fx.of (.bool false),
  Fx.of (.int .i64 ((k:Nat):Int)),
  Fx.of (.bool false),
  Fx.of (.bool false),
  Fx.of (.bool false),
  Fx.of (.int .i64 ((k:Nat):Int)),
  Fx.of (.bool false),
  Fx.of (.bool false),
  Fx.of (.bool false),
  Fx.of (.int .i64 ((t:Nat):Int)),
  Fx.of (.bool false),
  Fx.of (.bool false),
  Fx.of (.bool false),
  Fx.of (.int .i64 ((r:Nat):Int)),
  Fx.of (.bool false),
  Fx.of (.bool false),
  Fx.of (.bool false),
  Fx.of (.int .i64 ((t:Nat):Int)),
  Fx.of (.bool false),
  Fx.of (.bool false),
  Fx.of (.bool false),
  Fx.of (.int .i64 ((r:Nat):Int)),
  Fx.of (.bool false),
  Fx.of (.bool false)]) qt rfl trivial (fun _ h=>by cases h) ?_ ?_
 · refine ⟨arm,?_,arm,arm,arm,arm,?_,?_,arm,arm,arm,arm,arm,?_,arm,arm,arm,?_,arm,?_,arm,arm,arm,?_,arm,arm,arm,?_,arm,arm,arm,?_,arm,arm,arm,?_,arm,arm,arm,?_,arm,arm,arm,?_,arm,trivial⟩
   · intro vs X wq K;obtain ⟨_,e0,k0⟩:=K.dep 0 rfl rfl rfl;refine zc 16 _ rfl e0 ?_;exact zrv u37 rfl rfl ⟨Below.refl _ _,Left.of rfl⟩
   · intro vs X wq K;have LE:=K.1;obtain ⟨_,e5,k5⟩:=K.dep 5 rfl rfl rfl;refine zc 21 _ rfl e5 ?_;obtain ⟨_,e2,k2⟩:=K.dep 2 rfl rfl rfl;refine zc 18 _ rfl e2 ?_;exact zo rfl (zl Tryz.underlying3 rfl rfl (yh LE hM.mb) rfl ⟨Below.refl _ _,Left.of rfl⟩)
   · intro vs X wq K;obtain ⟨_,e6,k6⟩:=K.dep 6 rfl rfl rfl;refine zc 22 _ rfl e6 ?_;obtain ⟨_,e2,k2⟩:=K.dep 2 rfl rfl rfl;refine zc 18 _ rfl e2 ?_;exact zo rfl (zwz rfl rfl ⟨Below.refl _ _,Left.of ((by rw[decide_eq_false];omega:(.bool (decide (((top:Nat):Int)<1)):Value)=_))⟩)
   · intro vs X wq K;have LE:=K.1;obtain ⟨_,e12,k12⟩:=K.dep 12 rfl rfl rfl;refine zc 28 _ rfl e12 ?_;obtain ⟨_,e9,k9⟩:=K.dep 9 rfl rfl rfl;refine zc 25 _ rfl e9 ?_;exact zo rfl (zl Tryz.underlying3 rfl rfl (yh LE hM.mb) rfl ⟨Below.refl _ _,Left.of rfl⟩)
   · intro vs X wq K;have LE:=K.1;obtain ⟨_,e16,k16⟩:=K.dep 16 rfl rfl rfl;refine zc 32 _ rfl e16 ?_;obtain ⟨_,e9,k9⟩:=K.dep 9 rfl rfl rfl;refine zc 25 _ rfl e9 ?_;exact zo rfl (zl u22 rfl rfl (yh LE hM.mb) rfl ⟨Below.refl _ _,Left.of rfl⟩)
   · intro vs X wq K;obtain ⟨_,e13,k13⟩:=K.dep 13 rfl rfl rfl;refine zc 29 _ rfl e13 ?_;obtain ⟨_,e18,k18⟩:=K.dep 18 rfl rfl rfl;refine zc 34 _ rfl e18 ?_;obtain ⟨_,e9,k9⟩:=K.dep 9 rfl rfl rfl;refine zc 25 _ rfl e9 ?_;exact zo rfl (ko rfl rfl ⟨Below.refl _ _,Left.of ((by rw[decide_eq_false];omega:(.bool (decide ((((W.length:Nat)):Int)<((top:Nat):Int))):Value)=_))⟩)
   · intro vs X wq K;obtain ⟨_,e22,k22⟩:=K.dep 22 rfl rfl rfl;refine zc 38 _ rfl e22 ?_;obtain ⟨_,e21,k21⟩:=K.dep 21 rfl rfl rfl;refine zc 37 _ rfl e21 ?_;exact zo rfl (zwz rfl rfl ⟨Below.refl _ _,Left.of ((by rw[decide_eq_false];omega:(.bool (decide (((k:Nat):Int)<1)):Value)=_))⟩)
   · intro vs X wq K;obtain ⟨_,e26,k26⟩:=K.dep 26 rfl rfl rfl;refine zc 42 _ rfl e26 ?_;obtain ⟨_,e25,k25⟩:=K.dep 25 rfl rfl rfl;refine zc 41 _ rfl e25 ?_;exact zo rfl (ko rfl rfl ⟨Below.refl _ _,Left.of ((by rw[decide_eq_false];omega:(.bool (decide (255<((k:Nat):Int))):Value)=_))⟩)
   · intro vs X wq K;obtain ⟨_,e30,k30⟩:=K.dep 30 rfl rfl rfl;refine zc 46 _ rfl e30 ?_;obtain ⟨_,e29,k29⟩:=K.dep 29 rfl rfl rfl;refine zc 45 _ rfl e29 ?_;exact zo rfl (zwz rfl rfl ⟨Below.refl _ _,Left.of ((by rw[decide_eq_false];omega:(.bool (decide (((t:Nat):Int)<0)):Value)=_))⟩)
   · intro vs X wq K;obtain ⟨_,e34,k34⟩:=K.dep 34 rfl rfl rfl;refine zc 50 _ rfl e34 ?_;obtain ⟨_,e33,k33⟩:=K.dep 33 rfl rfl rfl;refine zc 49 _ rfl e33 ?_;exact zo rfl (zwz rfl rfl ⟨Below.refl _ _,Left.of ((by rw[decide_eq_false];omega:(.bool (decide (((r:Nat):Int)<0)):Value)=_))⟩)
   · intro vs X wq K;obtain ⟨_,e38,k38⟩:=K.dep 38 rfl rfl rfl;refine zc 54 _ rfl e38 ?_;obtain ⟨_,e37,k37⟩:=K.dep 37 rfl rfl rfl;refine zc 53 _ rfl e37 ?_;exact zo rfl (ko rfl rfl ⟨Below.refl _ _,Left.of ((by rw[decide_eq_false];omega:(.bool (decide (1048576<((t:Nat):Int))):Value)=_))⟩)
   · intro vs X wq K;obtain ⟨_,e42,k42⟩:=K.dep 42 rfl rfl rfl;refine zc 58 _ rfl e42 ?_;obtain ⟨_,e41,k41⟩:=K.dep 41 rfl rfl rfl;refine zc 57 _ rfl e41 ?_;exact zo rfl (ko rfl rfl ⟨Below.refl _ _,Left.of ((by rw[decide_eq_false];omega:(.bool (decide (1048576<((r:Nat):Int))):Value)=_))⟩)
 intro vs w1 LE AO AL AF AA;have hbd:Below (w).heap.size (w) w1:=(((Ext.refl No (w)).drew).trans LE).toBelow;obtain ⟨_,e44,k44⟩:=AL.2.2.2.2.2.2.2.2.2.2.2.2.2.2.2.2.2.2.2.2.2.2.2.2.2.2.2.2.2.2.2.2.2.2.2.2.2.2.2.2.2.2.2.2.1;refine qe (τ:=[(0,_),(1,_),(2,_),(3,_),(8,_),(9,_),(60,.bool false)]) ⟨rfl,rfl,rfl,rfl,rfl,rfl,congrArg some e44,trivial⟩ ?_;clear AL AF AA AO;have E1:=Ext.of_below hbd No;obtain ⟨wu1,hwu1⟩:∃wu1,wu1=w1:=⟨_,rfl⟩;subst hwu1;have hM1:=hM.ext E1 (fun h=>h) (fun h=>h);refine yu ?_;refine za rfl (zr rfl rfl (zg (by omega)) (stp ?_));refine za rfl (zr rfl rfl (zg (by omega)) (yk ?_));refine zk 10 (.int .i64 ((2+t+r:Nat):Int)) rfl ((by first | rfl | (congr 1;omega):(.int .i64 ((2+((t:Nat):Int))+((r:Nat):Int)):Value)=_)) ?_;refine yv (No) Mut.none_ [] [] (jh [Fx.of (.int .i64 ((2+t+r:Nat):Int)),
  Fx.of (.bool false),
  Fx.of (.bool false),
  Fx.of (.int .i64 ((2+t+r:Nat):Int)),
  Fx.of (.pointer (some ⟨gm,0,none⟩)),
  Fx.of (.pointer (some ⟨gm,0,none⟩)),
  Fx.of (.pointer (some ⟨gm,0,none⟩)),
  Fx.of (.slice (some ⟨gW,0,none⟩) W.length cap),
  Fx.of (.int .i64 (((W.length:Nat)):Int)),
  Fx.of (.pointer (some ⟨gm,0,none⟩)),
  Fx.of (.pointer (some ⟨gm,0,none⟩)),
  Fx.of (.pointer (some ⟨gm,1,none⟩)),
  Fx.of (.int .i64 ((top:Nat):Int)),
  Fx.of (.int .i64 ((((W.length:Nat)):Int)-((top:Nat):Int))),
  Fx.of (.bool false),
  Fx.of (.bool false)]) qt rfl trivial (fun _ h=>by cases h) ?_ ?_
 · refine ⟨arm,?_,arm,arm,arm,arm,arm,?_,arm,arm,arm,arm,?_,?_,?_,arm,trivial⟩
   · intro vs X wq K;obtain ⟨_,e0,k0⟩:=K.dep 0 rfl rfl rfl;refine zc 65 _ rfl e0 ?_;exact zwq rfl rfl ⟨Below.refl _ _,Left.of ((by rw[decide_eq_false];omega:(.bool (decide (16777216≤((2+t+r:Nat):Int))):Value)=_))⟩
   · intro vs X wq K;have LE:=K.1;obtain ⟨_,e6,k6⟩:=K.dep 6 rfl rfl rfl;refine zc 71 _ rfl e6 ?_;obtain ⟨_,e2,k2⟩:=K.dep 2 rfl rfl rfl;refine zc 67 _ rfl e2 ?_;exact zo rfl (zl u22 rfl rfl (yh LE hM1.mb) rfl ⟨Below.refl _ _,Left.of rfl⟩)
   · intro vs X wq K;have LE:=K.1;obtain ⟨_,e11,k11⟩:=K.dep 11 rfl rfl rfl;refine zc 76 _ rfl e11 ?_;obtain ⟨_,e2,k2⟩:=K.dep 2 rfl rfl rfl;refine zc 67 _ rfl e2 ?_;exact zo rfl (zl Tryz.underlying3 rfl rfl (yh LE hM1.mb) rfl ⟨Below.refl _ _,Left.of rfl⟩)
   · intro vs X wq K;obtain ⟨_,e8,k8⟩:=K.dep 8 rfl rfl rfl;refine zc 73 _ rfl e8 ?_;obtain ⟨_,e12,k12⟩:=K.dep 12 rfl rfl rfl;refine zc 77 _ rfl e12 ?_;obtain ⟨_,e2,k2⟩:=K.dep 2 rfl rfl rfl;refine zc 67 _ rfl e2 ?_;exact zo rfl (qz rfl rfl (zg (by omega)) ⟨Below.refl _ _,Left.of rfl⟩)
   · intro vs X wq K;obtain ⟨_,e3,k3⟩:=K.dep 3 rfl rfl rfl;refine zc 68 _ rfl e3 ?_;obtain ⟨_,e13,k13⟩:=K.dep 13 rfl rfl rfl;refine zc 78 _ rfl e13 ?_;obtain ⟨_,e2,k2⟩:=K.dep 2 rfl rfl rfl;refine zc 67 _ rfl e2 ?_;exact zo rfl (ko rfl rfl ⟨Below.refl _ _,Left.of ((by rw[decide_eq_false];omega:(.bool (decide (((((W.length:Nat)):Int)-((top:Nat):Int))<((2+t+r:Nat):Int))):Value)=_))⟩)
 intro vs w2 LE AO AL AF AA;have hbd:Below (wu1).heap.size (wu1) w2:=(((Ext.refl No (wu1)).drew).trans LE).toBelow;obtain ⟨_,e15,k15⟩:=AL.2.2.2.2.2.2.2.2.2.2.2.2.2.2.2.1;refine qe (τ:=[(0,_),(1,_),(2,_),(8,_),(9,_),(10,_),(80,.bool false)]) ⟨rfl,rfl,rfl,rfl,rfl,rfl,congrArg some e15,trivial⟩ ?_;clear AL AF AA AO;have E2:=E1.trans (Ext.of_below hbd No);have hM2:=hM1.ext (Ext.of_below hbd No) (fun h=>h) (fun h=>h);refine qa ?_;refine za rfl (zl Tryz.underlying3 rfl rfl hM2.mb rfl (yx ?_));refine za rfl (zl Tryz.underlying3 rfl rfl hM2.mb rfl (stp ?_));refine za rfl (zr rfl rfl (zg (by omega)) (zy ?_));refine zq (jz (cs':=#[.slice (some ⟨gW,0,none⟩) W.length cap,.int .i64 ((top+(2+t+r):Nat):Int)]) sz3 rfl rfl hM2.mb rfl rfl (Nat.le_of_ble_eq_true rfl) (by rw[show (((top+(2+t+r):Nat)):Int)=((top:Nat):Int)+((2+t+r:Nat):Int) from by omega];rfl) ?_);rintro wu3 bm3 E3;have hM3:OwnM lo wu3 gm gW cap W (top+(2+t+r)):=⟨bm3,qr hM2.row E3 (fun q hq hx=>by cases hq;exact hmW (yj hx).symm),hM.in_,by omega,hf,h4⟩;have hE3:Ext (Mut [some gm,some gW]) w wu3:=(E2.mono (Y:=Mut [some gm,some gW]) (fun _ h _=>h.elim)).step E3 (fun q hq=>Or.inl (hXm q hq));refine qb ?_;refine za rfl (zd en22 rfl ((const0_any _).mono ?_));rintro e w3 ⟨rfl,hb⟩;refine ⟨_,rfl,?_⟩;have E4:=Ext.of_below hb No;have hM4:=hM3.ext E4 (fun h=>h) (fun h=>h);have hE4:=hE3.step E4 (fun _ h=>h.elim);have hcap:W.length≤cap:=by
  rcases hM4.row.2 with ⟨h9,_⟩ | ⟨g9,c9,u9,h9,_,_,h8,_⟩
  · cases h9
  · cases h9;exact h8
 refine qa ?_;refine yv (No) Mut.none_ [] [] (jh [Fx.of (.pointer (some ⟨gm,0,none⟩)),
  Fx.of (.pointer (some ⟨gm,0,none⟩)),
  Fx.of (.pointer (some ⟨gm,0,none⟩)),
  Fx.of (.slice (some ⟨gW,0,none⟩) W.length cap),
  Fx.of (.int .i64 ((top:Nat):Int)),
  Fx.of (.pointer (some ⟨gm,0,none⟩)),
  Fx.of (.pointer (some ⟨gm,0,none⟩)),
  Fx.of (.pointer (some ⟨gm,1,none⟩)),
  Fx.of (.int .i64 ((top+(2+t+r):Nat):Int)),
  Fx.of (.slice (if cap=top then (some ⟨gW,0,none⟩) else (some (⟨gW,0,none⟩:Addr)).map (·.add (top*1))) (top+(2+t+r)-top) (cap-top)),
  Fx.of (.int .i64 ((((top+(2+t+r)-top):Nat)):Int)),
  Fx.of (.int .i64 0)]) qt rfl trivial (fun _ h=>by cases h) ?_ ?_
 · refine ⟨arm,arm,arm,?_,arm,arm,arm,arm,?_,?_,arm,arm,trivial⟩
   · intro vs X wq K;have LE:=K.1;obtain ⟨_,e2,k2⟩:=K.dep 2 rfl rfl rfl;refine zc 99 _ rfl e2 ?_;exact zl u22 rfl rfl (yh LE hM4.mb) rfl ⟨Below.refl _ _,Left.of rfl⟩
   · intro vs X wq K;have LE:=K.1;obtain ⟨_,e7,k7⟩:=K.dep 7 rfl rfl rfl;refine zc 104 _ rfl e7 ?_;exact zl Tryz.underlying3 rfl rfl (yh LE hM4.mb) rfl ⟨Below.refl _ _,Left.of rfl⟩
   · intro vs X wq K;obtain ⟨_,e3,k3⟩:=K.dep 3 rfl rfl rfl;refine zc 100 _ rfl e3 ?_;obtain ⟨_,e4,k4⟩:=K.dep 4 rfl rfl rfl;refine zc 101 _ rfl e4 ?_;obtain ⟨_,e8,k8⟩:=K.dep 8 rfl rfl rfl;refine zc 105 _ rfl e8 ?_;exact ysq (l:=top) (h:=top+(2+t+r)) u22 qk rfl ⟨_,rfl⟩ ⟨_,rfl⟩ (by omega) (by omega) ⟨Below.refl _ _,Left.of rfl⟩
 intro vs w4 LE AO AL AF AA;have hbd:Below (w3).heap.size (w3) w4:=(((Ext.refl No (w3)).drew).trans LE).toBelow;obtain ⟨_,e10,k10⟩:=AL.2.2.2.2.2.2.2.2.2.2.1;obtain ⟨_,e11,k11⟩:=AL.2.2.2.2.2.2.2.2.2.2.2.1;refine qe (τ:=[(0,_),(1,_),(2,_),(8,_),(9,_),(10,_),(11,_),(12,_),(107,.int .i64 ((((top+(2+t+r)-top):Nat)):Int)),(108,.int .i64 0)]) ⟨rfl,rfl,rfl,rfl,rfl,rfl,rfl,rfl,congrArg some e10,congrArg some e11,trivial⟩ ?_;clear AL AF AA AO;have hM5:=hM4.ext (Ext.of_below hbd No) (fun h=>h) (fun h=>h);have hE5:=hE4.step (Ext.of_below hbd No) (fun _ h=>h.elim);refine zy ?_;refine qw (ι:=Nat) (fun i=>[(0,.pointer (some ⟨gm,0,none⟩)),(1,.int .i64 ((k:Nat):Int)),(2,.int .i64 ((t:Nat):Int)),(10,.int .i64 ((2+t+r:Nat):Int)),(11,.int .i64 ((top:Nat):Int)),(12,.int .u64 2),(107,.int .i64 ((top+(2+t+r)-top:Nat):Int)),(108,.int .i64 ((i:Nat):Int))]) (fun i w'=>i≤2+t+r∧OwnM lo w' gm gW cap W (top+(2+t+r))∧Ext (Mut [some gm,some gW]) w w') (fun i=>2+t+r-i) 0 ⟨rfl,rfl,rfl,rfl,rfl,rfl,rfl,rfl,trivial⟩ (⟨Nat.zero_le _,hM5,hE5⟩) ?_;rintro i w6 ⟨hi0,hMi,hEi⟩;refine yb ?_;refine zx rfl (fun hc=>?_) (fun hc=>?_)
 ·
  have hc:=of_decide_eq_true hc;have hlt:i<2+t+r:=by omega
  refine jt ?_;refine za rfl (zl u22 rfl rfl hMi.mb rfl (zy ?_));refine za rfl (zr rfl rfl (zg (by omega)) (za rfl (zi (j:=top+i) u22 qk rfl rfl (by omega) (by omega) (zq (zmx (o:=0+(top+i)) (xs':=ym W) qk rfl rfl hMi.row (by omega) rfl rfl (by rw[Nat.zero_add];exact (gu (x:=0)).trans (by rw[set_zero (by omega) (hz _ (by omega))])) ?_)))));rintro wS OS ES;refine qb ?_;refine za rfl (zr rfl rfl (zg (by omega)) (zy ?_));exact qf (i+1) (by show 2+t+r-(i+1)<2+t+r-i;omega) ⟨rfl,rfl,rfl,rfl,rfl,rfl,rfl,rfl,trivial⟩ (⟨hlt,⟨zek hMi.mb hMi.row (by decide) ES,OS,hMi.in_,hMi.one,hMi.len,hMi.most⟩,hEi.step ES (fun q hq=>Or.inl (hXw q hq))⟩)
 ·
  obtain ⟨s,hs⟩:∃s,s=2+t+r:=⟨_,rfl⟩;have hc:=of_decide_eq_false hc;refine zk 10 (.int .i64 ((s:Nat):Int)) rfl ((by rw[hs]:(.int .i64 ((2+t+r:Nat):Int):Value)=_)) (zz ?_);refine za rfl (zl u22 rfl rfl hMi.mb rfl (zy ?_));refine za rfl (yi u27 Tryz.underlying3 rfl (wrap_u64 (by omega)) (stp ?_));refine za rfl (yi u27 Tryz.underlying3 rfl (wrap_u64 (by omega)) (za rfl (xn rfl rfl (by decide) (shl_O (x:=t) (k:=8) (by decide) (by omega)) (za rfl (zrq rfl rfl (yzq (x:=k) (y:=t*2^8) (k:=8) (by omega) (by omega) (by decide) (by omega)) (stp ?_))))));refine za rfl (yi u27 Tryz.underlying3 rfl (wrap_u64 (by omega)) (za rfl (xn rfl rfl (by decide) (shl_O (x:=s) (k:=32) (by decide) (by omega)) (za rfl (zrq rfl rfl (yzq (x:=k+t*2^8) (y:=s*2^32) (k:=32) (by omega) (by omega) (by decide) (by omega)) (zf 134 (.int .u64 ((jr k t s:Nat):Int)) rfl ((by congr 1;unfold jr;omega:(.int .u64 ((k+t*2^8+s*2^32:Nat):Int):Value)=_)) (za rfl (zi (j:=top) u22 qk rfl rfl rfl (by omega) (zq (zmx (o:=0+top) (xs':=ym (W.set top (jr k t s))) qk rfl rfl hMi.row (by omega) rfl rfl (by rw[Nat.zero_add,gu]) ?_))))))))));rintro wS OS ES;have hh:U64 (jr k t s):=by unfold U64 jr;omega
  have hM6:=hMi.put hh OS ES;have hE6:=hEi.step ES (fun q hq=>Or.inl (hXw q hq));have hN0:NewM W (W.set top (jr k t s)) top (jr k t s) 0:=.zero (by omega);refine zz ?_;refine qw (ι:=Nat×List Nat) (fun (j,V)=>[(0,.pointer (some ⟨gm,0,none⟩)),(11,.int .i64 ((top:Nat):Int)),(12,.int .u64 2),(136,.int .i64 ((t:Nat):Int)),(137,.int .i64 ((j:Nat):Int))]) (fun (j,V) w'=>j≤t∧NewM W V top (jr k t s) j∧OwnM lo w' gm gW cap V (top+(2+t+r))∧Ext (Mut [some gm,some gW]) w w') (fun (j,_)=>t-j) (0,W.set top (jr k t s)) ⟨rfl,rfl,rfl,rfl,rfl,trivial⟩ (⟨Nat.zero_le _,hN0,hM6,hE6⟩) ?_;rintro ⟨j,V⟩ w8 ⟨hjt,hNj,hMj,hEj⟩;have hVl:=hNj.1;refine yb ?_;refine zx rfl (fun hc2=>?_) (fun hc2=>?_)
  ·
   have hc2:=of_decide_eq_true hc2;have hjlt:j<t:=by omega
   refine jt ?_;refine za rfl (zl u22 rfl rfl hMj.mb rfl (stp ?_));refine za rfl (zr rfl rfl (zg (by omega)) (stp ?_));refine za rfl (zr rfl rfl (zg (by omega)) (stp ?_));refine za rfl (zi (j:=top+2+j) u22 qk rfl rfl (by omega) (by omega) (zq (zmx (o:=0+(top+2+j)) (xs':=ym (V.set (top+2+j) 2)) qk rfl rfl hMj.row (by omega) rfl rfl (by rw[Nat.zero_add];exact gu (x:=2)) ?_)));rintro wT OT ET;refine qb ?_;refine za rfl (zr rfl rfl (zg (by omega)) (zy ?_));exact qf (j+1,V.set (top+2+j) 2) (by show t-(j+1)<t-j;omega) ⟨rfl,rfl,rfl,rfl,rfl,trivial⟩ (⟨hjlt,hNj.next (by omega),hMj.put (show U64 2 from by unfold U64;omega) OT ET,hEj.step ET (fun q hq=>Or.inl (hXw q hq))⟩)
  ·
   have hc2:=of_decide_eq_false hc2;have hjt2:j=t:=by omega
   have hV:V=laid W top k (List.replicate t 2) (List.replicate r 0):=NewM.isLaid (hs▸hjt2▸hNj) hz hf;refine jt ?_;exact ⟨rfl,hV▸hMj,hEj⟩
theorem aalloc_full (hf:W.length<top+(2+t+r)):Calls Tryz.prog 51 #[.pointer (some ⟨gm,0,none⟩),.int .i64 ((k:Nat):Int),.int .i64 ((t:Nat):Int),.int .i64 ((r:Nat):Int)] w fun e w'=>e= .returned (.tuple #[.int .i64 0,.int .i64 5])∧Below w.heap.size w w':=by
 have _:=hmW;have h1:=hM.one;have h3:=hM.len;have h4:=hM.most;refine zh Tryz.func51 rfl Tryz.ntmps51 rfl (yx ?_);refine yv (No) Mut.none_ [] [] (jh [Fx.of (.pointer (some ⟨gm,0,none⟩)),
  Fx.of (.bool false),
  Fx.of (.bool false),
  Fx.of (.pointer (some ⟨gm,0,none⟩)),
  Fx.of (.pointer (some ⟨gm,0,none⟩)),
  Fx.of (.pointer (some ⟨gm,1,none⟩)),
  Fx.of (.int .i64 ((top:Nat):Int)),
  Fx.of (.bool false),
  Fx.of (.bool false),
  Fx.of (.bool false),
  Fx.of (.pointer (some ⟨gm,0,none⟩)),
  Fx.of (.pointer (some ⟨gm,0,none⟩)),
  Fx.of (.pointer (some ⟨gm,1,none⟩)),
  Fx.of (.int .i64 ((top:Nat):Int)),
  Fx.of (.pointer (some ⟨gm,0,none⟩)),
  Fx.of (.pointer (some ⟨gm,0,none⟩)),
  Fx.of (.pointer (some ⟨gm,0,none⟩)),
  Fx.of (.slice (some ⟨gW,0,none⟩) W.length cap),
  Fx.of (.int .i64 (((W.length:Nat)):Int)),
  Fx.of (.bool false),
  Fx.of (.bool false),
  Fx.of (.bool false),
  Fx.of (.int .i64 ((k:Nat):Int)),
  Fx.of (.bool false),
  Fx.of (.bool false),
  Fx.of (.bool false),
  Fx.of (.int .i64 ((k:Nat):Int)),
  Fx.of (.bool false),
  Fx.of (.bool false),
  Fx.of (.bool false),
  Fx.of (.int .i64 ((t:Nat):Int)),
  Fx.of (.bool false),
  Fx.of (.bool false),
  Fx.of (.bool false),
  Fx.of (.int .i64 ((r:Nat):Int)),
  Fx.of (.bool false),
  Fx.of (.bool false),
  Fx.of (.bool false),
  Fx.of (.int .i64 ((t:Nat):Int)),
  Fx.of (.bool false),
  Fx.of (.bool false),
  Fx.of (.bool false),
  Fx.of (.int .i64 ((r:Nat):Int)),
  Fx.of (.bool false),
  Fx.of (.bool false)]) qt rfl trivial (fun _ h=>by cases h) ?_ ?_
 · refine ⟨arm,?_,arm,arm,arm,arm,?_,?_,arm,arm,arm,arm,arm,?_,arm,arm,arm,?_,arm,?_,arm,arm,arm,?_,arm,arm,arm,?_,arm,arm,arm,?_,arm,arm,arm,?_,arm,arm,arm,?_,arm,arm,arm,?_,arm,trivial⟩
   · intro vs X wq K;obtain ⟨_,e0,k0⟩:=K.dep 0 rfl rfl rfl;refine zc 16 _ rfl e0 ?_;exact zrv u37 rfl rfl ⟨Below.refl _ _,Left.of rfl⟩
   · intro vs X wq K;have LE:=K.1;obtain ⟨_,e5,k5⟩:=K.dep 5 rfl rfl rfl;refine zc 21 _ rfl e5 ?_;obtain ⟨_,e2,k2⟩:=K.dep 2 rfl rfl rfl;refine zc 18 _ rfl e2 ?_;exact zo rfl (zl Tryz.underlying3 rfl rfl (yh LE hM.mb) rfl ⟨Below.refl _ _,Left.of rfl⟩)
   · intro vs X wq K;obtain ⟨_,e6,k6⟩:=K.dep 6 rfl rfl rfl;refine zc 22 _ rfl e6 ?_;obtain ⟨_,e2,k2⟩:=K.dep 2 rfl rfl rfl;refine zc 18 _ rfl e2 ?_;exact zo rfl (zwz rfl rfl ⟨Below.refl _ _,Left.of ((by rw[decide_eq_false];omega:(.bool (decide (((top:Nat):Int)<1)):Value)=_))⟩)
   · intro vs X wq K;have LE:=K.1;obtain ⟨_,e12,k12⟩:=K.dep 12 rfl rfl rfl;refine zc 28 _ rfl e12 ?_;obtain ⟨_,e9,k9⟩:=K.dep 9 rfl rfl rfl;refine zc 25 _ rfl e9 ?_;exact zo rfl (zl Tryz.underlying3 rfl rfl (yh LE hM.mb) rfl ⟨Below.refl _ _,Left.of rfl⟩)
   · intro vs X wq K;have LE:=K.1;obtain ⟨_,e16,k16⟩:=K.dep 16 rfl rfl rfl;refine zc 32 _ rfl e16 ?_;obtain ⟨_,e9,k9⟩:=K.dep 9 rfl rfl rfl;refine zc 25 _ rfl e9 ?_;exact zo rfl (zl u22 rfl rfl (yh LE hM.mb) rfl ⟨Below.refl _ _,Left.of rfl⟩)
   · intro vs X wq K;obtain ⟨_,e13,k13⟩:=K.dep 13 rfl rfl rfl;refine zc 29 _ rfl e13 ?_;obtain ⟨_,e18,k18⟩:=K.dep 18 rfl rfl rfl;refine zc 34 _ rfl e18 ?_;obtain ⟨_,e9,k9⟩:=K.dep 9 rfl rfl rfl;refine zc 25 _ rfl e9 ?_;exact zo rfl (ko rfl rfl ⟨Below.refl _ _,Left.of ((by rw[decide_eq_false];omega:(.bool (decide ((((W.length:Nat)):Int)<((top:Nat):Int))):Value)=_))⟩)
   · intro vs X wq K;obtain ⟨_,e22,k22⟩:=K.dep 22 rfl rfl rfl;refine zc 38 _ rfl e22 ?_;obtain ⟨_,e21,k21⟩:=K.dep 21 rfl rfl rfl;refine zc 37 _ rfl e21 ?_;exact zo rfl (zwz rfl rfl ⟨Below.refl _ _,Left.of ((by rw[decide_eq_false];omega:(.bool (decide (((k:Nat):Int)<1)):Value)=_))⟩)
   · intro vs X wq K;obtain ⟨_,e26,k26⟩:=K.dep 26 rfl rfl rfl;refine zc 42 _ rfl e26 ?_;obtain ⟨_,e25,k25⟩:=K.dep 25 rfl rfl rfl;refine zc 41 _ rfl e25 ?_;exact zo rfl (ko rfl rfl ⟨Below.refl _ _,Left.of ((by rw[decide_eq_false];omega:(.bool (decide (255<((k:Nat):Int))):Value)=_))⟩)
   · intro vs X wq K;obtain ⟨_,e30,k30⟩:=K.dep 30 rfl rfl rfl;refine zc 46 _ rfl e30 ?_;obtain ⟨_,e29,k29⟩:=K.dep 29 rfl rfl rfl;refine zc 45 _ rfl e29 ?_;exact zo rfl (zwz rfl rfl ⟨Below.refl _ _,Left.of ((by rw[decide_eq_false];omega:(.bool (decide (((t:Nat):Int)<0)):Value)=_))⟩)
   · intro vs X wq K;obtain ⟨_,e34,k34⟩:=K.dep 34 rfl rfl rfl;refine zc 50 _ rfl e34 ?_;obtain ⟨_,e33,k33⟩:=K.dep 33 rfl rfl rfl;refine zc 49 _ rfl e33 ?_;exact zo rfl (zwz rfl rfl ⟨Below.refl _ _,Left.of ((by rw[decide_eq_false];omega:(.bool (decide (((r:Nat):Int)<0)):Value)=_))⟩)
   · intro vs X wq K;obtain ⟨_,e38,k38⟩:=K.dep 38 rfl rfl rfl;refine zc 54 _ rfl e38 ?_;obtain ⟨_,e37,k37⟩:=K.dep 37 rfl rfl rfl;refine zc 53 _ rfl e37 ?_;exact zo rfl (ko rfl rfl ⟨Below.refl _ _,Left.of ((by rw[decide_eq_false];omega:(.bool (decide (1048576<((t:Nat):Int))):Value)=_))⟩)
   · intro vs X wq K;obtain ⟨_,e42,k42⟩:=K.dep 42 rfl rfl rfl;refine zc 58 _ rfl e42 ?_;obtain ⟨_,e41,k41⟩:=K.dep 41 rfl rfl rfl;refine zc 57 _ rfl e41 ?_;exact zo rfl (ko rfl rfl ⟨Below.refl _ _,Left.of ((by rw[decide_eq_false];omega:(.bool (decide (1048576<((r:Nat):Int))):Value)=_))⟩)
 intro vs w1 LE AO AL AF AA;have hbd:Below (w).heap.size (w) w1:=(((Ext.refl No (w)).drew).trans LE).toBelow;obtain ⟨_,e44,k44⟩:=AL.2.2.2.2.2.2.2.2.2.2.2.2.2.2.2.2.2.2.2.2.2.2.2.2.2.2.2.2.2.2.2.2.2.2.2.2.2.2.2.2.2.2.2.2.1;refine qe (τ:=[(0,_),(1,_),(2,_),(3,_),(8,_),(9,_),(60,.bool false)]) ⟨rfl,rfl,rfl,rfl,rfl,rfl,congrArg some e44,trivial⟩ ?_;clear AL AF AA AO;have E1:=Ext.of_below hbd No;obtain ⟨wu1,hwu1⟩:∃wu1,wu1=w1:=⟨_,rfl⟩;subst hwu1;have hM1:=hM.ext E1 (fun h=>h) (fun h=>h);refine yu ?_;refine za rfl (zr rfl rfl (zg (by omega)) (stp ?_));refine za rfl (zr rfl rfl (zg (by omega)) (yk ?_));refine yv (No) Mut.none_ [] [] (jh [Fx.of (.int .i64 ((2+((t:Nat):Int))+((r:Nat):Int))),
  Fx.of (.bool false),
  Fx.of (.bool false),
  Fx.of (.int .i64 ((2+((t:Nat):Int))+((r:Nat):Int))),
  Fx.of (.pointer (some ⟨gm,0,none⟩)),
  Fx.of (.pointer (some ⟨gm,0,none⟩)),
  Fx.of (.pointer (some ⟨gm,0,none⟩)),
  Fx.of (.slice (some ⟨gW,0,none⟩) W.length cap),
  Fx.of (.int .i64 (((W.length:Nat)):Int)),
  Fx.of (.pointer (some ⟨gm,0,none⟩)),
  Fx.of (.pointer (some ⟨gm,0,none⟩)),
  Fx.of (.pointer (some ⟨gm,1,none⟩)),
  Fx.of (.int .i64 ((top:Nat):Int)),
  Fx.of (.int .i64 ((((W.length:Nat)):Int)-((top:Nat):Int))),
  Fx.of (.bool true),
  Fx.of (.bool true)]) qt rfl trivial (fun _ h=>by cases h) ?_ ?_
 · refine ⟨arm,?_,arm,arm,arm,arm,arm,?_,arm,arm,arm,arm,?_,?_,?_,arm,trivial⟩
   · intro vs X wq K;obtain ⟨_,e0,k0⟩:=K.dep 0 rfl rfl rfl;refine zc 65 _ rfl e0 ?_;exact zwq rfl rfl ⟨Below.refl _ _,Left.of ((by rw[decide_eq_false];omega:(.bool (decide (16777216≤((2+((t:Nat):Int))+((r:Nat):Int)))):Value)=_))⟩
   · intro vs X wq K;have LE:=K.1;obtain ⟨_,e6,k6⟩:=K.dep 6 rfl rfl rfl;refine zc 71 _ rfl e6 ?_;obtain ⟨_,e2,k2⟩:=K.dep 2 rfl rfl rfl;refine zc 67 _ rfl e2 ?_;exact zo rfl (zl u22 rfl rfl (yh LE hM1.mb) rfl ⟨Below.refl _ _,Left.of rfl⟩)
   · intro vs X wq K;have LE:=K.1;obtain ⟨_,e11,k11⟩:=K.dep 11 rfl rfl rfl;refine zc 76 _ rfl e11 ?_;obtain ⟨_,e2,k2⟩:=K.dep 2 rfl rfl rfl;refine zc 67 _ rfl e2 ?_;exact zo rfl (zl Tryz.underlying3 rfl rfl (yh LE hM1.mb) rfl ⟨Below.refl _ _,Left.of rfl⟩)
   · intro vs X wq K;obtain ⟨_,e8,k8⟩:=K.dep 8 rfl rfl rfl;refine zc 73 _ rfl e8 ?_;obtain ⟨_,e12,k12⟩:=K.dep 12 rfl rfl rfl;refine zc 77 _ rfl e12 ?_;obtain ⟨_,e2,k2⟩:=K.dep 2 rfl rfl rfl;refine zc 67 _ rfl e2 ?_;exact zo rfl (qz rfl rfl (zg (by omega)) ⟨Below.refl _ _,Left.of rfl⟩)
   · intro vs X wq K;obtain ⟨_,e3,k3⟩:=K.dep 3 rfl rfl rfl;refine zc 68 _ rfl e3 ?_;obtain ⟨_,e13,k13⟩:=K.dep 13 rfl rfl rfl;refine zc 78 _ rfl e13 ?_;obtain ⟨_,e2,k2⟩:=K.dep 2 rfl rfl rfl;refine zc 67 _ rfl e2 ?_;exact zo rfl (ko rfl rfl ⟨Below.refl _ _,Left.of ((by rw[decide_eq_true];omega:(.bool (decide (((((W.length:Nat)):Int)-((top:Nat):Int))<((2+((t:Nat):Int))+((r:Nat):Int)))):Value)=_))⟩)
 intro vs w2 LE AO AL AF AA;have hbd:Below (wu1).heap.size (wu1) w2:=(((Ext.refl No (wu1)).drew).trans LE).toBelow;obtain ⟨_,e15,k15⟩:=AL.2.2.2.2.2.2.2.2.2.2.2.2.2.2.2.1;refine qe (τ:=[(0,_),(1,_),(2,_),(8,_),(9,_),(10,_),(80,.bool true)]) ⟨rfl,rfl,rfl,rfl,rfl,rfl,congrArg some e15,trivial⟩ ?_;clear AL AF AA AO;refine yt ?_;exact ⟨rfl,(E1.trans (Ext.of_below hbd No)).toBelow⟩
end
end Go.Proofs.YtebjkmjfcijebaaGreat
namespace Go.Proofs.YtebjkmjfcijebaaGreat
open Go.RowKit
theorem laid_set {W:List Nat} {top k i x:Nat} {tg raw:List Nat} (h:top+(2+tg.length+raw.length)≤W.length) (hi:i<tg.length):(laid W top k tg raw).set (top+2+i) x=laid W top k (tg.set i x) raw:=by
 have h':top+(2+(tg.set i x).length+raw.length)≤W.length:=by rw[List.length_set];exact h
 apply List.ext_getElem?
 intro j;rw[List.getElem?_set,zbk h',zbk h,zbq h,List.length_set];by_cases e:top+2+i=j
 · subst e;rw[if_pos rfl,if_pos (by omega),if_neg (by omega),if_pos (by omega),show top+2+i-top=i+1+1 by omega,List.getElem?_cons_succ,List.getElem?_cons_succ,List.getElem?_append_left (by rw[List.length_set];exact hi),List.getElem?_set_self hi]
 · rw[if_neg e];split
   · rfl
   · split
     · obtain ⟨m,rfl⟩:∃m,j=top+m:=⟨j-top,by omega⟩;rw[show top+m-top=m by omega];match m with
       | 0=>rfl
       | 1=>rfl
       | m+2=>
        rw[List.getElem?_cons_succ,List.getElem?_cons_succ,List.getElem?_cons_succ,List.getElem?_cons_succ];by_cases e2:m<tg.length
        · rw[List.getElem?_append_left e2,List.getElem?_append_left (by rw[List.length_set];exact e2),List.getElem?_set_ne (by omega)]
        · rw[List.getElem?_append_right (by omega),List.getElem?_append_right (by rw[List.length_set];omega),List.length_set]
     · rfl
theorem laid_setR {W:List Nat} {top k i x:Nat} {tg raw:List Nat} (h:top+(2+tg.length+raw.length)≤W.length) (hi:i<raw.length):(laid W top k tg raw).set (top+2+(tg.length+i)) x=laid W top k tg (raw.set i x):=by
 have h':top+(2+tg.length+(raw.set i x).length)≤W.length:=by rw[List.length_set];exact h
 apply List.ext_getElem?
 intro j;rw[List.getElem?_set,zbk h',zbk h,zbq h,List.length_set];by_cases e:top+2+(tg.length+i)=j
 · subst e;rw[if_pos rfl,if_pos (by omega),if_neg (by omega),if_pos (by omega),show top+2+(tg.length+i)-top=tg.length+i+1+1 by omega,List.getElem?_cons_succ,List.getElem?_cons_succ,List.getElem?_append_right (by omega),show tg.length+i-tg.length=i by omega,List.getElem?_set_self hi]
 · rw[if_neg e];split
   · rfl
   · split
     · obtain ⟨m,rfl⟩:∃m,j=top+m:=⟨j-top,by omega⟩;rw[show top+m-top=m by omega];match m with
       | 0=>rfl
       | 1=>rfl
       | m+2=>
        rw[List.getElem?_cons_succ,List.getElem?_cons_succ,List.getElem?_cons_succ,List.getElem?_cons_succ];by_cases e2:m<tg.length
        · rw[List.getElem?_append_left e2,List.getElem?_append_left e2]
        · rw[List.getElem?_append_right (by omega),List.getElem?_append_right (by omega),List.getElem?_set_ne (by omega)]
     · rfl
def qh (T:List Nat) (v i:Nat):List Nat:=T.take i++List.replicate (T.length-i) v
theorem zav {T:List Nat} {v i:Nat} (hi:i≤T.length):(qh T v i).length=T.length:=by unfold qh;rw[List.length_append,List.length_take,List.length_replicate];omega
theorem yoz (T:List Nat) (v:Nat):qh T v 0=List.replicate T.length v:=by unfold qh;simp
theorem zlk (T:List Nat) (v:Nat):qh T v T.length=T:=by unfold qh;simp
theorem zlq {T:List Nat} {v i x:Nat} (h:T[i]? =some x):(qh T v i).set i x=qh T v (i+1):=by
 have hi:=(List.getElem?_eq_some_iff.1 h).1;unfold qh;rw[List.set_append_right _ _ (by rw[List.length_take];omega),List.length_take,show i-min i T.length=0 by omega,show T.length-i=(T.length-(i+1))+1 by omega,List.replicate_succ,List.set_cons_zero,List.take_add_one,h];simp
end Go.Proofs.YtebjkmjfcijebaaGreat
namespace Go.Proofs.YtebjkmjfcijebaaGreat
open Go.RowKit
set_option maxHeartbeats 20000000
attribute [local irreducible] OW RS CW EW
theorem addr_any (w:World) (a:Nat) (h1:1≤a) (h2:a<1048576):Calls Tryz.prog 53 #[.int .i64 ((a:Nat):Int)] w fun e w'=>e= .returned (.tuple #[.int .u64 ((4*a:Nat):Int),.int .i64 0])∧Below w.heap.size w w':=by
 refine zh Tryz.func53 rfl Tryz.ntmps53 rfl (yt ?_);refine zf 5 (.bool false) rfl ((by rw[decide_eq_false];omega:(.bool (decide (((a:Nat):Int)<1)):Value)=_)) (qc ?_);refine zf 8 (.bool false) rfl ((by rw[decide_eq_false];omega:(.bool (decide ((1048576:Int)≤((a:Nat):Int))):Value)=_)) (qa ?_);refine za rfl (yi u27 Tryz.underlying3 rfl (wrap_u64 (by omega)) (za rfl (xn rfl rfl (by decide) (shl_O (x:=a) (k:=2) (by decide) (by omega)) (zf 12 (.int .u64 ((4*a:Nat):Int)) rfl ((by congr 1;omega:(.int .u64 ((a*2^2:Nat):Int):Value)=_)) (yb ?_)))));exact ⟨rfl,Below.refl _ _⟩
section
variable (lo gm gW cap top k c d n:Nat) (w:World) (W T R:List Nat) (B C:Option Addr) (hM:OwnM lo w gm gW cap W top) (hk:1≤k∧k<256) (ht:T.length≤1048576) (hr:R.length≤1048576) (hmW:gm≠gW) (hT:∀z,Ext (Mut [some gm,some gW]) w z→WordsA n z B T) (hR:∀z,Ext (Mut [some gm,some gW]) w z→WordsA n z C R) (hg:∀x∈T,zw x≠3)
include hM hk ht hr hmW hT hR hg
theorem zgx (hz:∀i,top≤i→wat W i=0) (hf:top+(2+T.length+R.length)≤W.length):Calls Tryz.prog 23 #[.pointer (some ⟨gm,0,none⟩),.int .i64 ((k:Nat):Int),.slice B T.length c,.slice C R.length d] w fun e w'=>e= .returned (.tuple #[.int .u64 ((4*top:Nat):Int),.int .i64 0])∧OwnM lo w' gm gW cap (laid W top k T R) (top+(2+T.length+R.length))∧Ext (Mut [some gm,some gW]) w w':=by
 have h1:=hM.one;have h3:=hM.len;have h4:=hM.most;have hXw:∀q,Mut [some gW] q→Mut [some gm,some gW] q:=fun q hq=>Or.inr (Or.inl (by rw[yj hq]));have hlT:∀i,i≤T.length→top+(2+(qh T 2 i).length+(List.replicate R.length 0).length)≤W.length:=fun i hi=>by rw[zav hi,List.length_replicate];exact hf
 have hlR:∀i,i≤R.length→top+(2+T.length+(qh R 0 i).length)≤W.length:=fun i hi=>by rw[zav hi];exact hf
 refine zh Tryz.func23 rfl Tryz.ntmps23 rfl (jt ?_);refine za rfl (zd en51 rfl ((aalloc_ok lo gm gW cap top k T.length R.length _ W hM hk ht hr hmW hz hf).mono ?_));rintro e w1 ⟨rfl,hMA,hEA⟩;refine ⟨_,rfl,?_⟩;rw[←yoz T 2] at hMA;refine stp26 ?_;refine qw (ι:=Nat) (fun i=>[(0,.pointer (some ⟨gm,0,none⟩)),(2,.slice B T.length c),(3,.slice C R.length d),(10,.int .i64 ((top:Nat):Int)),(29,.slice B T.length c),(30,.int .i64 ((T.length:Nat):Int)),(31,.int .i64 ((i:Nat):Int))]) (fun i w'=>i≤T.length∧OwnM lo w' gm gW cap (laid W top k (qh T 2 i) (List.replicate R.length 0)) (top+(2+T.length+R.length))∧Ext (Mut [some gm,some gW]) w w') (fun i=>T.length-i) 0 ⟨rfl,rfl,rfl,rfl,rfl,rfl,rfl,trivial⟩ (⟨Nat.zero_le _,hMA,hEA⟩) ?_;rintro i w3 ⟨hi0,hMi,hEi⟩;refine yb ?_;refine zx rfl (fun hc=>?_) (fun hc=>?_)
 ·
  have hc:=of_decide_eq_true hc;have hlt:i<T.length:=by omega
  obtain ⟨x,hx⟩:∃x,T[i]? =some x:=⟨_,List.getElem?_eq_getElem hlt⟩;have hxm:=List.mem_of_getElem? hx;obtain ⟨g,o,hB,hgb,hcx⟩:=(hT _ hEi).cell hx;have hLi:=hlT i hi0;have hpl:=zav (v:=2) hi0;have hhd:wat (laid W top k (qh T 2 i) (List.replicate R.length 0)) top=jr k T.length (2+T.length+R.length):=by rw[ou hLi,hpl,List.length_replicate]
  have hS:Seen (laid W top k (qh T 2 i) (List.replicate R.length 0)) (top+(2+T.length+R.length)) top:=⟨h1,by omega,by rw[zbq hLi];omega,by rw[hhd,ydz hk.2];omega,by rw[hhd,yjx hk.2 (by omega),zbv hk.2 (by omega) (by omega)];omega,by rw[hhd,zbv hk.2 (by omega) (by omega)];omega⟩;refine yu ?_;refine za rfl (zi (j:=i) u22 qk (congrArg (fun z↦some (Value.slice z T.length c)) hB) rfl rfl hlt (za rfl (yl u27 rfl rfl hcx (qa ?_))));refine za rfl (zd en52 rfl ((aset_any lo gm gW cap _ top i x _ _ hMi hS (by rw[hhd,zbv hk.2 (by omega) (by omega)];omega) ((hT _ hEi).in_ x hxm) (fun _=>hg x hxm)).mono ?_));rintro e w4 ⟨rfl,hMS,hES⟩;refine ⟨_,rfl,(qb ?_)⟩;refine za rfl (zr rfl rfl (zg (by omega)) (zy ?_));exact qf (i+1) (by show T.length-(i+1)<T.length-i;omega) ⟨rfl,rfl,rfl,rfl,rfl,rfl,rfl,trivial⟩ (⟨hlt,by rw[laid_set hLi (by rw[hpl];exact hlt),zlq hx] at hMS;exact hMS,hEi.step hES (fun q hq=>Or.inl (hXw q hq))⟩)
 ·
  have hc:=of_decide_eq_false hc;have hie:i=T.length:=by omega
  rw[hie,zlk,←yoz R 0] at hMi;refine jt ?_;refine qw (ι:=Nat) (fun j=>[(0,.pointer (some ⟨gm,0,none⟩)),(2,.slice B T.length c),(10,.int .i64 ((top:Nat):Int)),(42,.slice C R.length d),(43,.int .i64 ((R.length:Nat):Int)),(44,.int .i64 ((j:Nat):Int))]) (fun j w'=>j≤R.length∧OwnM lo w' gm gW cap (laid W top k T (qh R 0 j)) (top+(2+T.length+R.length))∧Ext (Mut [some gm,some gW]) w w') (fun j=>R.length-j) 0 ⟨rfl,rfl,rfl,rfl,rfl,rfl,trivial⟩ (⟨Nat.zero_le _,hMi,hEi⟩) ?_;rintro j w6 ⟨hj0,hMj,hEj⟩;refine yb ?_;refine zx rfl (fun hc2=>?_) (fun hc2=>?_)
  ·
   have hc2:=of_decide_eq_true hc2;have hlt:j<R.length:=by omega
   obtain ⟨x,hx⟩:∃x,R[j]? =some x:=⟨_,List.getElem?_eq_getElem hlt⟩;have hxm:=List.mem_of_getElem? hx;obtain ⟨g,o,hB,hgb,hcx⟩:=(hR _ hEj).cell hx;have hLj:=hlR j hj0;have hpl:=zav (v:=0) hj0;have hhd:wat (laid W top k T (qh R 0 j)) top=jr k T.length (2+T.length+R.length):=by rw[ou hLj,hpl]
   have hS:Seen (laid W top k T (qh R 0 j)) (top+(2+T.length+R.length)) top:=⟨h1,by omega,by rw[zbq hLj];omega,by rw[hhd,ydz hk.2];omega,by rw[hhd,yjx hk.2 (by omega),zbv hk.2 (by omega) (by omega)];omega,by rw[hhd,zbv hk.2 (by omega) (by omega)];omega⟩;refine yu ?_;refine za rfl (zi (j:=j) u22 qk (congrArg (fun z↦some (Value.slice z R.length d)) hB) rfl rfl hlt (za rfl (yl u27 rfl rfl hcx (zz ?_))));refine za rfl (zr rfl rfl (zg (by omega)) (stp ?_));refine zf 54 (.int .i64 ((T.length+j:Nat):Int)) rfl ((by first | rfl | (congr 1;omega):(.int .i64 ((((T.length:Nat)):Int)+((j:Nat):Int)):Value)=_)) (za rfl (zd en52 rfl ((aset_any lo gm gW cap _ top (T.length+j) x _ _ hMj hS (by rw[hhd,zbv hk.2 (by omega) (by omega)];omega) ((hR _ hEj).in_ x hxm) (fun h=>by rw[hhd,yjx hk.2 (by omega)] at h;omega)).mono ?_)));rintro e w7 ⟨rfl,hMS,hES⟩;refine ⟨_,rfl,(qb ?_)⟩;refine za rfl (zr rfl rfl (zg (by omega)) (zy ?_));exact qf (j+1) (by show R.length-(j+1)<R.length-j;omega) ⟨rfl,rfl,rfl,rfl,rfl,rfl,trivial⟩ (⟨hlt,by rw[laid_setR hLj (by rw[hpl];exact hlt),zlq hx] at hMS;exact hMS,hEj.step hES (fun q hq=>Or.inl (hXw q hq))⟩)
  ·
   have hc2:=of_decide_eq_false hc2;have hje:j=R.length:=by omega
   rw[hje,zlk] at hMj;refine yx ?_;refine za rfl (zd en53 rfl ((addr_any _ top h1 (by omega)).mono ?_));rintro e w8 ⟨rfl,hb⟩;refine ⟨_,rfl,?_⟩;have EZ:=Ext.of_below hb No;refine yx ?_;exact ⟨rfl,hMj.ext EZ (fun h=>h) (fun h=>h),hEj.step EZ (fun _ h=>h.elim)⟩
theorem zwv (hf:W.length<top+(2+T.length+R.length)):Calls Tryz.prog 23 #[.pointer (some ⟨gm,0,none⟩),.int .i64 ((k:Nat):Int),.slice B T.length c,.slice C R.length d] w fun e w'=>e= .returned (.tuple #[.int .u64 0,.int .i64 5])∧Below w.heap.size w w':=by
 have _:=hT;have _:=hR;have _:=hg;refine zh Tryz.func23 rfl Tryz.ntmps23 rfl (jt ?_);refine za rfl (zd en51 rfl ((aalloc_full lo gm gW cap top k T.length R.length _ W hM hk ht hr hmW hf).mono ?_));rintro e w1 ⟨rfl,hb⟩;refine ⟨_,rfl,(stp25 ?_)⟩;exact ⟨rfl,hb⟩
end
end Go.Proofs.YtebjkmjfcijebaaGreat
namespace Go.Proofs.YtebjkmjfcijebaaGreat
open Go.RowKit
set_option maxHeartbeats 20000000
attribute [local irreducible] OW RS CW EW
theorem same_words (w:World) (A A':Option Addr) (c c' n n':Nat) (xs:List Nat) (h:WordsA n w A xs) (h':WordsA n' w A' xs):Calls Tryz.prog 19 #[.slice A xs.length c,.slice A' xs.length c'] w fun e w'=>e= .returned (.bool true)∧Below w.heap.size w w':=by
 obtain ⟨w0,hw0⟩:∃w0,w0=w:=⟨_,rfl⟩;have hlen:=h.len;refine zh Tryz.func19 rfl Tryz.ntmps19 rfl (xb ?_);refine zk 10 (.bool false) rfl ((by rw[bne_self_eq_false]:(.bool ((((xs.length:Nat)):Int) !=(((xs.length:Nat)):Int)):Value)=_)) (zz ?_);refine qw (ι:=Nat) (fun i=>[(0,.slice A xs.length c),(1,.slice A' xs.length c'),(5,.int .i64 ((i:Nat):Int))]) (fun i w'=>i≤xs.length∧Ext No w0 w') (fun i=>xs.length-i) 0 ⟨rfl,rfl,rfl,trivial⟩ (⟨Nat.zero_le _,by rw[hw0];exact Ext.refl _ _⟩) ?_;rintro i w2 ⟨hi0,hEi⟩;refine qa ?_;refine zx rfl (fun hi=>?_) (fun hi=>?_)
 ·
  have hi:=of_decide_eq_true hi;have hil:i<xs.length:=by omega
  obtain ⟨x,hx⟩:∃x,xs[i]? =some x:=⟨_,List.getElem?_eq_getElem hil⟩;rw[hw0] at hEi;obtain ⟨g,o,hA,hg,hc⟩:=(h.no hEi).cell hx;obtain ⟨g',o',hA',hg',hc'⟩:=(h'.no hEi).cell hx;refine yk ?_;refine yv (No) Mut.none_ [] [] (jh [Fx.of (.slice A xs.length c),
   Fx.of (.int .i64 ((i:Nat):Int)),
   Fx.of (.pointer (some ⟨g,o+i,none⟩)),
   Fx.of (.int .u64 ((x:Nat):Int)),
   Fx.of (.slice A' xs.length c'),
   Fx.of (.int .i64 ((i:Nat):Int)),
   Fx.of (.pointer (some ⟨g',o'+i,none⟩)),
   Fx.of (.int .u64 ((x:Nat):Int)),
   Fx.of (.bool false)]) qt rfl trivial (fun _ h=>by cases h) ?_ ?_
  · refine ⟨arm,arm,?_,?_,arm,arm,?_,?_,?_,trivial⟩
    · intro vs X wq K;obtain ⟨_,e0,k0⟩:=K.dep 0 rfl rfl rfl;refine zc 17 _ rfl e0 ?_;obtain ⟨_,e1,k1⟩:=K.dep 1 rfl rfl rfl;refine zc 18 _ rfl e1 ?_;exact zi (j:=i) u22 qk (congrArg (fun z↦some (Value.slice z xs.length c)) hA) rfl rfl hil ⟨Below.refl _ _,Left.of rfl⟩
    · intro vs X wq K;have LE:=K.1;obtain ⟨_,e2,k2⟩:=K.dep 2 rfl rfl rfl;refine zc 19 _ rfl e2 ?_;exact yl u27 rfl rfl (cell_z LE (fun h↦h) hc) ⟨Below.refl _ _,Left.of rfl⟩
    · intro vs X wq K;obtain ⟨_,e4,k4⟩:=K.dep 4 rfl rfl rfl;refine zc 21 _ rfl e4 ?_;obtain ⟨_,e5,k5⟩:=K.dep 5 rfl rfl rfl;refine zc 22 _ rfl e5 ?_;exact zi (j:=i) u22 qk (congrArg (fun z↦some (Value.slice z xs.length c')) hA') rfl rfl hil ⟨Below.refl _ _,Left.of rfl⟩
    · intro vs X wq K;have LE:=K.1;obtain ⟨_,e6,k6⟩:=K.dep 6 rfl rfl rfl;refine zc 23 _ rfl e6 ?_;exact yl u27 rfl rfl (cell_z LE (fun h↦h) hc') ⟨Below.refl _ _,Left.of rfl⟩
    · intro vs X wq K;obtain ⟨_,e3,k3⟩:=K.dep 3 rfl rfl rfl;refine zc 20 _ rfl e3 ?_;obtain ⟨_,e7,k7⟩:=K.dep 7 rfl rfl rfl;refine zc 24 _ rfl e7 ?_;exact ybz rfl rfl ⟨Below.refl _ _,Left.of ((by rw[bne_self_eq_false]:(.bool (((x:Nat):Int) !=((x:Nat):Int)):Value)=_))⟩
  intro vs w3 LE AO AL AF AA;have hbd:Below (w2).heap.size (w2) w3:=(((Ext.refl No (w2)).drew).trans LE).toBelow;obtain ⟨_,e8,k8⟩:=AL.2.2.2.2.2.2.2.2.1;refine qe (τ:=[(0,_),(1,_),(5,_),(25,.bool false)]) ⟨rfl,rfl,rfl,congrArg some e8,trivial⟩ ?_;clear AL AF AA AO;refine yu ?_;refine za rfl (zr rfl rfl (zg (by omega)) (zy ?_));exact qf (i+1) (by show xs.length-(i+1)<xs.length-i;omega) ⟨rfl,rfl,rfl,trivial⟩ (⟨hil,by rw[hw0];exact hEi.trans (Ext.of_below hbd No)⟩)
 ·
  refine qo ?_;exact ⟨rfl,by rw[hw0] at hEi;exact hEi.toBelow⟩
section
variable (lo gm gW cap top c n:Nat) (w:World) (W T:List Nat) (B:Option Addr) (l:List Nat) (hM:OwnM lo w gm gW cap W top) (hF:FormL W top l) (hmW:gm≠gW) (hT:∀z,Ext (Mut [some gm,some gW]) w z→WordsA n z B T) (hn:n≤w.heap.size) (hg:∀x∈T,WordOk l x)
include hM hF hmW hT hn hg
end
end Go.Proofs.YtebjkmjfcijebaaGreat
