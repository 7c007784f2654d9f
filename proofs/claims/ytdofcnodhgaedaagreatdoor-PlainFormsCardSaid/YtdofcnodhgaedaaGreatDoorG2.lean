/- Texts of this claim. -/
import Derived.Test.YtdofcnodhgaedaaGreatDoorG1
import Derived.Test.YtdofcnodhgaedaaGreatDoorCards
import Derived.Test.YtdofcnodhgaedaaGreatDoorTie
import Derived.Deep.DeepLaidRun
import Derived.MakeChecks
import Derived.Lay
import Derived.Stop.Joined
set_option maxRecDepth 100000
namespace Go.Proofs.YtdofcnodhgaedaaGreatDoor.Wit
theorem Xa {P:Prop} (h:P:=by
 obtain ⟨b',o',e,h3⟩:=h2 _ hm;injection e with e1 e2
 subst e1;subst e2;rcases h3 with h3 | h3
 · omega
 · exact h3.1 rfl):P:=h
def cellOf:DataW Unit→Value
 | .lit (.int k n)=>.int k n
 | .lit (.bool b)=>.bool b
 | .lit (.float k n)=>.float k n
 | .lit (.string s)=>.string ⟨s.toArray⟩
 | _=>.nilIface
def Pp:DataW Unit→List Value
 | .agg l=>l.map cellOf
 | d=>[cellOf d]
def AQ:DataW Unit→Array Value
 | .agg l=>(l.flatMap Pp).toArray
 | .slice l _=>(l.flatMap Pp).toArray
 | d=>#[cellOf d]
def Pq:DataW Unit→Nat
 | .slice l _=>l.length
 | _=>0
def Xb:DataW Unit→Value
 | .iface _ (.ptr (.agg [d]))=>cellOf d
 | _=>.nilIface
noncomputable def low:Nat:=(World.holding Tryz.prog default ⟨#[],#[],[]⟩).heap.size
noncomputable def Ed:Array Obj:=#[.cells #[Xb Rows.laid_strconv_ErrRange] 211,.cells #[Xb Rows.laid_strconv_ErrSyntax] 211,
 .cells (AQ Rows.laid_internal_strconv_powtab) 3,.cells (AQ Rows.laid_internal_strconv_float64pow10) 83,.cells (AQ Rows.laid_internal_strconv_float32pow10) 147,
 .cells (AQ Rows.laid_internal_strconv_leftcheats) 222]
noncomputable def zqz (os:Os):World:=
 let set (w:World) (b:Nat) (cs:Array Value):World:={ w with heap:=w.heap.modify b fun | .cells _ t frozen=>.cells cs t frozen | o=>o }
 let tab (w:World) (b:Nat) (d:DataW Unit):World:=set w b (AQ d)
 let row (w:World) (b g:Nat) (d:DataW Unit):World:=set w b #[.slice (some ⟨g,0,none⟩) (Pq d) (Pq d)]
 let err (w:World) (b g:Nat):World:=set w b #[.iface 209 (.pointer (some ⟨g,0,none⟩))]
 let w:=World.holding Tryz.prog os ⟨Ed,#[],[]⟩
 let w:=tab w 8 Rows.laid_math_bits_deBruijn32tab
 let w:=tab w 9 Rows.laid_math_bits_deBruijn64tab
 let w:=tab w 12 Rows.laid_internal_strconv_float32info
 let w:=tab w 13 Rows.laid_internal_strconv_float64info
 let w:=tab w 4 Rows.laid_internal_strconv_optimize
 let w:=row w 15 (low+2) Rows.laid_internal_strconv_powtab
 let w:=row w 16 (low+3) Rows.laid_internal_strconv_float64pow10
 let w:=row w 14 (low+4) Rows.laid_internal_strconv_float32pow10
 let w:=tab w 3 Rows.laid_internal_strconv_uint64pow10
 let w:=err w 7 low
 let w:=err w 6 (low+1)
 let w:=row w 11 (low+5) Rows.laid_internal_strconv_leftcheats
 tab w 10 Rows.laid_internal_strconv_pow10Tab
def mG:List Nat→Nat→Nat→List MemPlace→Bool
 | _,_,_,[]=>true
 | seen,cur,nxt,.cell b o::l=>match Nat.beq b cur with
  | true=>Nat.ble nxt o&&mG seen cur (o+1) l
  | false=>!(seen.elem b)&&mG (cur::seen) b (o+1) l
 | _,_,_,.map _::_=>false
theorem zfk:∀(l:List MemPlace) (seen:List Nat) (cur nxt:Nat),mG seen cur nxt l=true→l.Nodup∧ ∀p∈l,∃b o,p= .cell b o∧((b=cur∧nxt≤o)∨(b≠cur∧b∉seen))
 | [],_,_,_,_=>⟨List.nodup_nil,fun _ h=>by cases h⟩
 | .map _::_,_,_,_,h=>by simp[mG] at h
 | .cell b o::l,seen,cur,nxt,h=>by
  simp only[mG] at h
  split at h
  · rename_i hb
    have hb:b=cur:=Nat.eq_of_beq_eq_true hb;subst hb;simp only[Bool.and_eq_true] at h
    have hle:=Nat.le_of_ble_eq_true h.1;obtain ⟨h1,h2⟩:=zfk l _ _ _ h.2;refine ⟨List.nodup_cons.2 ⟨fun hm=>?_,h1⟩,fun p hp=>?_⟩
    · exact Xa
    · rcases List.mem_cons.1 hp with rfl | hp
      · exact ⟨b,o,rfl,.inl ⟨rfl,hle⟩⟩
      · obtain ⟨b',o',e,h3⟩:=h2 _ hp;exact ⟨b',o',e,h3.imp (fun h=>⟨h.1,by omega⟩) id⟩
  · rename_i hb
    have hb:b≠cur:=fun e=>by subst e;simp at hb
    simp only[Bool.and_eq_true,Bool.not_eq_true',List.elem_eq_mem,decide_eq_false_iff_not] at h
    obtain ⟨h1,h2⟩:=zfk l _ _ _ h.2;refine ⟨List.nodup_cons.2 ⟨fun hm=>?_,h1⟩,fun p hp=>?_⟩
    · exact Xa
    · rcases List.mem_cons.1 hp with rfl | hp
      · exact ⟨b,o,rfl,.inr ⟨hb,h.1⟩⟩
      · obtain ⟨b',o',e,h3⟩:=h2 _ hp;refine ⟨b',o',e,.inr ?_⟩;rcases h3 with ⟨rfl,_⟩ | ⟨_,h4⟩
        · exact ⟨hb,h.1⟩
        · simp only[List.mem_cons,not_or] at h4
          exact h4
def inB (B:List Nat):MemPlace→Bool
 | .cell b _=>B.elem b
 | .map _=>false
def tK (P:Program) (w:World) (b:Nat):Bool:=match w.heap[b]? with
 | some (.cells cs _ (0,0))=>cs.toList.all fun
  | .iface u v=>Value.okWideB P w u v
  | _=>true
 | _=>false
theorem gV {P:Program} {w:World} {l:List (String×DataW Unit)} (fuel:Nat) (B:List Nat) (h:(DataW.laidRun P w fuel (l.map (·.1))).map (·.1)=some l)
 (hn:(DataW.laidRun P w fuel (l.map (·.1))).map (fun x=>mG [] 4294967296 0 x.2&&x.2.all (inB B))=some true) (hB:B.all (tK P w)=true):laidMet P l w:=by
 cases hx:DataW.laidRun P w fuel (l.map (·.1)) with
 | none=>simp[hx] at h
 | some x=>
  rw[hx] at h hn;simp only[Option.map_some,Option.some.injEq] at h hn
  obtain ⟨x1,x2⟩:=x;simp only at h hn
  subst h;simp only[Bool.and_eq_true] at hn
  refine ⟨x2,DataW.LaidVars_of_laidRun hx,(zfk _ _ _ _ hn.1).1,fun b off hp=>?_⟩;have hb:=List.all_eq_true.1 hn.2 _ hp;simp only[inB,List.elem_eq_mem,decide_eq_true_eq] at hb
  have hk:=List.all_eq_true.1 hB _ hb;unfold tK at hk;split at hk
  · rename_i cs t hh
    refine ⟨⟨cs,t,hh⟩,fun u v hc=>?_⟩;have hm:Value.iface u v∈cs.toList:=by
     have:cs[off]? =some (.iface u v):=by simpa [World.cell?,hh] using hc
     exact Array.mem_toList_iff.2 (Array.mem_of_getElem? this)
    have:=List.all_eq_true.1 hk _ hm;exact Value.okWide_of_okWideB this
  · cases hk
noncomputable def dN (os:Os) (args:Array Value):World:=((zqz os).forCall (fun _ _=>0) ⟨#[],args,[]⟩).memory
noncomputable def laidB:List Nat:=[8,9,12,13,4,15,16,14,3,7,6,11,10,low,low+1,low+2,low+3,low+4,low+5]
theorem JK (os:Os) (args:Array Value):(DataW.laidRun Tryz.prog (dN os args) 8 (Rows.plainFormsRow.laid.map (·.1))).map (·.1)=some Rows.plainFormsRow.laid:=by kernel_rfl
theorem JL (os:Os) (args:Array Value):(DataW.laidRun Tryz.prog (dN os args) 8 (Rows.plainFormsRow.laid.map (·.1))).map (fun x=>mG [] 4294967296 0 x.2&&x.2.all (inB laidB))=some true:=by kernel_rfl
theorem AU (os:Os) (args:Array Value):laidB.all (tK Tryz.prog (dN os args))=true:=by kernel_rfl
theorem Pt (os:Os) (args:Array Value):laidMet Tryz.prog Rows.plainFormsRow.laid (dN os args):=gV 8 laidB (JK os args) (JL os args) (AU os args)
noncomputable def yvx (os:Os) (args:Array Value):World:=(zqz os).forCall (fun _ _=>0) ⟨#[],args,[]⟩
theorem Pv (os:Os) (args:Array Value):(yvx os args).variablesZipB Tryz.prog=true:=by kernel_rfl
theorem JM (os:Os) (args:Array Value):((yvx os args).heap.toList.drop Tryz.prog.globals.size).take ((begin Tryz.prog (fun _ _=>0) default).world.heap.size-Tryz.prog.globals.size) =
 (begin Tryz.prog (fun _ _=>0) default).world.heap.toList.drop Tryz.prog.globals.size:=by kernel_rfl
theorem          AV {H : Type} {enc : TypeId × Value → H} {C : Checked} {os : Os} {f : FuncId} {fn : Func} {s : OpenSpec} {conds : List PathCond} {apart : Bool} {laid : List (String × DataW Unit)} (modest : Bool) (w0 : World) (args : Array Value) (hos : w0.os = os)
 (hv : (w0.forCall (fun _ _ => 0) ⟨#[], args, []⟩).variablesZipB C.prog = true)
 (hr : ((w0.forCall (fun _ _ => 0) ⟨#[], args, []⟩).heap.toList.drop C.prog.globals.size).take ((begin C.prog (fun _ _ => 0) default).world.heap.size - C.prog.globals.size) =
  (begin C.prog (fun _ _ => 0) default).world.heap.toList.drop C.prog.globals.size)
 (hok : Input.okWideB C.prog (w0.forCall (fun _ _ => 0) ⟨#[], args, []⟩) f ⟨#[], args, []⟩ = true)
 (hrow : s.preRow enc C.prog fn conds apart laid (w0.forCall (fun _ _ => 0) ⟨#[], args, []⟩).memory args) :
 ∃ (w : World) (tape : Tape) (i : Input), w.os = os ∧ (w.forCall tape i).Shaped C.prog ∧ i.vars = [] ∧ Input.okWide C.prog (w.forCall tape i) .any w.heap.size f i ∧
  s.preRow enc C.prog fn conds apart laid (w.forCall tape i).memory i.args ∧ ({ modest := modest } : Assume).holds C.prog (lone (Frame.enter C.prog f i.args .normal) [] (w.forCall tape i)) :=
 ⟨w0, fun _ _ => 0, ⟨#[], args, []⟩, hos, World.shaped_of_ZipB hv hr, (Input.okWide_of_okWideB (base := 0) hok).1, (Input.okWide_of_okWideB hok).2, hrow, by
  simp only [Assume.holds]
  exact ⟨by simp, by simp, fun _ => Modest.zero, by simp, by simp, by simp⟩⟩
theorem TP (os:Os):(zqz os).os=os:=by kernel_rfl
theorem JN {H:Type} {enc:TypeId×Value→H} {f:FuncId} {fn:Func} {s:OpenSpec} {conds:List PathCond} {apart:Bool} {laid:List (String×DataW Unit)} (modest:Bool) (os:Os) (args:Array Value)
 (hok:Input.okWideB Tryz.prog (yvx os args) f ⟨#[],args,[]⟩=true)
 (hrow:s.preRow enc Tryz.prog fn conds apart laid (dN os args) args) :
 ∃(w:World) (tape:Tape) (i:Input),w.os=os∧(w.forCall tape i).Shaped Tryz.prog∧i.vars= []∧Input.okWide Tryz.prog (w.forCall tape i) .any w.heap.size f i∧
  s.preRow enc Tryz.prog fn conds apart laid (w.forCall tape i).memory i.args∧({ modest:=modest }:Assume).holds Tryz.prog (lone (Frame.enter Tryz.prog f i.args .normal) [] (w.forCall tape i)):=
 AV (C:=Tryz.checked) modest (zqz os) args (TP os) (Pv os args) (JM os args) hok hrow
end Go.Proofs.YtdofcnodhgaedaaGreatDoor.Wit
