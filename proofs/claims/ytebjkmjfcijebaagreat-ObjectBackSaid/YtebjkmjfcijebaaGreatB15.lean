/- Texts of this claim. -/
import Derived.Test.YtebjkmjfcijebaaGreatB14
import Derived.Deep.RegionWith
set_option maxRecDepth 100000
namespace Go.Proofs.YtebjkmjfcijebaaGreat
open Go.RowKit
end Go.Proofs.YtebjkmjfcijebaaGreat
namespace Go.Proofs.YtebjkmjfcijebaaGreat
open Go.RowKit
theorem tens_540 (i:Int):(tens i).length≤540↔i.natAbs<B18^30:=by
 rw[zvx,B18_pow];exact vv (by decide) _ (18*30)
def Two (w:World) (n1 n2:Bool) (A B:Option Addr) (c d:Nat) (xs ys:List Nat) (b:World):Prop:=
 (b.cell? ⟨w.heap.size,0,none⟩=some (.bool n1)∧b.cell? ⟨w.heap.size,1,none⟩=some (.slice A xs.length c)∧
 b.cell? ⟨w.heap.size+1,0,none⟩=some (.bool n2)∧b.cell? ⟨w.heap.size+1,1,none⟩=some (.slice B ys.length d))∧Nums b A xs∧Nums b B ys
def two (w:World) (n1 n2:Bool) (A B:Option Addr) (c d:Nat) (xs ys:List Nat):World:=
 (w.alloc (.cells #[.bool n1,.slice A xs.length c] 26)).alloc (.cells #[.bool n2,.slice B ys.length d] 26)
theorem ygx (w:World) (n1 n2:Bool) (A B:Option Addr) (c d:Nat) (xs ys:List Nat):Below w.heap.size w (two w n1 n2 A B c d xs ys):=
 ((Below.refl _ _).alloc (Nat.le_refl _) _).alloc (by simp) _
theorem two_since {w b:World} {n1 n2:Bool} {A B:Option Addr} {c d:Nat} {xs ys:List Nat} (hx:Nums w A xs) (hy:Nums w B ys) (hb:Below (two w n1 n2 A B c d xs ys).heap.size (two w n1 n2 A B c d xs ys) b):Two w n1 n2 A B c d xs ys b:=by
 have X:Blk (two w n1 n2 A B c d xs ys) w.heap.size 26 #[.bool n1,.slice A xs.length c]:=(Blk.new _ _ _).alloc _;have Y:Blk (two w n1 n2 A B c d xs ys) (w.heap.size+1) 26 #[.bool n2,.slice B ys.length d]:=Blk.new1 _ _ _ _;have x:=(X.below hb X.lt).two;have y:=(Y.below hb Y.lt).two;exact ⟨⟨x.1,x.2.1,y.1,y.2.1⟩,(hx.since (ygx w n1 n2 A B c d xs ys)).since hb,(hy.since (ygx w n1 n2 A B c d xs ys)).since hb⟩
def formE (g1 g2:Bool):Int:=if g1&&g2 then 0 else 3
def isW (w:World) (b1 b2:Bool) (A B:Option Addr) (c d n m:Nat):World:=
 (w.alloc (.cells #[.bool b1,.slice A n c] 26)).alloc (.cells #[.bool b2,.slice B m d] 118)
end Go.Proofs.YtebjkmjfcijebaaGreat
namespace Go.Proofs.YtebjkmjfcijebaaGreat
open Go.RowKit
def Pers (W:World) (F:World→Prop):Prop:=∀b,Below W.heap.size W b→F b
theorem Pers.here {W:World} {F:World→Prop} (h:Pers W F):F W:=h W (Below.refl _ _)
theorem Pers.on {W W':World} {F:World→Prop} (h:Pers W F) (L:Below W.heap.size W W'):Pers W' F:=fun b hb=>h b (zhx L hb)
theorem Pers.and {W:World} {F G:World→Prop} (h:Pers W F) (k:Pers W G):Pers W (fun b=>F b∧G b):=fun b hb=>⟨h b hb,k b hb⟩
def Box (g:Nat) (t:TypeId) (u v:Value) (b:World):Prop:=b.cell? ⟨g,0,none⟩=some u∧b.cell? ⟨g,1,none⟩=some v
theorem Pers.box {W:World} {g:Nat} {t:TypeId} {u v:Value} (h:Blk W g t #[u,v]):Pers W (Box g t u v):=fun _ hb=>⟨(h.below hb h.lt).two.1,(h.below hb h.lt).two.2.1⟩
theorem Pers.nums {W:World} {A:Option Addr} {xs:List Nat} (h:Nums W A xs):Pers W (fun b=>Nums b A xs):=fun _ hb=>h.since hb
def RetNought (W:World) (f:Int) (e:Ending) (w':World):Prop:=∃A c,e= .returned (.tuple #[.agg #[.bool false,.slice A 0 c],.int .i64 f])∧Nums w' A []∧Below W.heap.size W w'
def RetNought1 (W:World) (e:Ending) (w':World):Prop:=∃A c,e= .returned (.agg #[.bool false,.slice A 0 c])∧Nums w' A []∧Below W.heap.size W w'
def LawTrue (W:World) (e:Ending) (w':World):Prop:=e= .returned (.bool true)∧Below W.heap.size W w'
end Go.Proofs.YtebjkmjfcijebaaGreat
namespace Go.Proofs.YtebjkmjfcijebaaGreat
open Go.RowKit
def RetTurn (W:World) (A:Option Addr) (c:Nat) (i:Int) (e:Ending) (w':World):Prop:=e= .returned (.agg #[.bool (decide (-i<0)),.slice A (tens i).length c])∧Below W.heap.size W w'
theorem cmpN_neg {i j:Int} (hi:i<0) (hj:j<0):zez j.natAbs i.natAbs=xy i j:=by
 unfold zez xy;by_cases h:i<j
 · rw[if_pos (by omega),if_pos h]
 · rw[if_neg (by omega),if_neg h];by_cases h2:j<i
   · rw[if_pos (by omega),if_pos h2]
   · rw[if_neg (by omega),if_neg h2]
theorem cmpN_pos {i j:Int} (hi:0≤i) (hj:0≤j):zez i.natAbs j.natAbs=xy i j:=by
 unfold zez xy;by_cases h:i<j
 · rw[if_pos (by omega),if_pos h]
 · rw[if_neg (by omega),if_neg h];by_cases h2:j<i
   · rw[if_pos (by omega),if_pos h2]
   · rw[if_neg (by omega),if_neg h2]
set_option maxHeartbeats 1000000 in
theorem rcmp_any (A B:Option Addr) (c d:Nat) (i j:Int) (w:World) (hx:Nums8 w A (tens i)) (hy:Nums8 w B (tens j)) (hl:(tens i).length≤1048576) (hl':(tens j).length≤1048576) :
 Calls Tryz.prog 71 #[.agg #[.bool (decide (i<0)),.slice A (tens i).length c],.agg #[.bool (decide (j<0)),.slice B (tens j).length d]] w fun e w'=>e= .returned (.int .i64 (xy i j))∧Below w.heap.size w w':=by
 have L:Below w.heap.size w ((w.alloc (.cells #[.bool (decide (i<0)),.slice A (tens i).length c] 118)).alloc (.cells #[.bool (decide (j<0)),.slice B (tens j).length d] 118)):=((Below.refl _ _).alloc (Nat.le_refl _) _).alloc (by simp) _;have hx2:=hx.below L (Nat.le_refl _);have hy2:=hy.below L (Nat.le_refl _);by_cases hi:i<0
 · have e1:decide (i<0)=true:=by simpa using hi
   rw[e1] at L hx2 hy2 ⊢;by_cases hj:j<0
   · have e2:decide (j<0)=true:=by simpa using hj
     rw[e2] at L hx2 hy2 ⊢;have HC:=Lib.hid (cmpN_neg hi hj);clear hi hj e1 e2 hx hy;go_enter Tryz.func71,Tryz.ntmps71
     go_wp2_with (go_at_call 87;refine (qdx B A d c j i _ hy2 hx2 hl' hl).mono ?_;rintro e w' ⟨rfl,n,rfl⟩)
     go_ret
     exact ⟨jn HC.out,⟨L.os,L.tape,L.output,L.size,L.block⟩⟩
   · have e2:decide (j<0)=false:=by simpa using hj
     rw[e2] at L hx2 hy2 ⊢;have HC:=Lib.hid (show (-1:Int)=xy i j by unfold xy;rw[if_pos (by omega)]);clear hi hj e1 e2 hx hy;go_enter Tryz.func71,Tryz.ntmps71
     go_wp2_with fail
     go_ret
     exact ⟨jn HC.out,L⟩
 · have e1:decide (i<0)=false:=by simpa using hi
   rw[e1] at L hx2 hy2 ⊢;by_cases hj:j<0
   · have e2:decide (j<0)=true:=by simpa using hj
     rw[e2] at L hx2 hy2 ⊢;have HC:=Lib.hid (show (1:Int)=xy i j by unfold xy;rw[if_neg (by omega),if_pos (by omega)]);clear hi hj e1 e2 hx hy;go_enter Tryz.func71,Tryz.ntmps71
     go_wp2_with fail
     go_ret
     exact ⟨jn HC.out,L⟩
   · have e2:decide (j<0)=false:=by simpa using hj
     rw[e2] at L hx2 hy2 ⊢;have HC:=Lib.hid (cmpN_pos (i:=i) (j:=j) (by omega) (by omega));clear hi hj e1 e2 hx hy;go_enter Tryz.func71,Tryz.ntmps71
     go_wp2_with (go_at_call 87;refine (qdx A B c d i j _ hx2 hy2 hl hl').mono ?_;rintro e w' ⟨rfl,n,rfl⟩)
     go_ret
     exact ⟨jn HC.out,⟨L.os,L.tape,L.output,L.size,L.block⟩⟩
def Three (w:World) (bi bj:Bool) (A B:Option Addr) (c d:Nat) (i j:Int) (b:World):Prop:=
 (b.cell? ⟨w.heap.size,0,none⟩=some (.bool bi)∧b.cell? ⟨w.heap.size,1,none⟩=some (.slice A (tens i).length c))∧
 (b.cell? ⟨w.heap.size+1,0,none⟩=some (.bool bj)∧b.cell? ⟨w.heap.size+1,1,none⟩=some (.slice B (tens j).length d))∧
 (b.cell? ⟨w.heap.size+1+1,0,none⟩=some (.bool false)∧b.cell? ⟨w.heap.size+1+1,1,none⟩=some (.slice none 0 0)∧b.frozen? ⟨w.heap.size+1+1,0,none⟩=false∧b.frozen? ⟨w.heap.size+1+1,1,none⟩=false)∧
 Nums8 b A (tens i)∧Nums8 b B (tens j)
def three (w:World) (bi bj:Bool) (A B:Option Addr) (c d:Nat) (i j:Int):World:=
 ((w.alloc (.cells #[.bool bi,.slice A (tens i).length c] 118)).alloc (.cells #[.bool bj,.slice B (tens j).length d] 118)).alloc (.cells #[.bool false,.slice none 0 0] 118)
section
variable (A B:Option Addr) (c d:Nat) (i j:Int) (w:World)
end
end Go.Proofs.YtebjkmjfcijebaaGreat
namespace Go.Proofs.YtebjkmjfcijebaaGreat
open Go.RowKit
attribute [local irreducible] OW RS CW EW
set_option maxHeartbeats 20000000
noncomputable def xi (a:Nat):Int:=if ng a then -((ve a:Nat):Int) else ((ve a:Nat):Int)
noncomputable def lostB (a:Nat):Bool:=@decide (¬isWh (rg a)) (Classical.propDecidable _)
theorem wholeI_abs (a:Nat):(xi a).natAbs=ve a:=by unfold xi;split<;>omega
theorem lost_eq {a:Nat} {p:Prop} [Decidable p] (h:p↔ ¬isWh (rg a)):decide p=lostB a:=by
 unfold lostB;by_cases hp:p
 · rw[decide_eq_true hp];exact (@decide_eq_true _ (Classical.propDecidable _) (h.1 hp)).symm
 · rw[decide_eq_false hp];exact (@decide_eq_false _ (Classical.propDecidable _) (fun k=>hp (h.2 k))).symm
theorem wl_aux {m e A B C P x:Nat} (hm:m<A) (he:2^e≤B) (hAB:A*B=C*P) (hP:0<P) (hx:x=m*2^e):x/P<C:=by
 refine (Nat.div_lt_iff_lt_mul hP).2 ?_;rw[hx,←hAB];exact Nat.lt_of_le_of_lt (Nat.mul_le_mul_left _ he) (Nat.mul_lt_mul_of_pos_right hm (Nat.lt_of_lt_of_le (zik e) he))
theorem two_mono2 {k K P Q:Nat} (hQ:Q=2^k) (hP:P=2^K) (h:k≤K):Q≤P:=by rw[hQ,hP];exact Nat.pow_le_pow_right (by decide) h
theorem p2098:2^53*2^2045=2^1024*2^1074:=by
 have h:∀P,P=2^2098→2^53*2^2045=2^1024*2^1074:=fun P hP=>(two_split (p:=2098) (q:=53) (s:=2045) hP (by decide)).symm.trans (two_split (p:=2098) (q:=1024) (s:=1074) hP (by decide));exact h _ rfl
theorem wholeN_lt {a:Nat} (hf:rg a<9218868437227405312):ve a<2^1024:=
 wl_aux (A:=2^53) (B:=2^2045) (mg_lt (rg a)) (two_mono2 rfl rfl (by unfold ex;split<;>omega)) p2098 (zik 1074) rfl
theorem pow_30 {K x B:Nat} (hK:K=x*30) (h:2^x≤B):2^K≤B^30:=by rw[hK,Nat.pow_mul];exact Nat.pow_le_pow_left h 30
theorem B18_30:2^1024≤B18^30:=by
 have h:∀K,K=59*30→2^1024≤B18^30:=fun K hK=>Nat.le_trans (two_mono (k:=1024) (K:=K) (by omega) rfl) (pow_30 (x:=59) hK (by decide));exact h _ rfl
theorem wholeI_lt {a:Nat} (hf:rg a<9218868437227405312):(xi a).natAbs<B18^30:=by rw[wholeI_abs];exact Nat.lt_of_lt_of_le (wholeN_lt hf) B18_30
def RetNumB (W:World) (v:Int) (b:Bool) (e:Ending) (w':World):Prop:=∃A c,e= .returned (.tuple #[.agg #[.bool (decide (v<0)),.slice A (tens v).length c],.bool b])∧Nums8 w' A (tens v)∧(∀q,A=some q→W.heap.size≤q.block)∧Below W.heap.size W w'
section
variable (w:World) (a:Nat) (ha:a<18446744073709551616) (hf:rg a<9218868437227405312)
include ha hf
end
end Go.Proofs.YtebjkmjfcijebaaGreat
