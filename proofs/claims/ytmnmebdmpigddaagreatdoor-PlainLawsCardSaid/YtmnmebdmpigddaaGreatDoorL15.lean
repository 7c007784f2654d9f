/- Texts of this claim. -/
import Derived.Test.YtmnmebdmpigddaaGreatDoorL14
import Derived.Deep.RegionWith
set_option maxRecDepth 100000
set_option maxHeartbeats 20000000
namespace Go.Proofs.YtmnmebdmpigddaaGreatDoor
open Go.RowKit
end Go.Proofs.YtmnmebdmpigddaaGreatDoor
namespace Go.Proofs.YtmnmebdmpigddaaGreatDoor
open Go.RowKit
theorem P6 (i:Int):(bC i).length≤540↔i.natAbs<au^30:=by
 rw[ylq,uH];exact qp de _ (18*30)
def Two (w:World) (n1 n2:Bool) (A B:Option Addr) (c d:Nat) (xs ys:List Nat) (b:World):Prop:=
 (b.cell? ⟨w.heap.size,0,none⟩=some (.bool n1)∧b.cell? ⟨w.heap.size,1,none⟩=some (.slice A xs.length c)∧
 b.cell? ⟨w.heap.size+1,0,none⟩=some (.bool n2)∧b.cell? ⟨w.heap.size+1,1,none⟩=some (.slice B ys.length d))∧aA b A xs∧aA b B ys
def two (w:World) (n1 n2:Bool) (A B:Option Addr) (c d:Nat) (xs ys:List Nat):World:=
 (w.alloc (.cells #[.bool n1,.slice A xs.length c] 24)).alloc (.cells #[.bool n2,.slice B ys.length d] 24)
theorem ylz (w:World) (n1 n2:Bool) (A B:Option Addr) (c d:Nat) (xs ys:List Nat):Below w.heap.size w (two w n1 n2 A B c d xs ys):=
 ((Below.refl _ _).alloc (Nat.le_refl _) _).alloc (by simp) _
theorem Ku {w b:World} {n1 n2:Bool} {A B:Option Addr} {c d:Nat} {xs ys:List Nat} (hx:aA w A xs) (hy:aA w B ys) (hb:Below (two w n1 n2 A B c d xs ys).heap.size (two w n1 n2 A B c d xs ys) b):Two w n1 n2 A B c d xs ys b:=by
 have X:aB (two w n1 n2 A B c d xs ys) w.heap.size 24 #[.bool n1,.slice A xs.length c]:=(aB.new _ _ _).alloc _;have Y:aB (two w n1 n2 A B c d xs ys) (w.heap.size+1) 24 #[.bool n2,.slice B ys.length d]:=aB.new1 _ _ _ _;have x:=(X.below hb X.lt).two;have y:=(Y.below hb Y.lt).two;exact ⟨⟨x.1,x.2.1,y.1,y.2.1⟩,(hx.since (ylz w n1 n2 A B c d xs ys)).since hb,(hy.since (ylz w n1 n2 A B c d xs ys)).since hb⟩
def aNz (g1 g2:Bool):Int:=if g1&&g2 then 0 else 3
def isW (w:World) (b1 b2:Bool) (A B:Option Addr) (c d n m:Nat):World:=
 (w.alloc (.cells #[.bool b1,.slice A n c] 24)).alloc (.cells #[.bool b2,.slice B m d] 48)
end Go.Proofs.YtmnmebdmpigddaaGreatDoor
namespace Go.Proofs.YtmnmebdmpigddaaGreatDoor
open Go.RowKit
def gI (W:World) (F:World→Prop):Prop:=∀b,Below W.heap.size W b→F b
theorem gI.here {W:World} {F:World→Prop} (h:gI W F):F W:=h W (Below.refl _ _)
theorem gI.on {W W':World} {F:World→Prop} (h:gI W F) (L:Below W.heap.size W W'):gI W' F:=fun b hb=>h b (zjx L hb)
theorem gI.and {W:World} {F G:World→Prop} (h:gI W F) (k:gI W G):gI W (fun b=>F b∧G b):=fun b hb=>⟨h b hb,k b hb⟩
def Box (g:Nat) (t:TypeId) (u v:Value) (b:World):Prop:=b.cell? ⟨g,0,none⟩=some u∧b.cell? ⟨g,1,none⟩=some v
theorem gI.box {W:World} {g:Nat} {t:TypeId} {u v:Value} (h:aB W g t #[u,v]):gI W (Box g t u v):=fun _ hb=>⟨(h.below hb h.lt).two.1,(h.below hb h.lt).two.2.1⟩
theorem gI.nums {W:World} {A:Option Addr} {xs:List Nat} (h:aA W A xs):gI W (fun b=>aA b A xs):=fun _ hb=>h.since hb
def asj (W:World) (f:Int) (e:Ending) (w':World):Prop:=∃A c,e= .returned (.tuple #[.agg #[.bool false,.slice A 0 c],.int .i64 f])∧aA w' A []∧Below W.heap.size W w'
def ajj (W:World) (e:Ending) (w':World):Prop:=∃A c,e= .returned (.agg #[.bool false,.slice A 0 c])∧aA w' A []∧Below W.heap.size W w'
def aG8 (W:World) (e:Ending) (w':World):Prop:=e= .returned (.bool true)∧Below W.heap.size W w'
end Go.Proofs.YtmnmebdmpigddaaGreatDoor
namespace Go.Proofs.YtmnmebdmpigddaaGreatDoor
open Go.RowKit
def aGq (W:World) (A:Option Addr) (c:Nat) (i:Int) (e:Ending) (w':World):Prop:=e= .returned (.agg #[.bool (decide (-i<0)),.slice A (bC i).length c])∧Below W.heap.size W w'
def Three (w:World) (bi bj:Bool) (A B:Option Addr) (c d:Nat) (i j:Int) (b:World):Prop:=
 (b.cell? ⟨w.heap.size,0,none⟩=some (.bool bi)∧b.cell? ⟨w.heap.size,1,none⟩=some (.slice A (bC i).length c))∧
 (b.cell? ⟨w.heap.size+1,0,none⟩=some (.bool bj)∧b.cell? ⟨w.heap.size+1,1,none⟩=some (.slice B (bC j).length d))∧
 (b.cell? ⟨w.heap.size+1+1,0,none⟩=some (.bool false)∧b.cell? ⟨w.heap.size+1+1,1,none⟩=some (.slice none 0 0)∧b.frozen? ⟨w.heap.size+1+1,0,none⟩=false∧b.frozen? ⟨w.heap.size+1+1,1,none⟩=false)∧
 aY b A (bC i)∧aY b B (bC j)
def three (w:World) (bi bj:Bool) (A B:Option Addr) (c d:Nat) (i j:Int):World:=
 ((w.alloc (.cells #[.bool bi,.slice A (bC i).length c] 48)).alloc (.cells #[.bool bj,.slice B (bC j).length d] 48)).alloc (.cells #[.bool false,.slice none 0 0] 48)
section
variable (A B:Option Addr) (c d:Nat) (i j:Int) (w:World)
end
end Go.Proofs.YtmnmebdmpigddaaGreatDoor
namespace Go.Proofs.YtmnmebdmpigddaaGreatDoor
open Go.RowKit
attribute [local irreducible] OW RS CW EW
noncomputable def ky (a:Nat):Int:=if ng a then -((qw a:Nat):Int) else ((qw a:Nat):Int)
noncomputable def Ad (a:Nat):Bool:=@decide (¬WL (rg a)) (Classical.propDecidable _)
theorem EY (a:Nat):(ky a).natAbs=qw a:=by unfold ky;split<;>omega
theorem WY {a:Nat} {p:Prop} [Decidable p] (h:p↔ ¬WL (rg a)):decide p=Ad a:=by
 unfold Ad;by_cases hp:p
 · rw[decide_eq_true hp];exact (@decide_eq_true _ (Classical.propDecidable _) (h.1 hp)).symm
 · rw[decide_eq_false hp];exact (@decide_eq_false _ (Classical.propDecidable _) (fun k=>hp (h.2 k))).symm
theorem akz {m e A B C P x:Nat} (hm:m<A) (he:2^e≤B) (hAB:A*B=C*P) (hP:0<P) (hx:x=m*2^e):x/P<C:=by
 refine (Nat.div_lt_iff_lt_mul hP).2 ?_;rw[hx,←hAB];exact Nat.lt_of_le_of_lt (Nat.mul_le_mul_left _ he) (Nat.mul_lt_mul_of_pos_right hm (Nat.lt_of_lt_of_le (xc e) he))
theorem qV {k K P Q:Nat} (hQ:Q=2^k) (hP:P=2^K) (h:k≤K):Q≤P:=by rw[hQ,hP];exact Nat.pow_le_pow_right de h
theorem aC2:2^53*2^2045=2^1024*2^1074:=by
 have h:∀P,P=2^2098→2^53*2^2045=2^1024*2^1074:=fun P hP=>(qP (p:=2098) (q:=53) (s:=2045) hP de).symm.trans (qP (p:=2098) (q:=1024) (s:=1074) hP de);exact h _ rfl
theorem KW {a:Nat} (hf:rg a<9218868437227405312):qw a<2^1024:=
 akz (A:=2^53) (B:=2^2045) (qsv (rg a)) (qV rfl rfl (by unfold ex;split<;>omega)) aC2 (xc 1074) rfl
theorem akx {K x B:Nat} (hK:K=x*30) (h:2^x≤B):2^K≤B^30:=by rw[hK,Nat.pow_mul];exact Nat.pow_le_pow_left h 30
theorem EZ:2^1024≤au^30:=by
 have h:∀K,K=59*30→2^1024≤au^30:=fun K hK=>Nat.le_trans (zX (k:=1024) (K:=K) om rfl) (akx (x:=59) hK de);exact h _ rfl
theorem qW {a:Nat} (hf:rg a<9218868437227405312):(ky a).natAbs<au^30:=by rw[EY];exact Nat.lt_of_lt_of_le (KW hf) EZ
def aGz (W:World) (v:Int) (b:Bool) (e:Ending) (w':World):Prop:=∃A c,e= .returned (.tuple #[.agg #[.bool (decide (v<0)),.slice A (bC v).length c],.bool b])∧aY w' A (bC v)∧(∀q,A=some q→W.heap.size≤q.block)∧Below W.heap.size W w'
section
variable (w:World) (a:Nat) (ha:a<18446744073709551616) (hf:rg a<9218868437227405312)
include ha hf
end
end Go.Proofs.YtmnmebdmpigddaaGreatDoor
