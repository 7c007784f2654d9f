/- Texts of this claim. -/
import Derived.Test.YtdofcnodhgaedaaGreatDoorG14
import Derived.Deep.RegionWith
set_option maxRecDepth 100000
namespace Go.Proofs.YtdofcnodhgaedaaGreatDoor
open Go.RowKit Proofs.Tryz
theorem yY (i:Int):(aC i).length≤540↔i.natAbs<au^30:=by
 rw[xd,ypv];exact yp de _ (18*30)
def Two (w:World) (n1 n2:Bool) (A B:Option Addr) (c d:Nat) (xs ys:List Nat) (b:World):Prop:=
 (b.cell? ⟨w.heap.size,0,none⟩=some (.bool n1)∧b.cell? ⟨w.heap.size,1,none⟩=some (.slice A xs.length c)∧
 b.cell? ⟨w.heap.size+1,0,none⟩=some (.bool n2)∧b.cell? ⟨w.heap.size+1,1,none⟩=some (.slice B ys.length d))∧ay b A xs∧ay b B ys
def two (w:World) (n1 n2:Bool) (A B:Option Addr) (c d:Nat) (xs ys:List Nat):World:=
 (w.alloc (.cells #[.bool n1,.slice A xs.length c] 24)).alloc (.cells #[.bool n2,.slice B ys.length d] 24)
theorem zyv (w:World) (n1 n2:Bool) (A B:Option Addr) (c d:Nat) (xs ys:List Nat):Below w.heap.size w (two w n1 n2 A B c d xs ys):=
 ((Below.refl _ _).alloc (Nat.le_refl _) _).alloc (by simp) _
theorem IU {w b:World} {n1 n2:Bool} {A B:Option Addr} {c d:Nat} {xs ys:List Nat} (hx:ay w A xs) (hy:ay w B ys) (hb:Below (two w n1 n2 A B c d xs ys).heap.size (two w n1 n2 A B c d xs ys) b):Two w n1 n2 A B c d xs ys b:=by
 have X:aA (two w n1 n2 A B c d xs ys) w.heap.size 24 #[.bool n1,.slice A xs.length c]:=(aA.new _ _ _).alloc _;have Y:aA (two w n1 n2 A B c d xs ys) (w.heap.size+1) 24 #[.bool n2,.slice B ys.length d]:=aA.new1 _ _ _ _;have x:=(X.below hb X.lt).two;have y:=(Y.below hb Y.lt).two;exact ⟨⟨x.1,x.2.1,y.1,y.2.1⟩,(hx.since (zyv w n1 n2 A B c d xs ys)).since hb,(hy.since (zyv w n1 n2 A B c d xs ys)).since hb⟩
def aw5 (g1 g2:Bool):Int:=if g1&&g2 then 0 else 3
def isW (w:World) (b1 b2:Bool) (A B:Option Addr) (c d n m:Nat):World:=
 (w.alloc (.cells #[.bool b1,.slice A n c] 24)).alloc (.cells #[.bool b2,.slice B m d] 48)
def fT (W:World) (F:World→Prop):Prop:=∀b,Below W.heap.size W b→F b
theorem fT.here {W:World} {F:World→Prop} (h:fT W F):F W:=h W (Below.refl _ _)
theorem fT.on {W W':World} {F:World→Prop} (h:fT W F) (L:Below W.heap.size W W'):fT W' F:=fun b hb=>h b (V8 L hb)
theorem fT.and {W:World} {F G:World→Prop} (h:fT W F) (k:fT W G):fT W (fun b=>F b∧G b):=fun b hb=>⟨h b hb,k b hb⟩
def Box (g:Nat) (t:TypeId) (u v:Value) (b:World):Prop:=b.cell? ⟨g,0,none⟩=some u∧b.cell? ⟨g,1,none⟩=some v
theorem fT.box {W:World} {g:Nat} {t:TypeId} {u v:Value} (h:aA W g t #[u,v]):fT W (Box g t u v):=fun _ hb=>⟨(h.below hb h.lt).two.1,(h.below hb h.lt).two.2.1⟩
theorem fT.nums {W:World} {A:Option Addr} {xs:List Nat} (h:ay W A xs):fT W (fun b=>ay b A xs):=fun _ hb=>h.since hb
def ab1 (W:World) (f:Int) (e:Ending) (w':World):Prop:=∃A c,e= .returned (.tuple #[.agg #[.bool false,.slice A 0 c],.int .i64 f])∧ay w' A []∧Below W.heap.size W w'
def Zt (W:World) (e:Ending) (w':World):Prop:=∃A c,e= .returned (.agg #[.bool false,.slice A 0 c])∧ay w' A []∧Below W.heap.size W w'
def an7 (W:World) (e:Ending) (w':World):Prop:=e= .returned (.bool true)∧Below W.heap.size W w'
def an9 (W:World) (A:Option Addr) (c:Nat) (i:Int) (e:Ending) (w':World):Prop:=e= .returned (.agg #[.bool (decide (-i<0)),.slice A (aC i).length c])∧Below W.heap.size W w'
def Three (w:World) (bi bj:Bool) (A B:Option Addr) (c d:Nat) (i j:Int) (b:World):Prop:=
 (b.cell? ⟨w.heap.size,0,none⟩=some (.bool bi)∧b.cell? ⟨w.heap.size,1,none⟩=some (.slice A (aC i).length c))∧
 (b.cell? ⟨w.heap.size+1,0,none⟩=some (.bool bj)∧b.cell? ⟨w.heap.size+1,1,none⟩=some (.slice B (aC j).length d))∧
 (b.cell? ⟨w.heap.size+1+1,0,none⟩=some (.bool false)∧b.cell? ⟨w.heap.size+1+1,1,none⟩=some (.slice none 0 0)∧b.frozen? ⟨w.heap.size+1+1,0,none⟩=false∧b.frozen? ⟨w.heap.size+1+1,1,none⟩=false)∧
 aL b A (aC i)∧aL b B (aC j)
def three (w:World) (bi bj:Bool) (A B:Option Addr) (c d:Nat) (i j:Int):World:=
 ((w.alloc (.cells #[.bool bi,.slice A (aC i).length c] 48)).alloc (.cells #[.bool bj,.slice B (aC j).length d] 48)).alloc (.cells #[.bool false,.slice none 0 0] 48)
section
variable (A B:Option Addr) (c d:Nat) (i j:Int) (w:World)
end
noncomputable def kf (a:Nat):Int:=if ng a then -((yw a:Nat):Int) else ((yw a:Nat):Int)
noncomputable def y7 (a:Nat):Bool:=@decide (¬QU (rg a)) (Classical.propDecidable _)
theorem Dj (a:Nat):(kf a).natAbs=yw a:=by unfold kf;split<;>omega
theorem Sd {a:Nat} {p:Prop} [Decidable p] (h:p↔ ¬QU (rg a)):decide p=y7 a:=by
 unfold y7;by_cases hp:p
 · rw[decide_eq_true hp];exact (@decide_eq_true _ (Classical.propDecidable _) (h.1 hp)).symm
 · rw[decide_eq_false hp];exact (@decide_eq_false _ (Classical.propDecidable _) (fun k=>hp (h.2 k))).symm
theorem Zx {m e A B C P x:Nat} (hm:m<A) (he:2^e≤B) (hAB:A*B=C*P) (hP:0<P) (hx:x=m*2^e):x/P<C:=by
 refine (Nat.div_lt_iff_lt_mul hP).2 ?_;rw[hx,←hAB];exact Nat.lt_of_le_of_lt (Nat.mul_le_mul_left _ he) (Nat.mul_lt_mul_of_pos_right hm (Nat.lt_of_lt_of_le (qy e) he))
theorem oU {k K P Q:Nat} (hQ:Q=2^k) (hP:P=2^K) (h:k≤K):Q≤P:=by rw[hQ,hP];exact Nat.pow_le_pow_right de h
theorem akj:2^53*2^2045=2^1024*2^1074:=by
 have h:∀P,P=2^2098→2^53*2^2045=2^1024*2^1074:=fun P hP=>(nT (p:=2098) (q:=53) (s:=2045) hP de).symm.trans (nT (p:=2098) (q:=1024) (s:=1074) hP de);exact h _ rfl
theorem I5 {a:Nat} (hf:rg a<9218868437227405312):yw a<2^1024:=
 Zx (A:=2^53) (B:=2^2045) (uT (rg a)) (oU rfl rfl (by unfold ex;split<;>omega)) akj (qy 1074) rfl
theorem Zy {K x B:Nat} (hK:K=x*30) (h:2^x≤B):2^K≤B^30:=by rw[hK,Nat.pow_mul];exact Nat.pow_le_pow_left h 30
theorem Dk:2^1024≤au^30:=by
 have h:∀K,K=59*30→2^1024≤au^30:=fun K hK=>Nat.le_trans (uY (k:=1024) (K:=K) om rfl) (Zy (x:=59) hK de);exact h _ rfl
theorem oV {a:Nat} (hf:rg a<9218868437227405312):(kf a).natAbs<au^30:=by rw[Dj];exact Nat.lt_of_lt_of_le (I5 hf) Dk
def anq (W:World) (v:Int) (b:Bool) (e:Ending) (w':World):Prop:=∃A c,e= .returned (.tuple #[.agg #[.bool (decide (v<0)),.slice A (aC v).length c],.bool b])∧aL w' A (aC v)∧(∀q,A=some q→W.heap.size≤q.block)∧Below W.heap.size W w'
section
variable (w:World) (a:Nat) (ha:a<18446744073709551616) (hf:rg a<9218868437227405312)
include ha hf
end
end Go.Proofs.YtdofcnodhgaedaaGreatDoor
