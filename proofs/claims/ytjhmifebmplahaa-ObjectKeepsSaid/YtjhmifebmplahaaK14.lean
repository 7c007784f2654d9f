/- Texts of this claim. -/
import Derived.Test.YtjhmifebmplahaaK13
import Derived.WalkKit
import Derived.Lib.Mul64
import Derived.Laws.Bits64b
import Derived.BigQuiet
import Derived.Deep.QuietTactic
import Derived.Lib.Hide
import Derived.Laws.Externs
import Derived.Deep.DeepCutAuto
import Derived.Deep.CutBlock
import Derived.Test.YtjhmifebmplahaaRows
namespace Go.Proofs.Ytjhmifebmplahaa
open Go.RowKit Go.Lib
namespace M64
end M64
set_option maxRecDepth 100000
set_option maxRecDepth 100000
end Go.Proofs.Ytjhmifebmplahaa
namespace Go.Proofs.Ytjhmifebmplahaa
open Go.RowKit
def ThreeB (w : World) (n1 n2 : Bool) (A B : Option Addr) (c d : Nat) (xs ys : List Nat) (b : World) : Prop :=
 Two w n1 n2 A B c d xs ys b ∧ (b.cell? ⟨w.heap.size + 1 + 1, 0, none⟩ = some (.bool false) ∧ b.cell? ⟨w.heap.size + 1 + 1, 1, none⟩ = some (.slice none 0 0) ∧ b.frozen? ⟨w.heap.size + 1 + 1, 0, none⟩ = false ∧ b.frozen? ⟨w.heap.size + 1 + 1, 1, none⟩ = false)
def threeB (w : World) (n1 n2 : Bool) (A B : Option Addr) (c d : Nat) (xs ys : List Nat) : World := (two w n1 n2 A B c d xs ys).alloc (.cells #[.bool false, .slice none 0 0] 26)
section
variable (n1 n2 : Bool) (A B : Option Addr) (c d : Nat) (xs ys : List Nat) (w : World)
set_option maxRecDepth 100000
end
section
variable {i j : Int} (A B : Option Addr) (c d : Nat) (w : World) (hi : i.natAbs < B18 ^ 30) (hj : j.natAbs < B18 ^ 30) (hx : Nums w A (limbs i)) (hy : Nums w B (limbs j))
include hi
include hx
include hj hy
end
set_option maxRecDepth 100000
def jf (n : Nat) : List Nat := (List.range 6).map fun j => 7770000 + (n + j)
theorem marks_len (n : Nat) : (jf n).length = 6 := rfl
theorem marks_at (n : Nat) {j : Nat} (h : j < 6) : (jf n)[j]? = some (7770000 + (n + j)) := by
 unfold jf;rw [List.getElem?_map, List.getElem?_range h]; rfl
theorem zcv {xs : List Nat} {k v : Nat} (h : xs[k]? = some v) : nth xs k = (v : Int) := by
 unfold nth;rw [List.getD_eq_getElem?_getD, h]; rfl
theorem nth_left {xs ys : List Nat} {k : Nat} (h : k < xs.length) : nth (xs ++ ys) k = nth xs k := by
 unfold nth;rw [List.getD_eq_getElem?_getD, List.getElem?_append_left h, ← List.getD_eq_getElem?_getD]
theorem nth_mark {xs : List Nat} {k : Nat} (h : xs.length ≤ k) (h2 : k < xs.length + 6) : nth (xs ++ jf xs.length) k = 7770000 + (k : Int) := by
 have e : (xs ++ jf xs.length)[k]? = some (7770000 + k) := by
  rw [List.getElem?_append_right h, marks_at _ (by omega)];congr 1; omega
 rw [zcv e]; omega
def Roomy (w : World) (g : Nat) (xs : List Nat) : Prop := Row w g (xs.length + 6) (xs ++ jf xs.length)
theorem row_of_blk {w : World} {g n : Nat} {v : Value} (hv : v = .int .u64 0) (h : Blk w g 27 (List.replicate n v).toArray) : Row w g n [] :=
 ⟨⟨_, h, by simp, fun i hi => by subst hv; unfold xe; rw [zck]; simp [hi]⟩, Nat.zero_le _⟩
theorem Row.blk {w : World} {g n : Nat} {ys : List Nat} (h : Row w g n ys) : ∃ cs, Blk w g 27 cs ∧ cs.size = n ∧ ∀ i, i < n → cs[i]? = some (xe ys i) := h.1
theorem Row.extX {X : Nat → Prop} {w w' : World} {g n : Nat} {ys : List Nat} (h : Row w g n ys) (e : Ext X w w') (hx : ¬ X g) : Row w' g n ys := by
 obtain ⟨cs, h1, h2, h3⟩ := h.blk;exact ⟨⟨cs, e.blk h1 hx, h2, h3⟩, h.2⟩
theorem row_put {w w' : World} {g n k : Nat} {ys : List Nat} {cs : Array Value} {v : Nat} (h : Row w g n ys) (hc : Blk w g 27 cs) (hw : Blk w' g 27 (yx cs k [.int .u64 (v : Int)])) (hk : ys.length = k) (hn : k < n) : Row w' g n (ys ++ [v]) := by
 obtain ⟨cs', h1, h2, h3⟩ := h.blk;have e : cs' = cs := by have := h1.symm.trans hc; simpa using this
 subst e;refine ⟨⟨_, hw, by rw [jd, h2], fun i hi => ?_⟩, by simp; omega⟩;simp only [yx, Array.getElem?_setIfInBounds]
 unfold xe;rw [nth_snoc];by_cases e : k = i
 · subst e; rw [if_pos rfl, if_pos (by omega), if_pos hk.symm]
 · rw [if_neg e, if_neg (by omega), h3 i hi]; rfl
theorem ow_copyN {N : Nat} {ops : Array Oper} {Q : Exit → Act → World → Prop} {σ : Env} {w : World} {dst : Option Nat} {pos : String} {af : Array Edge} {Post : Value → World → Prop} {x y : Operand} {A : Option Addr} {g n d c : Nat} {xs : List Nat}
 (hx : ev σ x = some (.slice (some ⟨g, 0, none⟩) n d)) (hrow : Row w g n []) (hy : ev σ y = some (.slice A xs.length c)) (hn : Nums w A xs)
 (k : ∀ w', Row w' g n (xs.take n) → Ext (Mut [some g]) w w' → Post (goInt (xs.take n).length) w') : OW Try.prog N ops Q ⟨dst, .call ⟨.builtin .copy, #[x, y], #[22, 22]⟩, 3, pos, af, none⟩ σ w Post := by
 obtain ⟨w', h1, h2, h3, _⟩ := copy_nums g n d c A xs hrow hn;refine yu (v := goInt (xs.take n).length) (w' := w') (fun ρ ha => ?_) (k w' h2 (Ext.grown h3));simp only [execOp, resolve, invoke, builtin, Sem.run_bind, Sem.run_pure, Result.andThen_ok, List.map_toArray, List.map_cons, List.map_nil, ha hx, ha hy, h1]
section
variable (A : Option Addr) (c : Nat) (xs : List Nat) (w : World)
theorem room_any (hx : Nums w A xs) (hb : xs.length * 8 ≤ 140737488351232) :
 Calls Try.prog 12 #[.slice A xs.length c] w fun e w' => ∃ g, e = .returned (.slice (some ⟨g, 0, none⟩) xs.length (xs.length + 6)) ∧ Roomy w' g xs ∧ w.heap.size ≤ g ∧ Below w.heap.size w w' := by
 refine yg Try.func12 rfl Try.ntmps12 rfl (srx (anx rfl (srx (mvx rfl (zb rfl (yi Try.underlying22 rfl (zb rfl (yc rfl rfl (zo (by omega)) (zb rfl (jy (n := xs.length + 6) Try.underlying22 oa rfl rfl rfl (by omega) (by omega) (by omega) (by omega) ?_))))))))));rintro g w1 hb1 he1 hg1;have r1 := row_of_blk rfl hb1
 refine anx rfl (srx (mvx rfl (mvx rfl (zb rfl (ow_copyN (xs := xs) rfl r1 rfl (hx.below he1.toBelow (Nat.le_refl _)) ?_)))));rintro w2 r2 he2;rw [List.take_of_length_le (by omega)] at r2;have hE2 : Ext No w w2 := he1.step he2 (fun i hi => by
  rcases hi with hi | hi
  · cases hi; exact .inr hg1
  · exact hi.elim)
 refine rnx (zi (srx (mvx rfl (zb rfl (yi Try.underlying22 rfl (anx rfl (zu (qk 4 (.int .i64 (((xs.length + 0 : Nat)) : Int)) rfl ((by rfl : (.int .i64 (((xs.length : Nat)) : Int) : Value) = _)) (qa (ι := Nat) (fun i => [(0, .slice A xs.length c), (3, .slice (some ⟨g, 0, none⟩) (xs.length + 6) (xs.length + 6)), (4, .int .i64 (((xs.length + i : Nat)) : Int))]) (fun i w' => i ≤ 6 ∧ Row w' g (xs.length + 6) (xs ++ (jf xs.length).take i) ∧ Ext No w w') (fun i => 6 - i) 0 ⟨rfl, rfl, rfl, trivial⟩ (⟨Nat.zero_le _, by rw [List.take_zero, List.append_nil]; exact r2, hE2⟩) ?_)))))))))
 rintro i w2 ⟨hi, r3, hE3⟩;refine zi (srx (mvx rfl (mvx rfl (zb rfl (yi Try.underlying22 rfl (zb rfl (yl rfl rfl (rnx (ym rfl (fun q => ?_) (fun q => ?_))))))))))
 ·
  have q := of_decide_eq_true q;have hi6 : i < 6 := by omega
  obtain ⟨cs, hcs, hcz, _⟩ := r3.blk
  refine zp (zd (zi (zu (zz (mvx rfl (mvx rfl (mvx rfl (zb rfl (yt Try.underlying27 Try.underlying3 rfl (yf (by omega)) (zb rfl (yc rfl rfl (yf (by omega)) (zb rfl (zk (j := xs.length + i) Try.underlying22 qi rfl rfl rfl (by omega) (zt 25 (.pointer (some ⟨g, xs.length + i, none⟩)) rfl ((by rw [Nat.zero_add] : (.pointer (some ⟨g, 0 + (xs.length + i), none⟩) : Value) = _)) (zt 24 (.int .u64 ((7770000 + (xs.length + i) : Nat) : Int)) rfl ((by rw [show ((7770000 + (xs.length + i) : Nat) : Int) = 7770000 + ((xs.length + i : Nat) : Int) by omega] : (.int .u64 (7770000 + (((xs.length + i : Nat)) : Int)) : Value) = _)) (qd (gj qi rfl rfl hcs rfl rfl (by omega) ?_)))))))))))))))))
  rintro w4 hb4 he4;have r4 := row_put r3 hcs hb4 (by rw [List.length_append, List.length_take, marks_len]; omega) (by omega);rw [List.append_assoc, show (jf xs.length).take i ++ [7770000 + (xs.length + i)] = (jf xs.length).take (i + 1) by rw [List.take_add_one, marks_at _ hi6]; rfl] at r4;have hE4 : Ext No w w4 := hE3.step he4 (fun i hi => by
   rcases hi with hi | hi
   · cases hi; exact .inr hg1
   · exact hi.elim)
  refine yp (zh (zd (zz (mvx rfl (zb rfl (yc rfl rfl (zo (by omega)) (avx rfl (yp (ku 4 (.int .i64 (((xs.length + (i + 1) : Nat)) : Int)) rfl ((by rw [show ((xs.length + (i + 1) : Nat) : Int) = ((xs.length + i : Nat) : Int) + 1 by omega] : (.int .i64 ((((xs.length + i : Nat)) : Int) + 1) : Value) = _)) ?_)))))))))
  exact yo (i + 1) (by show 6 - (i + 1) < 6 - i; omega) ⟨rfl, rfl, rfl, trivial⟩ (⟨by omega, r4, hE4⟩)
 ·
  have q := of_decide_eq_false q;have hi6 : i = 6 := by omega
  subst hi6
  refine qb (zm (zm (yb (zd (srx (mvx rfl (mvx rfl (zb rfl (yi Try.underlying22 rfl (zb rfl (kq (l := 0) (h := xs.length) Try.underlying22 qi rfl rfl ⟨_, rfl⟩ (Nat.zero_le _) (by omega) (anx rfl (zx (ku 2 (.slice (some ⟨g, 0, none⟩) xs.length (xs.length + 6)) rfl ((by rw [if_neg (by omega)]; rfl : (.slice (if xs.length + 6 = 0 then some ⟨g, 0, none⟩ else (some ⟨g, 0, none⟩ : Option Addr).map (·.add (0 * 1))) (xs.length - 0) (xs.length + 6 - 0) : Value) = _)) (zw (rs := [.tmp 2]) (vs := [_]) rfl ⟨rfl, trivial⟩ ?_)))))))))))))))
  exact ⟨g, rfl, r3, hg1, hE3.toBelow⟩
theorem kept_any (g : Nat) (hr : Roomy w g xs) (hx : Nums w A xs) (hb : xs.length * 8 ≤ 140737488351232) :
 Calls Try.prog 15 #[.slice (some ⟨g, 0, none⟩) xs.length (xs.length + 6), .slice A xs.length c] w fun e w' => e = .returned (.bool true) ∧ Below w.heap.size w w' := by
 have hcell : ∀ j, j < xs.length + 6 → w.cell? ⟨g, 0 + j, none⟩ = some (.int .u64 (nth (xs ++ jf xs.length) j)) := fun j hj => by rw [Nat.zero_add]; exact hr.cell hj
 obtain ⟨bx, ox, hA, hxc⟩ : ∃ bx ox, (0 < xs.length → A = some ⟨bx, ox, none⟩) ∧ ∀ k, k < xs.length → w.cell? ⟨bx, ox + k, none⟩ = some (.int .u64 (nth xs k)) := by
  rcases Nat.eq_zero_or_pos xs.length with h | h
  · exact ⟨0, 0, fun h' => by omega, fun k hk => by omega⟩
  · obtain ⟨b, o, h1, _, h2⟩ := hx.2 h;exact ⟨b, o, fun _ => h1, h2⟩
 refine yg Try.func15 rfl Try.ntmps15 rfl ?_;have HF : Per (No) w (fun _ => True) := Per.true_;have LW := erx (No) w;have XLW := grx (No) w;have E := erx (No) w;replace HF := HF.on E;replace LW := LW.step E XLW;replace E := erx (No) w
 replace HF := HF.and ((fun b hb j hj => (hb.cell (p := ⟨bx, ox + j, none⟩) (World.block_lt_of_cell? w _ (hxc j hj)) (fun h => h.elim)).trans (hxc j hj) : Per No w (fun b => ∀ j, j < xs.length → b.cell? ⟨bx, ox + j, none⟩ = some (.int .u64 (nth xs j)))));replace HF := HF.on E;replace LW := LW.step E XLW;replace E := erx (No) w
 replace HF := HF.and ((fun b hb j hj => (hb.cell (p := ⟨g, 0 + j, none⟩) (World.block_lt_of_cell? w _ (hcell j hj)) (fun h => h.elim)).trans (hcell j hj) : Per No w (fun b => ∀ j, j < xs.length + 6 → b.cell? ⟨g, 0 + j, none⟩ = some (.int .u64 (nth (xs ++ jf xs.length) j)))))
 refine srx (anx rfl (srx (mvx rfl (mvx rfl (zb rfl (yi Try.underlying22 rfl (zb rfl (yc rfl rfl (zo (by omega)) (zt 10 (.int .i64 (((xs.length + 6 : Nat)) : Int)) rfl ((by rfl : (.int .i64 ((((xs.length : Nat)) : Int) + 6) : Value) = _)) (zb rfl (kq (l := 0) (h := xs.length + 6) Try.underlying22 qi rfl rfl ⟨_, rfl⟩ (Nat.zero_le _) (Nat.le_refl _) (anx rfl (zi (srx (anx rfl (zu (qk 5 (.slice (some ⟨g, 0, none⟩) (xs.length + 6) (xs.length + 6)) rfl ((by rw [if_neg (by omega)]; rfl : (.slice (if xs.length + 6 = 0 then some ⟨g, 0, none⟩ else (some ⟨g, 0, none⟩ : Option Addr).map (·.add (0 * 1))) (xs.length + 6 - 0) (xs.length + 6 - 0) : Value) = _)) ?_)))))))))))))))))
 replace HF := HF.on E;replace LW := LW.step E XLW;replace E := erx (No) w
 refine qa (ι := Nat) (fun i => [(0, .slice (some ⟨g, 0, none⟩) xs.length (xs.length + 6)), (1, .slice A xs.length c), (5, .slice (some ⟨g, 0, none⟩) (xs.length + 6) (xs.length + 6)), (6, .int .i64 (i : Int))]) (fun i w' => Ext (No) w w' ∧ (True)) (fun i => xs.length + 6 - i) 0 ⟨rfl, rfl, rfl, rfl, trivial⟩ ⟨Ext.refl _ _, trivial⟩ ?_;rintro i w2 ⟨M1, _⟩;have XM1 := grx (No) w
 replace E := E.trans M1;replace HF := HF.on E;replace LW := LW.step E XLW;replace E := erx (No) w2;refine zi (srx (mvx rfl (mvx rfl (zb rfl (yi Try.underlying22 rfl (zb rfl (yl rfl rfl (rnx (ym rfl (fun q => ?_) (fun q => ?_))))))))))
 ·
  have q := of_decide_eq_true q;have hi : i < xs.length + 6 := by omega
  by_cases h : i < xs.length
  ·
   refine qk 1 (.slice (some ⟨bx, ox, none⟩) xs.length c) rfl ((by rw [hA (by omega)] : (.slice A xs.length c : Value) = _)) (zp (zd (zi (zu (zi ?_)))));have OY : ∀ q9, (Mut (outM [])) q9 → q9 < (World.drew w2).heap.size → (No) q9 := fun k h _ => (Mut.none_) k h;refine qt (No) Mut.none_ [] [] (ji [Fx.of (.int .i64 (i : Int)),
    Fx.of (.slice (some ⟨bx, ox, none⟩) xs.length c),
    Fx.of (.int .i64 (((xs.length : Nat)) : Int)),
    Fx.of (.bool true),
    Fx.of (.bool true),
    Fx.of (.slice (some ⟨g, 0, none⟩) (xs.length + 6) (xs.length + 6)),
    Fx.of (.int .i64 (i : Int)),
    Fx.of (.pointer (some ⟨g, 0 + i, none⟩)),
    Fx.of (.int .u64 (nth (xs ++ jf xs.length) i)),
    Fx.of (.slice (some ⟨bx, ox, none⟩) xs.length c),
    Fx.of (.int .i64 (i : Int)),
    Fx.of (.pointer (some ⟨bx, ox + i, none⟩)),
    Fx.of (.int .u64 (nth xs i)),
    Fx.of (.bool false),
    Fx.of (.bool false),
    Fx.of (.bool false),
    Fx.of (.int .i64 (i : Int)),
    Fx.of (.slice (some ⟨bx, ox, none⟩) xs.length c),
    Fx.of (.int .i64 (((xs.length : Nat)) : Int)),
    Fx.of (.bool false),
    Fx.of (.bool false),
    Fx.of undef,
    Fx.of undef,
    Fx.of undef,
    Fx.of undef,
    Fx.of undef,
    Fx.of undef,
    Fx.of undef,
    Fx.of undef,
    Fx.of (.bool false),
    Fx.of (.bool false)]) vf rfl trivial (fun _ h => by cases h) ?_ ?_
   · refine ⟨?_, ?_, ?_, ?_, ?_, ?_, ?_, ?_, ?_, ?_, ?_, ?_, ?_, ?_, ?_, ?_, ?_, ?_, ?_, ?_, ?_, ?_, ?_, ?_, ?_, ?_, ?_, ?_, ?_, ?_, ?_, trivial⟩
     · intro vs X wq K;exact ze rfl ⟨Below.refl _ _, Left.of rfl⟩
     · intro vs X wq K;exact ze rfl ⟨Below.refl _ _, Left.of rfl⟩
     · intro vs X wq K;obtain ⟨_, e1, k1⟩ := K.dep 1 rfl rfl rfl;refine za 19 (.slice (some ⟨bx, ox, none⟩) xs.length c) rfl e1 ?_;exact yi Try.underlying22 rfl ⟨Below.refl _ _, Left.of rfl⟩
     · intro vs X wq K;obtain ⟨_, e0, k0⟩ := K.dep 0 rfl rfl rfl;refine za 18 (.int .i64 (i : Int)) rfl e0 ?_;obtain ⟨_, e2, k2⟩ := K.dep 2 rfl rfl rfl;refine za 20 (.int .i64 (((xs.length : Nat)) : Int)) rfl e2 ?_;exact yl rfl rfl ⟨Below.refl _ _, Left.of ((by rw [decide_eq_true (by omega)] : (.bool (decide ((i : Int) < (((xs.length : Nat)) : Int))) : Value) = _))⟩
     · intro vs X wq K;obtain ⟨_, e3, k3⟩ := K.dep 3 rfl rfl rfl;refine za 21 (.bool true) rfl e3 ?_;exact ze rfl ⟨Below.refl _ _, Left.of rfl⟩
     · intro vs X wq K;obtain ⟨_, e4, k4⟩ := K.dep 4 rfl rfl rfl;refine za 22 (.bool true) rfl e4 ?_;exact zj rfl (ze rfl ⟨Below.refl _ _, Left.of rfl⟩)
     · intro vs X wq K;obtain ⟨_, e4, k4⟩ := K.dep 4 rfl rfl rfl;refine za 22 (.bool true) rfl e4 ?_;exact zj rfl (ze rfl ⟨Below.refl _ _, Left.of rfl⟩)
     · intro vs X wq K;obtain ⟨_, e5, k5⟩ := K.dep 5 rfl rfl rfl;refine za 23 (.slice (some ⟨g, 0, none⟩) (xs.length + 6) (xs.length + 6)) rfl e5 ?_;obtain ⟨_, e6, k6⟩ := K.dep 6 rfl rfl rfl;refine za 24 (.int .i64 (i : Int)) rfl e6 ?_;obtain ⟨_, e4, k4⟩ := K.dep 4 rfl rfl rfl;refine za 22 (.bool true) rfl e4 ?_
       exact zj rfl (zk (j := i) Try.underlying22 qi rfl rfl rfl hi ⟨Below.refl _ _, Left.of rfl⟩)
     · intro vs X wq K;have LE := K.1;obtain ⟨_, e7, k7⟩ := K.dep 7 rfl rfl rfl;refine za 25 (.pointer (some ⟨g, 0 + i, none⟩)) rfl e7 ?_;obtain ⟨_, e4, k4⟩ := K.dep 4 rfl rfl rfl;refine za 22 (.bool true) rfl e4 ?_;exact zj rfl (yk Try.underlying27 rfl rfl ((HF.on (E.drew.trans (LE.mono OY))).here.2 i hi) ⟨Below.refl _ _, Left.of rfl⟩)
     · intro vs X wq K;obtain ⟨_, e4, k4⟩ := K.dep 4 rfl rfl rfl;refine za 22 (.bool true) rfl e4 ?_;exact zj rfl (ze rfl ⟨Below.refl _ _, Left.of rfl⟩)
     · intro vs X wq K;obtain ⟨_, e4, k4⟩ := K.dep 4 rfl rfl rfl;refine za 22 (.bool true) rfl e4 ?_;exact zj rfl (ze rfl ⟨Below.refl _ _, Left.of rfl⟩)
     · intro vs X wq K;obtain ⟨_, e9, k9⟩ := K.dep 9 rfl rfl rfl;refine za 27 (.slice (some ⟨bx, ox, none⟩) xs.length c) rfl e9 ?_;obtain ⟨_, e10, k10⟩ := K.dep 10 rfl rfl rfl;refine za 28 (.int .i64 (i : Int)) rfl e10 ?_;obtain ⟨_, e4, k4⟩ := K.dep 4 rfl rfl rfl;refine za 22 (.bool true) rfl e4 ?_
       exact zj rfl (zk (j := i) Try.underlying22 qi rfl rfl rfl h ⟨Below.refl _ _, Left.of rfl⟩)
     · intro vs X wq K;have LE := K.1;obtain ⟨_, e11, k11⟩ := K.dep 11 rfl rfl rfl;refine za 29 (.pointer (some ⟨bx, ox + i, none⟩)) rfl e11 ?_;obtain ⟨_, e4, k4⟩ := K.dep 4 rfl rfl rfl;refine za 22 (.bool true) rfl e4 ?_;exact zj rfl (yk Try.underlying27 rfl rfl ((HF.on (E.drew.trans (LE.mono OY))).here.1.2 i h) ⟨Below.refl _ _, Left.of rfl⟩)
     · intro vs X wq K;obtain ⟨_, e8, k8⟩ := K.dep 8 rfl rfl rfl;refine za 26 (.int .u64 (nth (xs ++ jf xs.length) i)) rfl e8 ?_;obtain ⟨_, e12, k12⟩ := K.dep 12 rfl rfl rfl;refine za 30 (.int .u64 (nth xs i)) rfl e12 ?_;obtain ⟨_, e4, k4⟩ := K.dep 4 rfl rfl rfl;refine za 22 (.bool true) rfl e4 ?_
       exact zj rfl (qj rfl rfl ⟨Below.refl _ _, Left.of ((by rw [nth_left h, bne_self_eq_false] : (.bool ((nth (xs ++ jf xs.length) i) != (nth xs i)) : Value) = _))⟩)
     · intro vs X wq K;obtain ⟨_, e4, k4⟩ := K.dep 4 rfl rfl rfl;refine za 22 (.bool true) rfl e4 ?_;obtain ⟨_, e13, k13⟩ := K.dep 13 rfl rfl rfl;refine za 31 (.bool false) rfl e13 ?_;exact yh rfl rfl ⟨Below.refl _ _, Left.of rfl⟩
     · intro vs X wq K;obtain ⟨_, e14, k14⟩ := K.dep 14 rfl rfl rfl;refine za 32 (.bool false) rfl e14 ?_;exact ze rfl ⟨Below.refl _ _, Left.of rfl⟩
     · intro vs X wq K;obtain ⟨_, e15, k15⟩ := K.dep 15 rfl rfl rfl;refine za 33 (.bool false) rfl e15 ?_;exact zj rfl (ze rfl ⟨Below.refl _ _, Left.of rfl⟩)
     · intro vs X wq K;obtain ⟨_, e15, k15⟩ := K.dep 15 rfl rfl rfl;refine za 33 (.bool false) rfl e15 ?_;exact zj rfl (ze rfl ⟨Below.refl _ _, Left.of rfl⟩)
     · intro vs X wq K;obtain ⟨_, e17, k17⟩ := K.dep 17 rfl rfl rfl;refine za 35 (.slice (some ⟨bx, ox, none⟩) xs.length c) rfl e17 ?_;obtain ⟨_, e15, k15⟩ := K.dep 15 rfl rfl rfl;refine za 33 (.bool false) rfl e15 ?_;exact zj rfl (yi Try.underlying22 rfl ⟨Below.refl _ _, Left.of rfl⟩)
     · intro vs X wq K;obtain ⟨_, e16, k16⟩ := K.dep 16 rfl rfl rfl;refine za 34 (.int .i64 (i : Int)) rfl e16 ?_;obtain ⟨_, e18, k18⟩ := K.dep 18 rfl rfl rfl;refine za 36 (.int .i64 (((xs.length : Nat)) : Int)) rfl e18 ?_;obtain ⟨_, e15, k15⟩ := K.dep 15 rfl rfl rfl;refine za 33 (.bool false) rfl e15 ?_
       exact zj rfl (vm rfl rfl ⟨Below.refl _ _, Left.of ((by rw [decide_eq_false (by omega)] : (.bool (decide ((((xs.length : Nat)) : Int) ≤ (i : Int))) : Value) = _))⟩)
     · intro vs X wq K;obtain ⟨_, e19, k19⟩ := K.dep 19 rfl rfl rfl;refine za 37 (.bool false) rfl e19 ?_;obtain ⟨_, e15, k15⟩ := K.dep 15 rfl rfl rfl;refine za 33 (.bool false) rfl e15 ?_;exact zj rfl (ze rfl ⟨Below.refl _ _, Left.of rfl⟩)
     · intro vs X wq K;obtain ⟨_, e20, k20⟩ := K.dep 20 rfl rfl rfl;refine za 38 (.bool false) rfl e20 ?_;exact zl rfl ⟨Below.refl _ _, Left.of rfl⟩
     · intro vs X wq K;obtain ⟨_, e20, k20⟩ := K.dep 20 rfl rfl rfl;refine za 38 (.bool false) rfl e20 ?_;exact zl rfl ⟨Below.refl _ _, Left.of rfl⟩
     · intro vs X wq K;obtain ⟨_, e21, k21⟩ := K.dep 21 rfl rfl rfl;refine za 39 (undef) rfl e21 ?_;obtain ⟨_, e22, k22⟩ := K.dep 22 rfl rfl rfl;refine za 40 (undef) rfl e22 ?_;obtain ⟨_, e20, k20⟩ := K.dep 20 rfl rfl rfl;refine za 38 (.bool false) rfl e20 ?_;exact zl rfl ⟨Below.refl _ _, Left.of rfl⟩
     · intro vs X wq K;obtain ⟨_, e23, k23⟩ := K.dep 23 rfl rfl rfl;refine za 41 (undef) rfl e23 ?_;obtain ⟨_, e20, k20⟩ := K.dep 20 rfl rfl rfl;refine za 38 (.bool false) rfl e20 ?_;exact zl rfl ⟨Below.refl _ _, Left.of rfl⟩
     · intro vs X wq K;obtain ⟨_, e20, k20⟩ := K.dep 20 rfl rfl rfl;refine za 38 (.bool false) rfl e20 ?_;exact zl rfl ⟨Below.refl _ _, Left.of rfl⟩
     · intro vs X wq K;obtain ⟨_, e25, k25⟩ := K.dep 25 rfl rfl rfl;refine za 43 (undef) rfl e25 ?_;obtain ⟨_, e20, k20⟩ := K.dep 20 rfl rfl rfl;refine za 38 (.bool false) rfl e20 ?_;exact zl rfl ⟨Below.refl _ _, Left.of rfl⟩
     · intro vs X wq K;obtain ⟨_, e26, k26⟩ := K.dep 26 rfl rfl rfl;refine za 44 (undef) rfl e26 ?_;obtain ⟨_, e20, k20⟩ := K.dep 20 rfl rfl rfl;refine za 38 (.bool false) rfl e20 ?_;exact zl rfl ⟨Below.refl _ _, Left.of rfl⟩
     · intro vs X wq K;obtain ⟨_, e24, k24⟩ := K.dep 24 rfl rfl rfl;refine za 42 (undef) rfl e24 ?_;obtain ⟨_, e27, k27⟩ := K.dep 27 rfl rfl rfl;refine za 45 (undef) rfl e27 ?_;obtain ⟨_, e20, k20⟩ := K.dep 20 rfl rfl rfl;refine za 38 (.bool false) rfl e20 ?_;exact zl rfl ⟨Below.refl _ _, Left.of rfl⟩
     · intro vs X wq K;obtain ⟨_, e20, k20⟩ := K.dep 20 rfl rfl rfl;refine za 38 (.bool false) rfl e20 ?_;obtain ⟨_, e28, k28⟩ := K.dep 28 rfl rfl rfl;refine za 46 (undef) rfl e28 ?_;obtain ⟨_, e15, k15⟩ := K.dep 15 rfl rfl rfl;refine za 33 (.bool false) rfl e15 ?_;exact zj rfl (zr rfl rfl ⟨Below.refl _ _, Left.of rfl⟩)
     · intro vs X wq K;obtain ⟨_, e15, k15⟩ := K.dep 15 rfl rfl rfl;refine za 33 (.bool false) rfl e15 ?_;obtain ⟨_, e29, k29⟩ := K.dep 29 rfl rfl rfl;refine za 47 (.bool false) rfl e29 ?_;exact zr rfl rfl ⟨Below.refl _ _, Left.of rfl⟩
   intro vs w3 LE AO AL AF AA;replace E := E.drew.trans (LE.mono OY);obtain ⟨_, e30, k30⟩ := AL.2.2.2.2.2.2.2.2.2.2.2.2.2.2.2.2.2.2.2.2.2.2.2.2.2.2.2.2.2.2.1;refine qw (τ := [(0, _), (1, _), (5, _), (6, _), (48, .bool false)]) ⟨rfl, rfl, rfl, rfl, congrArg some e30, trivial⟩ ?_;clear AL AF AA LE AO OY e30 k30
   refine zd (zy rfl (zp (zh (zd (zz (mvx rfl (zb rfl (yc rfl rfl (zo (by omega)) (avx rfl (yp (ku 1 (.slice A xs.length c) rfl ((by rw [hA (by omega)] : (.slice (some ⟨bx, ox, none⟩) xs.length c : Value) = _)) ?_)))))))))))
   exact yo (i + 1) (by show xs.length + 6 - (i + 1) < xs.length + 6 - i; omega) ⟨rfl, rfl, rfl, rfl, trivial⟩ ⟨M1.step E XM1, trivial⟩
  ·
   refine zp (zd (zi (zu (zi ?_))));have OY : ∀ q9, (Mut (outM [])) q9 → q9 < (World.drew w2).heap.size → (No) q9 := fun k h _ => (Mut.none_) k h;refine qt (No) Mut.none_ [] [] (ji [Fx.of (.int .i64 (i : Int)),
    Fx.of (.slice A xs.length c),
    Fx.of (.int .i64 (((xs.length : Nat)) : Int)),
    Fx.of (.bool false),
    Fx.of (.bool false),
    Fx.of undef,
    Fx.of undef,
    Fx.of undef,
    Fx.of undef,
    Fx.of undef,
    Fx.of undef,
    Fx.of undef,
    Fx.of undef,
    Fx.of undef,
    Fx.of (.bool false),
    Fx.of (.bool false),
    Fx.of (.int .i64 (i : Int)),
    Fx.of (.slice A xs.length c),
    Fx.of (.int .i64 (((xs.length : Nat)) : Int)),
    Fx.of (.bool true),
    Fx.of (.bool true),
    Fx.of (.slice (some ⟨g, 0, none⟩) (xs.length + 6) (xs.length + 6)),
    Fx.of (.int .i64 (i : Int)),
    Fx.of (.pointer (some ⟨g, 0 + i, none⟩)),
    Fx.of (.int .u64 (nth (xs ++ jf xs.length) i)),
    Fx.of (.int .i64 (i : Int)),
    Fx.of (.int .u64 (i : Int)),
    Fx.of (.int .u64 (7770000 + (i : Int))),
    Fx.of (.bool false),
    Fx.of (.bool false),
    Fx.of (.bool false)]) vf rfl trivial (fun _ h => by cases h) ?_ ?_
   · refine ⟨?_, ?_, ?_, ?_, ?_, ?_, ?_, ?_, ?_, ?_, ?_, ?_, ?_, ?_, ?_, ?_, ?_, ?_, ?_, ?_, ?_, ?_, ?_, ?_, ?_, ?_, ?_, ?_, ?_, ?_, ?_, trivial⟩
     · intro vs X wq K;exact ze rfl ⟨Below.refl _ _, Left.of rfl⟩
     · intro vs X wq K;exact ze rfl ⟨Below.refl _ _, Left.of rfl⟩
     · intro vs X wq K;obtain ⟨_, e1, k1⟩ := K.dep 1 rfl rfl rfl;refine za 19 (.slice A xs.length c) rfl e1 ?_;exact yi Try.underlying22 rfl ⟨Below.refl _ _, Left.of rfl⟩
     · intro vs X wq K;obtain ⟨_, e0, k0⟩ := K.dep 0 rfl rfl rfl;refine za 18 (.int .i64 (i : Int)) rfl e0 ?_;obtain ⟨_, e2, k2⟩ := K.dep 2 rfl rfl rfl;refine za 20 (.int .i64 (((xs.length : Nat)) : Int)) rfl e2 ?_;exact yl rfl rfl ⟨Below.refl _ _, Left.of ((by rw [decide_eq_false (by omega)] : (.bool (decide ((i : Int) < (((xs.length : Nat)) : Int))) : Value) = _))⟩
     · intro vs X wq K;obtain ⟨_, e3, k3⟩ := K.dep 3 rfl rfl rfl;refine za 21 (.bool false) rfl e3 ?_;exact ze rfl ⟨Below.refl _ _, Left.of rfl⟩
     · intro vs X wq K;obtain ⟨_, e4, k4⟩ := K.dep 4 rfl rfl rfl;refine za 22 (.bool false) rfl e4 ?_;exact zl rfl ⟨Below.refl _ _, Left.of rfl⟩
     · intro vs X wq K;obtain ⟨_, e4, k4⟩ := K.dep 4 rfl rfl rfl;refine za 22 (.bool false) rfl e4 ?_;exact zl rfl ⟨Below.refl _ _, Left.of rfl⟩
     · intro vs X wq K;obtain ⟨_, e5, k5⟩ := K.dep 5 rfl rfl rfl;refine za 23 (undef) rfl e5 ?_;obtain ⟨_, e6, k6⟩ := K.dep 6 rfl rfl rfl;refine za 24 (undef) rfl e6 ?_;obtain ⟨_, e4, k4⟩ := K.dep 4 rfl rfl rfl;refine za 22 (.bool false) rfl e4 ?_;exact zl rfl ⟨Below.refl _ _, Left.of rfl⟩
     · intro vs X wq K;obtain ⟨_, e7, k7⟩ := K.dep 7 rfl rfl rfl;refine za 25 (undef) rfl e7 ?_;obtain ⟨_, e4, k4⟩ := K.dep 4 rfl rfl rfl;refine za 22 (.bool false) rfl e4 ?_;exact zl rfl ⟨Below.refl _ _, Left.of rfl⟩
     · intro vs X wq K;obtain ⟨_, e4, k4⟩ := K.dep 4 rfl rfl rfl;refine za 22 (.bool false) rfl e4 ?_;exact zl rfl ⟨Below.refl _ _, Left.of rfl⟩
     · intro vs X wq K;obtain ⟨_, e4, k4⟩ := K.dep 4 rfl rfl rfl;refine za 22 (.bool false) rfl e4 ?_;exact zl rfl ⟨Below.refl _ _, Left.of rfl⟩
     · intro vs X wq K;obtain ⟨_, e9, k9⟩ := K.dep 9 rfl rfl rfl;refine za 27 (undef) rfl e9 ?_;obtain ⟨_, e10, k10⟩ := K.dep 10 rfl rfl rfl;refine za 28 (undef) rfl e10 ?_;obtain ⟨_, e4, k4⟩ := K.dep 4 rfl rfl rfl;refine za 22 (.bool false) rfl e4 ?_;exact zl rfl ⟨Below.refl _ _, Left.of rfl⟩
     · intro vs X wq K;obtain ⟨_, e11, k11⟩ := K.dep 11 rfl rfl rfl;refine za 29 (undef) rfl e11 ?_;obtain ⟨_, e4, k4⟩ := K.dep 4 rfl rfl rfl;refine za 22 (.bool false) rfl e4 ?_;exact zl rfl ⟨Below.refl _ _, Left.of rfl⟩
     · intro vs X wq K;obtain ⟨_, e8, k8⟩ := K.dep 8 rfl rfl rfl;refine za 26 (undef) rfl e8 ?_;obtain ⟨_, e12, k12⟩ := K.dep 12 rfl rfl rfl;refine za 30 (undef) rfl e12 ?_;obtain ⟨_, e4, k4⟩ := K.dep 4 rfl rfl rfl;refine za 22 (.bool false) rfl e4 ?_;exact zl rfl ⟨Below.refl _ _, Left.of rfl⟩
     · intro vs X wq K;obtain ⟨_, e4, k4⟩ := K.dep 4 rfl rfl rfl;refine za 22 (.bool false) rfl e4 ?_;obtain ⟨_, e13, k13⟩ := K.dep 13 rfl rfl rfl;refine za 31 (undef) rfl e13 ?_;exact zr rfl rfl ⟨Below.refl _ _, Left.of rfl⟩
     · intro vs X wq K;obtain ⟨_, e14, k14⟩ := K.dep 14 rfl rfl rfl;refine za 32 (.bool false) rfl e14 ?_;exact ze rfl ⟨Below.refl _ _, Left.of rfl⟩
     · intro vs X wq K;obtain ⟨_, e15, k15⟩ := K.dep 15 rfl rfl rfl;refine za 33 (.bool false) rfl e15 ?_;exact zj rfl (ze rfl ⟨Below.refl _ _, Left.of rfl⟩)
     · intro vs X wq K;obtain ⟨_, e15, k15⟩ := K.dep 15 rfl rfl rfl;refine za 33 (.bool false) rfl e15 ?_;exact zj rfl (ze rfl ⟨Below.refl _ _, Left.of rfl⟩)
     · intro vs X wq K;obtain ⟨_, e17, k17⟩ := K.dep 17 rfl rfl rfl;refine za 35 (.slice A xs.length c) rfl e17 ?_;obtain ⟨_, e15, k15⟩ := K.dep 15 rfl rfl rfl;refine za 33 (.bool false) rfl e15 ?_;exact zj rfl (yi Try.underlying22 rfl ⟨Below.refl _ _, Left.of rfl⟩)
     · intro vs X wq K;obtain ⟨_, e16, k16⟩ := K.dep 16 rfl rfl rfl;refine za 34 (.int .i64 (i : Int)) rfl e16 ?_;obtain ⟨_, e18, k18⟩ := K.dep 18 rfl rfl rfl;refine za 36 (.int .i64 (((xs.length : Nat)) : Int)) rfl e18 ?_;obtain ⟨_, e15, k15⟩ := K.dep 15 rfl rfl rfl;refine za 33 (.bool false) rfl e15 ?_
       exact zj rfl (vm rfl rfl ⟨Below.refl _ _, Left.of ((by rw [decide_eq_true (by omega)] : (.bool (decide ((((xs.length : Nat)) : Int) ≤ (i : Int))) : Value) = _))⟩)
     · intro vs X wq K;obtain ⟨_, e19, k19⟩ := K.dep 19 rfl rfl rfl;refine za 37 (.bool true) rfl e19 ?_;obtain ⟨_, e15, k15⟩ := K.dep 15 rfl rfl rfl;refine za 33 (.bool false) rfl e15 ?_;exact zj rfl (ze rfl ⟨Below.refl _ _, Left.of rfl⟩)
     · intro vs X wq K;obtain ⟨_, e20, k20⟩ := K.dep 20 rfl rfl rfl;refine za 38 (.bool true) rfl e20 ?_;exact zj rfl (ze rfl ⟨Below.refl _ _, Left.of rfl⟩)
     · intro vs X wq K;obtain ⟨_, e20, k20⟩ := K.dep 20 rfl rfl rfl;refine za 38 (.bool true) rfl e20 ?_;exact zj rfl (ze rfl ⟨Below.refl _ _, Left.of rfl⟩)
     · intro vs X wq K;obtain ⟨_, e21, k21⟩ := K.dep 21 rfl rfl rfl;refine za 39 (.slice (some ⟨g, 0, none⟩) (xs.length + 6) (xs.length + 6)) rfl e21 ?_;obtain ⟨_, e22, k22⟩ := K.dep 22 rfl rfl rfl;refine za 40 (.int .i64 (i : Int)) rfl e22 ?_;obtain ⟨_, e20, k20⟩ := K.dep 20 rfl rfl rfl;refine za 38 (.bool true) rfl e20 ?_
       exact zj rfl (zk (j := i) Try.underlying22 qi rfl rfl rfl hi ⟨Below.refl _ _, Left.of rfl⟩)
     · intro vs X wq K;have LE := K.1;obtain ⟨_, e23, k23⟩ := K.dep 23 rfl rfl rfl;refine za 41 (.pointer (some ⟨g, 0 + i, none⟩)) rfl e23 ?_;obtain ⟨_, e20, k20⟩ := K.dep 20 rfl rfl rfl;refine za 38 (.bool true) rfl e20 ?_;exact zj rfl (yk Try.underlying27 rfl rfl ((HF.on (E.drew.trans (LE.mono OY))).here.2 i hi) ⟨Below.refl _ _, Left.of rfl⟩)
     · intro vs X wq K;obtain ⟨_, e20, k20⟩ := K.dep 20 rfl rfl rfl;refine za 38 (.bool true) rfl e20 ?_;exact zj rfl (ze rfl ⟨Below.refl _ _, Left.of rfl⟩)
     · intro vs X wq K;obtain ⟨_, e25, k25⟩ := K.dep 25 rfl rfl rfl;refine za 43 (.int .i64 (i : Int)) rfl e25 ?_;obtain ⟨_, e20, k20⟩ := K.dep 20 rfl rfl rfl;refine za 38 (.bool true) rfl e20 ?_;exact zj rfl (yt Try.underlying27 Try.underlying3 rfl (yf (by omega)) ⟨Below.refl _ _, Left.of rfl⟩)
     · intro vs X wq K;obtain ⟨_, e26, k26⟩ := K.dep 26 rfl rfl rfl;refine za 44 (.int .u64 (i : Int)) rfl e26 ?_;obtain ⟨_, e20, k20⟩ := K.dep 20 rfl rfl rfl;refine za 38 (.bool true) rfl e20 ?_;exact zj rfl (yc rfl rfl (yf (by omega)) ⟨Below.refl _ _, Left.of rfl⟩)
     · intro vs X wq K;obtain ⟨_, e24, k24⟩ := K.dep 24 rfl rfl rfl;refine za 42 (.int .u64 (nth (xs ++ jf xs.length) i)) rfl e24 ?_;obtain ⟨_, e27, k27⟩ := K.dep 27 rfl rfl rfl;refine za 45 (.int .u64 (7770000 + (i : Int))) rfl e27 ?_;obtain ⟨_, e20, k20⟩ := K.dep 20 rfl rfl rfl;refine za 38 (.bool true) rfl e20 ?_
       exact zj rfl (qj rfl rfl ⟨Below.refl _ _, Left.of ((by rw [nth_mark (by omega) hi, bne_self_eq_false] : (.bool ((nth (xs ++ jf xs.length) i) != (7770000 + (i : Int))) : Value) = _))⟩)
     · intro vs X wq K;obtain ⟨_, e20, k20⟩ := K.dep 20 rfl rfl rfl;refine za 38 (.bool true) rfl e20 ?_;obtain ⟨_, e28, k28⟩ := K.dep 28 rfl rfl rfl;refine za 46 (.bool false) rfl e28 ?_;obtain ⟨_, e15, k15⟩ := K.dep 15 rfl rfl rfl;refine za 33 (.bool false) rfl e15 ?_;exact zj rfl (yh rfl rfl ⟨Below.refl _ _, Left.of rfl⟩)
     · intro vs X wq K;obtain ⟨_, e15, k15⟩ := K.dep 15 rfl rfl rfl;refine za 33 (.bool false) rfl e15 ?_;obtain ⟨_, e29, k29⟩ := K.dep 29 rfl rfl rfl;refine za 47 (.bool false) rfl e29 ?_;exact zr rfl rfl ⟨Below.refl _ _, Left.of rfl⟩
   intro vs w4 LE AO AL AF AA;replace E := E.drew.trans (LE.mono OY);obtain ⟨_, e30, k30⟩ := AL.2.2.2.2.2.2.2.2.2.2.2.2.2.2.2.2.2.2.2.2.2.2.2.2.2.2.2.2.2.2.1;refine qw (τ := [(0, _), (1, _), (5, _), (6, _), (48, .bool false)]) ⟨rfl, rfl, rfl, rfl, congrArg some e30, trivial⟩ ?_;clear AL AF AA LE AO OY e30 k30
   refine zd (zy rfl (zp (zh (zd (zz (mvx rfl (zb rfl (yc rfl rfl (zo (by omega)) (avx rfl (yp ?_))))))))));exact yo (i + 1) (by show xs.length + 6 - (i + 1) < xs.length + 6 - i; omega) ⟨rfl, rfl, rfl, rfl, trivial⟩ ⟨M1.step E XM1, trivial⟩
 ·
  refine qb (zm (zm (yb (zd (srx (mvx rfl (zb rfl (yi Try.underlying22 rfl (mvx rfl (zb rfl (yi Try.underlying22 rfl (zb rfl (yz rfl rfl (anx rfl (zx (ku 4 (.bool true) rfl ((by rw [beq_self_eq_true] : (.bool ((((xs.length : Nat)) : Int) == (((xs.length : Nat)) : Int)) : Value) = _)) (zw (rs := [.tmp 4]) (vs := [_]) rfl ⟨rfl, trivial⟩ ?_)))))))))))))))))
  exact ⟨rfl, (LW.step E XLW).toBelow⟩
end
end Go.Proofs.Ytjhmifebmplahaa
namespace Go.Proofs.Ytjhmifebmplahaa
open Go.RowKit
set_option maxRecDepth 100000
attribute [local irreducible] OW RS
theorem WordsA.nums {n : Nat} {w : World} {A : Option Addr} {T : List Nat} (h : WordsA n w A T) (hn : n ≤ w.heap.size) : Nums w A T := by
 refine ⟨fun k => ?_, fun h0 => ?_⟩
 · by_cases hk : k < T.length
   · have h1 := List.getElem?_eq_getElem hk;rw [zcv h1];have := h.in_ _ (List.mem_of_getElem? h1);unfold U64 at this;omega
   · unfold nth;rw [List.getD_eq_getElem?_getD, List.getElem?_eq_none (by omega)];decide
 · obtain ⟨g, o, e, hg, _⟩ := h.cell (List.getElem?_eq_getElem h0);refine ⟨g, o, e, by omega, fun k hk => ?_⟩;obtain ⟨g2, o2, e2, _, hc⟩ := h.cell (List.getElem?_eq_getElem hk);rw [e] at e2;cases e2
   rw [hc, zcv (List.getElem?_eq_getElem hk)]
theorem Roomy.words {w : World} {g n : Nat} {T : List Nat} (h : Roomy w g T) (hg : g < n) (hl : 8 * T.length ≤ 140737488355000) (hi : ∀ x ∈ T, U64 x) : WordsA n w (some ⟨g, 0, none⟩) T :=
 ⟨hl, hi, fun _ => ⟨g, 0, rfl, hg, fun j x hx => by
  have hj := (List.getElem?_eq_some_iff.1 hx).1;show w.cell? ⟨g, 0 + j * 1, none⟩ = _
  rw [Nat.zero_add, Nat.mul_one, h.cell (by omega), nth_left hj, zcv hx]⟩⟩
theorem OwnM.cap {lo gm gW cap top : Nat} {w : World} {W : List Nat} (h : OwnM lo w gm gW cap W top) : ∃ cur, Blk w gW 27 cur ∧ W.length ≤ cap ∧ cap ≤ maxLen ∧ cur.size = cap := by
 rcases h.row.2 with ⟨h1, _⟩ | ⟨g, c, cur, h1, _, h3, h4, h5, h6, _⟩
 · cases h1
 · cases h1
   exact ⟨cur, h3, h4, by omega, by omega⟩
section
variable (lo gm gW cap top c n : Nat) (w : World) (W T : List Nat) (B : Option Addr) (l : List Nat) (hM : OwnM lo w gm gW cap W top) (hF : FormL W top l) (hmW : gm ≠ gW) (hT : ∀ z, Ext (Mut [some gm, some gW]) w z → WordsA n z B T) (hn : n ≤ w.heap.size) (hg : ∀ x ∈ T, WordOk l x)
include hM hF hmW hT hn hg
def RetObj (lo gm gW cap top : Nat) (w : World) (W T l : List Nat) (e : Ending) (w' : World) : Prop := ∃ (x : Nat) (er : Int) (W' : List Nat) (t' : Nat) (l' : List Nat), e = .returned (.tuple #[.int .u64 ((x : Nat) : Int), .int .i64 er]) ∧ OwnM lo w' gm gW cap W' t' ∧ Ext (Mut [some gm, some gW]) w w' ∧ Grown2 W top l W' t' l' ∧ U64 x ∧ (er = 0 → T.length ≤ 20000 ∧ HasItems W' t' x T)
theorem tuple_ret : Calls Try.prog 13 #[.pointer (some ⟨gm, 0, none⟩), .slice B T.length c] w (RetObj lo gm gW cap top w W T l) :=
 (otuple_any lo gm gW cap top c n w W T B l hM hF hmW hT hn hg).mono fun e w' h => by
  rcases h with ⟨er, h0, rfl, hb⟩ | ⟨rfl, hl, hf, hM', hE⟩
  · exact ⟨0, er, W, top, l, rfl, hM.ext (Ext.of_below hb No) (fun h => h) (fun h => h), (Ext.of_below hb No).mono (fun _ h _ => h.elim), .refl hF, by unfold U64; decide, fun h => absurd h h0⟩
  · have := hF.most;exact ⟨4 * top, 0, _, _, _, rfl, hM', hE, tuple_grown hF hf hg, by unfold U64; omega, fun _ => ⟨hl, tuple_items hF.one hf hF.most⟩⟩
theorem list_ret : Calls Try.prog 14 #[.pointer (some ⟨gm, 0, none⟩), .slice B T.length c] w (RetObj lo gm gW cap top w W T l) :=
 (olist_any lo gm gW cap top c n w W T B l hM hF hmW hT hn hg).mono fun e w' h => by
  rcases h with ⟨er, h0, rfl, hb, _⟩ | ⟨W1, top1, bk, rfl, hl, hc, hf, hM', hE⟩
  · exact ⟨0, er, W, top, l, rfl, hM.ext (Ext.of_below hb No) (fun h => h) (fun h => h), (Ext.of_below hb No).mono (fun _ h _ => h.elim), .refl hF, by unfold U64; decide, fun h => absurd h h0⟩
  · obtain ⟨l', hG, hI⟩ := list_grown hF hg hl hc hf;have h1 := hI.seen.hi;have h2 := hI.seen.len;have h3 := hG.form.most;exact ⟨4 * top1, 0, _, _, _, rfl, hM', hE, hG, by unfold U64; omega, fun _ => ⟨hl, hI⟩⟩
end
theorem single4 {g1 g2 g3 g4 n1 n2 n3 n4 c1 c2 c3 c4 : Nat} (h : g1 ≠ g2 ∧ g1 ≠ g3 ∧ g1 ≠ g4 ∧ g2 ≠ g3 ∧ g2 ≠ g4 ∧ g3 ≠ g4) : Single [((some ⟨g1, 0, none⟩ : Option Addr), n1, c1), (some ⟨g2, 0, none⟩, n2, c2), (some ⟨g3, 0, none⟩, n3, c3), (some ⟨g4, 0, none⟩, n4, c4)] := by
 rintro b k m ⟨r, hr, hb⟩ ⟨s, hs, hc⟩;rcases k with _ | _ | _ | _ | k <;> rcases m with _ | _ | _ | _ | m <;> simp at hr hs <;> subst hr hs <;> simp at hb hc <;> omega
theorem bk4 {g1 g2 g3 g4 n1 n2 n3 n4 c1 c2 c3 c4 q : Nat} (h : Bk [((some ⟨g1, 0, none⟩ : Option Addr), n1, c1), (some ⟨g2, 0, none⟩, n2, c2), (some ⟨g3, 0, none⟩, n3, c3), (some ⟨g4, 0, none⟩, n4, c4)] q) : q = g1 ∨ q = g2 ∨ q = g3 ∨ q = g4 := by
 obtain ⟨k, r, hr, hb⟩ := h;rcases k with _ | _ | _ | _ | k <;> simp at hr <;> subst hr <;> simp at hb <;> omega
section
variable (w : World) (A B : Option Addr) (W T : List Nat) (c d n : Nat) (top : Int) (hw : WordsA n w A W) (hr : WordsA n w B T) (htop : I64 top) (hn : n ≤ w.heap.size) (hTl : T.length * 8 ≤ 140737488351232)
include hw hr htop hn hTl
set_option maxHeartbeats 2000000 in
theorem keeps_law : Calls Try.prog 4 #[.agg #[.slice A W.length c, .int .i64 top], .slice B T.length d] w fun e w' => e = .returned (.bool true) ∧ Below w.heap.size w w' := by
 refine yg Try.func4 rfl Try.ntmps4 rfl (srx (zb rfl (qr rfl ?_)));rintro g2 wA B2 E1 G2;refine anx rfl (zi (srx (zb rfl (zq en5 rfl ((known_any _).mono ?_)))));rintro e w1 ⟨rfl, hb⟩;refine ⟨_, rfl, ?_⟩;have B2a := B2.ext (Ext.of_below hb No) (fun h => h.elim);have E2 := E1.trans (Ext.of_below hb No);have hs2 := E2.size
 refine zb rfl (qe rfl (rnx (zy rfl (zp (zd (zi (srx (zb rfl (yj Try.underlying24 rfl qz rfl B2a rfl (zb rfl (zq en6 rfl ((lright_any _ A W c n top (hw.no E2) htop (by omega)).mono ?_))))))))))));rintro e w2 ⟨⟨b, rfl, hb0⟩, hb⟩;refine ⟨_, rfl, ?_⟩;have B2b := B2a.ext (Ext.of_below hb No) (fun h => h.elim);have E3 := E2.trans (Ext.of_below hb No)
 have hs3 := E3.size;refine zb rfl (qe rfl (rnx ?_));by_cases hbb : b = true
 ·
  refine qk 18 (.bool false) rfl ((by rw [hbb]; rfl : (.bool (!b) : Value) = _)) (zy rfl (zp (zd (zi (srx (zb rfl (yj Try.underlying24 rfl qz rfl B2b rfl (mvx rfl (zb rfl (zq en11 rfl ((mright_any _ A B W T c d n top (hw.no E3) (hr.no E3) htop (by omega)).mono ?_)))))))))));rintro e w3 ⟨⟨b2, rfl, hb2⟩, hb⟩;refine ⟨_, rfl, ?_⟩
  have B2c := B2b.ext (Ext.of_below hb No) (fun h => h.elim);have E4 := E3.trans (Ext.of_below hb No);have hs4 := E4.size;refine zb rfl (qe rfl (rnx ?_));by_cases hbc : b2 = true
  ·
   refine qk 22 (.bool false) rfl ((by rw [hbc]; rfl : (.bool (!b2) : Value) = _)) ?_;obtain ⟨t, l, ht, hF, hok⟩ := hb2 hbc;have hlen := hF.most;have h2 := hF.two;have B2d : Blk w3 g2 24 #[.slice A W.length c, .int .i64 ((t : Nat) : Int)] := by rw [← ht]; exact B2c
   refine zy rfl (zp (zd (srx (zb rfl (yj Try.underlying24 rfl qz rfl B2d rfl (zb rfl (zq en8 rfl ((mcopy_any _ A W c n ((t : Nat) : Int) (hw.no E4)).mono ?_))))))));rintro e w4 ⟨⟨A5, cap, rfl, O5⟩, hb⟩;refine ⟨_, rfl, ?_⟩;have E5 := E4.trans (Ext.of_below hb No);obtain ⟨gW, cur, hA5, _, _, hloW, _⟩ := owns_blkM O5 (by omega);subst hA5
   have hlW := kg O5 gW rfl;refine zb rfl (qc zr24 ?_);rintro gm wB Bm E6 Gm;refine qd (yr qz rfl rfl Bm rfl rfl rfl ?_);rintro wC BmC E7;have hmW : gm ≠ gW := by omega
   have O7 := ot (qu (qu O5 E6 (fun _ _ h => h.elim)) E7 (fun q hq h => by have h1 := qp h; have h2 : gW = q := Option.some.inj hq; omega)) (show w.heap.size ≤ _ from hs4);have hM0 : OwnM w.heap.size wC gm gW cap W t := ⟨BmC, O7, hw.in_, hF.one, hF.len, hF.most⟩;have hgm : w.heap.size ≤ gm := by have := E5.size; omega
   have hgW : w.heap.size ≤ gW := by omega
   have hE7 : Ext (fun q => w.heap.size ≤ q) w wC := ((E5.trans E6).noL w.heap.size).step E7 (fun q hq => Or.inl (show w.heap.size ≤ q by have := qp hq; omega));have hX : ∀ q, Mut [some gm, some gW] q → w.heap.size ≤ q := fun q hq => by rcases hq with h | h | h <;> first | exact h.elim | (have := Option.some.inj h; omega)
   have hr7 := hr.low ⟨hE7, fun q hq => Nat.le_trans hn hq⟩;have hs7 := hE7.size;refine rnx (srx (mvx rfl (zb rfl (zq en12 rfl ((room_any B d T _ (hr7.nums (by omega)) hTl).mono ?_)))));rintro e w5 ⟨g6, rfl, r6, hg6, hb⟩;refine ⟨_, rfl, ?_⟩;have E8 := Ext.of_below hb No;have hM1 := hM0.ext E8 (fun h => h) (fun h => h);have hE8 := hE7.step E8 (fun _ h => h.elim);have hl6 := hM0.lt
   have r6l := r6.blk;have hl6b : g6 < w5.heap.size := by obtain ⟨cs, h1, _⟩ := r6l; exact h1.lt
   have h6m : g6 ≠ gm := by omega
   have h6W : g6 ≠ gW := by omega
   have hX6 : ¬ Mut [some gm, some gW] g6 := fun h => by rcases h with h | h | h <;> first | exact h.elim | (have := Option.some.inj h; omega)
   have hTz : ∀ z, Ext (Mut [some gm, some gW]) w5 z → WordsA (g6 + 1) z (some ⟨g6, 0, none⟩) T := fun z hz => Roomy.words (r6.extX hz hX6) (Nat.lt_succ_self _) (by omega) hr.in_;obtain ⟨wu1, hwu1⟩ : ∃ wu1, wu1 = w5 := ⟨_, rfl⟩;subst hwu1
   refine anx rfl (srx (mvx rfl (zb rfl (zq en13 rfl ((tuple_ret w.heap.size gm gW cap t (T.length + 6) (g6 + 1) _ W T (some ⟨g6, 0, none⟩) l hM1 hF hmW hTz hl6b hok).mono ?_)))));rintro e w6 ⟨x1, er1, W1, t1, l1, rfl, hM2, E9, hG1, hx1, hI1⟩;refine ⟨_, rfl, ?_⟩;have hE9 := hE8.step E9 (fun q hq => Or.inl (hX q hq));have hs9 := E9.size;obtain ⟨wu2, hwu2⟩ : ∃ wu2, wu2 = w6 := ⟨_, rfl⟩
   subst hwu2;refine mvx rfl (zb rfl (zf rfl rfl (zb rfl (zf rfl rfl (avx rfl (anx rfl (srx (mvx rfl (zb rfl (zq en14 rfl ((list_ret w.heap.size gm gW cap t1 (T.length + 6) (g6 + 1) _ W1 T (some ⟨g6, 0, none⟩) l1 hM2 hG1.form hmW (fun z hz => hTz z (E9.step hz (fun q hq => Or.inl hq))) (by omega) (fun x hx => hG1.ok (hok x hx))).mono ?_)))))))))))
   rintro e w7 ⟨x2, er2, W2, t2, l2, rfl, hM3, E10, hG2, hx2, hI2⟩;refine ⟨_, rfl, ?_⟩;have hE10 := hE9.step E10 (fun q hq => Or.inl (hX q hq));have r6c := (r6.extX E9 hX6).extX E10 hX6;have hr10 := hr.low ⟨hE10, fun q hq => Nat.le_trans hn hq⟩;have hs10 := hE10.size
   refine mvx rfl (zb rfl (zf rfl rfl (zb rfl (zf rfl rfl (avx rfl (anx rfl (zi (srx (mvx rfl (mvx rfl (zb rfl (zq en15 rfl ((kept_any B d T _ g6 r6c (hr10.nums (by omega)) hTl).mono ?_)))))))))))));rintro e w8 ⟨rfl, hb⟩;refine ⟨_, rfl, ?_⟩;have E11 := Ext.of_below hb No;have hE11 := hE10.step E11 (fun _ h => h.elim);have r6d := r6c.extX E11 (fun h => h)
   have hM4 := hM3.ext E11 (fun h => h) (fun h => h);obtain ⟨wu3, hwu3⟩ : ∃ wu3, wu3 = w8 := ⟨_, rfl⟩;subst hwu3;obtain ⟨cs0, hcs0, hcz0, _⟩ := r6d.blk
   refine zb rfl (qe rfl (rnx (zy rfl (zp (zd (zi (srx (anx rfl (zu (qa (ι := Nat) (fun i => [(1, .slice B T.length d), (5, .pointer (some ⟨gm, 0, none⟩)), (6, .slice (some ⟨g6, 0, none⟩) T.length (T.length + 6)), (7, .int .u64 ((x1 : Nat) : Int)), (8, .int .i64 er1), (9, .int .u64 ((x2 : Nat) : Int)), (10, .int .i64 er2), (11, .int .i64 ((i : Nat) : Int))]) (fun i w' => i ≤ T.length ∧ Ext (Mut [some g6]) wu3 w' ∧ ∃ cs : Array Value, Blk w' g6 27 cs ∧ cs.size = T.length + 6) (fun i => T.length - i) 0 ⟨rfl, rfl, rfl, rfl, rfl, rfl, rfl, rfl, trivial⟩ (⟨Nat.zero_le _, Ext.refl _ _, cs0, hcs0, hcz0⟩) ?_))))))))))
   rintro i w10 ⟨hi0, hEi, cs, hcs, hcz⟩;refine zi (srx (mvx rfl (mvx rfl (zb rfl (yi Try.underlying22 rfl (zb rfl (yl rfl rfl (rnx (ym rfl (fun hc => ?_) (fun hc => ?_))))))))))
   ·
    have hc := of_decide_eq_true hc;have hlt : i < T.length := by omega
    refine zp (zd (zi (zu (zz (mvx rfl (mvx rfl (zb rfl (zk (j := i) Try.underlying22 qi rfl rfl rfl hlt (qd (gj qi rfl rfl hcs rfl rfl (by omega) ?_))))))))));rintro wT BT ET;refine yp (zh (zd (zz (mvx rfl (zb rfl (yc rfl rfl (zo (by omega)) (avx rfl (yp ?_))))))))
    exact yo (i + 1) (by show T.length - (i + 1) < T.length - i; omega) ⟨rfl, rfl, rfl, rfl, rfl, rfl, rfl, rfl, trivial⟩ (⟨hlt, hEi.step ET (fun q hq => Or.inl hq), _, BT, by rw [jd]; exact hcz⟩)
   ·
    have hEz := hE11.step hEi (fun q hq => Or.inl (show w.heap.size ≤ q by have := qp hq; omega));have hM5 := hM4.ext hEi (fun h => h6m (qp h).symm) (fun h => h6W (qp h).symm);have hrz := hr.low ⟨hEz, fun q hq => Nat.le_trans hn hq⟩;obtain ⟨wu4, hwu4⟩ : ∃ wu4, wu4 = w10 := ⟨_, rfl⟩;subst hwu4;obtain ⟨_, _, hcap, _, _⟩ := hM5.cap
    refine qb (zm (zm (yb (zd (zi (srx (mvx rfl (zb rfl (qj rfl rfl ?_)))))))));by_cases he1 : er1 = 0
    ·
     refine zt 51 (.bool false) rfl ((by rw [he1]; rfl : (.bool (er1 != 0) : Value) = _)) (mvx rfl (onx rfl (ze rfl (onx rfl (qj rfl rfl ?_)))));by_cases he2 : er2 = 0
     ·
      refine zt 54 (.bool false) rfl ((by rw [he2]; rfl : (.bool (er2 != 0) : Value) = _)) ?_;obtain ⟨hT2, hJ1⟩ := hI1 he1;obtain ⟨_, hJ2⟩ := hI2 he2;have hJ1b := hJ1.agree hG2.agree hG2.top hG2.form.len;have hMs := hM5.mem
      refine zb rfl (zr rfl rfl (rnx (zy rfl (zp (zd (srx (zb rfl (yj Try.underlying24 rfl qz rfl hM5.mb rfl (mvx rfl (zb rfl (zq en17 rfl ((oy _ (some ⟨gW, 0, none⟩) W2 T cap _ t2 x1 hMs hx1 hJ1b).mono ?_))))))))))));rintro e w11 ⟨⟨ga, rfl, Ba, Ga⟩, hb⟩;refine ⟨_, rfl, ?_⟩;have E12 := Ext.of_below hb No
      have hM6 := hM5.ext E12 (fun h => h) (fun h => h);have hga := Ba.lt;refine mvx rfl (zb rfl (zf rfl rfl (zb rfl (zf rfl rfl (avx rfl (anx rfl (srx (zb rfl (yj Try.underlying24 rfl qz rfl hM6.mb rfl (mvx rfl (zb rfl (zq en17 rfl ((oy _ (some ⟨gW, 0, none⟩) W2 T cap _ t2 x2 hM6.mem hx2 hJ2).mono ?_)))))))))))))
      rintro e w12 ⟨⟨gb, rfl, Bb, Gb⟩, hb⟩;refine ⟨_, rfl, ?_⟩;have E13 := E12.trans (Ext.of_below hb No);have hE13 := hEz.step E13 (fun _ h => h.elim);have Ba2 := Ba.ext (Ext.of_below hb No) (fun h => h.elim);have hgb := Bb.lt;have hwa : WordsA _ _ (some ⟨ga, 0, none⟩) T := jl Ba2 Ba2.lt (by omega) hr.in_
      have hwb : WordsA _ _ (some ⟨gb, 0, none⟩) T := jl Bb Bb.lt (by omega) hr.in_
      refine mvx rfl (zb rfl (zf rfl rfl (zb rfl (zf rfl rfl (avx rfl (anx rfl (zi (srx (mvx rfl (zb rfl (qj rfl rfl (mvx rfl (onx rfl (ze rfl (onx rfl (qj rfl rfl (zb rfl (zr rfl rfl (mvx rfl (onx rfl (ze rfl (onx rfl (ze rfl (onx rfl (zq en18 rfl ((xi _ (some ⟨ga, 0, none⟩) B T.length d _ _ T hwa (hrz.no E13)).mono ?_))))))))))))))))))))))))))
      rintro e w13 ⟨rfl, hb⟩;refine ⟨_, rfl, ?_⟩;have E14 := Ext.of_below hb No;refine onx rfl (qe rfl (zb rfl (zr rfl rfl (mvx rfl (onx rfl (ze rfl (onx rfl (ze rfl (onx rfl (zq en18 rfl ((xi _ (some ⟨gb, 0, none⟩) B T.length d _ _ T (hwb.no E14) ((hrz.no E13).no E14)).mono ?_)))))))))));rintro e w14 ⟨rfl, hb⟩;refine ⟨_, rfl, ?_⟩
      have E15 := E14.trans (Ext.of_below hb No);have hM7 := hM5.ext (E13.trans E15) (fun h => h) (fun h => h);refine onx rfl (qe rfl (zb rfl (zr rfl rfl (mvx rfl (onx rfl (yj Try.underlying24 rfl qz rfl hM7.mb rfl (onx rfl (zq en16 rfl ((zax _ (some ⟨gW, 0, none⟩) W2 l2 cap _ t2 hM7.mem hG2.form hcap).mono ?_)))))))));rintro e w15 ⟨rfl, hb⟩
      refine ⟨_, rfl, ?_⟩;have E16 := E15.trans (Ext.of_below hb No);have hM8 := hM5.ext (E13.trans E16) (fun h => h) (fun h => h)
      refine onx rfl (qj rfl rfl (zb rfl (zr rfl rfl (rnx (zy rfl (zp (zd (srx (mvx rfl (mvx rfl (mvx rfl (zb rfl (zc Try.underlying24 rfl qv (by decide) rfl (zb rfl (zg Try.underlying22 rfl rfl hM8.mb rfl (zb rfl (qn (cs := #[.slice (some ⟨ga, 0, none⟩) T.length T.length, .slice (some ⟨gb, 0, none⟩) T.length T.length, .slice (some ⟨g6, 0, none⟩) T.length (T.length + 6), .slice (some ⟨gW, 0, none⟩) W2.length cap]) Try.underlying50 qv zr22 (by decide) rfl (by rw [vc]; rfl) ?_)))))))))))))))))
      rintro gl wl Bl El Gl;have E17 := E16.trans El;have hM9 := hM5.ext (E13.trans E17) (fun h => h) (fun h => h);obtain ⟨curW, hBW, _, hcm, hcs9⟩ := hM9.cap;have Ba9 := Ba2.ext E17 (fun h => h.elim);have Bb9 := Bb.ext E17 (fun h => h.elim);have B69 := hcs.ext (E13.trans E17) (fun h => h.elim);have hl6z := hcs.lt;have hlWz := hM5.lt;have hs12 := E12.size;have hs13 := E13.size
      have hs16 := E16.size;have hW2 := hM5.most
      refine zb rfl (zq en19 rfl ((apart_any [((some ⟨ga, 0, none⟩ : Option Addr), T.length, T.length), (some ⟨gb, 0, none⟩, T.length, T.length), (some ⟨g6, 0, none⟩, T.length, T.length + 6), (some ⟨gW, 0, none⟩, W2.length, cap)] gl 0 4 _ (fun r hr => by simp only [List.mem_cons, List.not_mem_nil, or_false] at hr; rcases hr with rfl | rfl | rfl | rfl; exact Or.inr ⟨ga, _, rfl, Ba9, Nat.le_refl _, by show T.length ≤ maxLen; unfold maxLen; omega, by show _ = T.length; rw [List.size_toArray, vz]⟩; exact Or.inr ⟨gb, _, rfl, Bb9, Nat.le_refl _, by show T.length ≤ maxLen; unfold maxLen; omega, by show _ = T.length; rw [List.size_toArray, vz]⟩; exact Or.inr ⟨g6, _, rfl, B69, by show T.length ≤ T.length + 6; omega, by show T.length + 6 ≤ maxLen; unfold maxLen; omega, hcz⟩; exact Or.inr ⟨gW, _, rfl, hBW, hcap, hcm, hcs9⟩) (single4 (by omega)) (fun h => by have := bk4 h; omega) (fun j hj => by rw [Nat.zero_add, Bl.cell]; have hj4 : j < 4 := hj; match j, hj4 with | 0, _ => rfl | 1, _ => rfl | 2, _ => rfl | 3, _ => rfl) (by show 4 ≤ 1000; decide) (fun r hr => by simp only [List.mem_cons, List.not_mem_nil, or_false] at hr; rcases hr with rfl | rfl | rfl | rfl; (show T.length + 48 ≤ _; omega); (show T.length + 48 ≤ _; omega); (show T.length + 48 ≤ _; omega); (show W2.length + 48 ≤ _; omega))).mono ?_))
      rintro e w16 ⟨rfl, E18⟩;refine ⟨_, rfl, (anx rfl (zx (zw (rs := [.tmp 4]) (vs := [_]) rfl ⟨rfl, trivial⟩ ?_)))⟩;exact ⟨rfl, ((hE13.step E17 (fun _ h => h.elim)).step E18 (fun q hq => Or.inl (show w.heap.size ≤ q by have := bk4 hq; omega))).below (fun _ h => h)⟩
     ·
      refine zt 54 (.bool true) rfl ((by congr 1; rw [bne_iff_ne]; exact he2 : (.bool (er2 != 0) : Value) = _)) (zb rfl (zr rfl rfl (rnx (yw rfl (srx (zb rfl (yj Try.underlying24 rfl qz rfl hM5.mb rfl (zb rfl (zq en16 rfl ((zax _ (some ⟨gW, 0, none⟩) W2 l2 cap _ t2 hM5.mem hG2.form hcap).mono ?_))))))))));rintro e w17 ⟨rfl, hb⟩
      refine ⟨_, rfl, (zb rfl (yz rfl rfl (anx rfl (zx (zn (zw (rs := [.tmp 4]) (vs := [_]) rfl ⟨rfl, trivial⟩ ?_))))))⟩;exact ⟨rfl, (hEz.step (Ext.of_below hb No) (fun _ h => h.elim)).below (fun _ h => h)⟩
    ·
     refine zt 51 (.bool true) rfl ((by congr 1; rw [bne_iff_ne]; exact he1 : (.bool (er1 != 0) : Value) = _)) (mvx rfl (zb rfl (zl rfl (zb rfl (zl rfl (zb rfl (yh rfl rfl (rnx (yw rfl (srx (zb rfl (yj Try.underlying24 rfl qz rfl hM5.mb rfl (zb rfl (zq en16 rfl ((zax _ (some ⟨gW, 0, none⟩) W2 l2 cap _ t2 hM5.mem hG2.form hcap).mono ?_)))))))))))))))
     rintro e w18 ⟨rfl, hb⟩;refine ⟨_, rfl, (zb rfl (yz rfl rfl (anx rfl (zx (zn (zw (rs := [.tmp 4]) (vs := [_]) rfl ⟨rfl, trivial⟩ ?_))))))⟩;exact ⟨rfl, (hEz.step (Ext.of_below hb No) (fun _ h => h.elim)).below (fun _ h => h)⟩
  ·
   have hbc : b2 = false := by cases b2 <;> simp_all
   refine qk 22 (.bool true) rfl ((by rw [hbc]; rfl : (.bool (!b2) : Value) = _)) (yw rfl (srx (anx rfl (zx (zn (zw (rs := [.tmp 4]) (vs := [_]) rfl ⟨rfl, trivial⟩ ?_))))));exact ⟨rfl, E4.toBelow⟩
 ·
  have hbb : b = false := by cases b <;> simp_all
  refine qk 18 (.bool true) rfl ((by rw [hbb]; rfl : (.bool (!b) : Value) = _)) (yw rfl (srx (anx rfl (zx (zn (zw (rs := [.tmp 4]) (vs := [_]) rfl ⟨rfl, trivial⟩ ?_))))));exact ⟨rfl, E3.toBelow⟩
end
end Go.Proofs.Ytjhmifebmplahaa
