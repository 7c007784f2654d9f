/- Texts of this claim. -/
import Derived.Test.YtaleikoeklemmaaGreatDoorA10
import Derived.Lib.Builder
import Derived.Lib.AppendStr
namespace Go.Proofs.YtaleikoeklemmaaGreatDoor
open Go.RowKit
set_option maxRecDepth 100000
section
variable {P : Program} {N : Nat} {ops : Array Oper} {Q : Exit → Act → World → Prop} {σ : Env} {w : World} {ty : TypeId} {pos : String} {af : Array Edge} {dst : Option Nat} {Post : Value → World → Prop}
theorem ow_nilP {x y : Operand} {T U e : TypeId} {a : Option Addr} (hd : P.underlying T = some (.pointer e)) (hx : ev σ x = some (.pointer a)) (hy : ev σ y = some (.pointer none)) (k : Post (.bool a.isNone) w) : OW P N ops Q ⟨dst, .binOp .eql T x y U, ty, pos, af, none⟩ σ w Post :=
 yp (fun ρ ha => by
  have e1 : (Op.equal T (.pointer a) (.pointer none)).run P w = .ok a.isNone w := by
   unfold Op.equal;rw [show Op.maxDepth = 9999 + 1 from rfl, Op.equalIn];simp only [Sem.run_bind, run_underlying hd, Result.andThen_ok]
   cases a <;> rfl
  simp only [execOp, ha hx, ha hy, eqGuard, binOp]
  simp [e1, go_sem]) k
theorem ow_samePP {x y : Operand} {T U e : TypeId} {a : Addr} {n : Nat} (hd : P.underlying T = some (.pointer e)) (hi : (P.info? e).map (·.size) = some n) (hx : ev σ x = some (.pointer (some a))) (hy : ev σ y = some (.pointer (some a))) (k : Post (.bool false) w) : OW P N ops Q ⟨dst, .binOp .neq T x y U, ty, pos, af, none⟩ σ w Post :=
 yp (fun ρ ha => by
  obtain ⟨j, hj, _⟩ := Option.map_eq_some_iff.1 hi;have e1 := Lib.run_neq_ptr_same (w := w) (P := P) a hd hj;simp only [execOp, ha hx, ha hy, eqGuard]
  simp [e1, go_sem]) k
theorem ow_toU {x : Operand} {T U t e : TypeId} {g n : Nat} {cs : Array Value} (hs : P.underlying T = some (.pointer t)) (hd : P.underlying U = some .unsafePointer) (hi : (P.info? t).map (·.size) = some n) (hn : n ≠ 0) (hx : ev σ x = some (.pointer (some ⟨g, 0, none⟩))) (hb : Blk w g e cs) (h0 : 0 < cs.size) (k : Post (.pointer (some ⟨g, 0, none⟩)) w) : OW P N ops Q ⟨dst, .convert T U x, ty, pos, af, none⟩ σ w Post :=
 yp (fun ρ ha => by
  obtain ⟨j, hj, hjs⟩ := Option.map_eq_some_iff.1 hi;have e1 := Lib.run_to_unsafe (w := w) (e := e) (cells := cs.size) ⟨g, 0, none⟩ hs hd hj (by rw [hjs]; exact hn) (by unfold World.shape?; rw [show w.heap[g]? = _ from hb]) h0;simp only [execOp, ha hx]
  simp [e1, go_sem]) k
theorem ow_fromU {x : Operand} {T U u e : TypeId} {g n : Nat} {cs : Array Value} (hs : P.underlying T = some .unsafePointer) (hd : P.underlying U = some (.pointer u)) (hi : (P.info? u).map (·.size) = some n) (hx : ev σ x = some (.pointer (some ⟨g, 0, none⟩))) (hb : Blk w g e cs) (hl : liesAt P P.depth e (cs.size / P.cellsOf e) 0 u 1 = true) (k : Post (.pointer (some ⟨g, 0, none⟩)) w) : OW P N ops Q ⟨dst, .convert T U x, ty, pos, af, none⟩ σ w Post :=
 yp (fun ρ ha => by
  obtain ⟨j, hj, _⟩ := Option.map_eq_some_iff.1 hi;have e1 := Lib.run_from_unsafe (w := w) (e := e) (cells := cs.size) ⟨g, 0, none⟩ hs hd hj (by unfold World.shape?; rw [show w.heap[g]? = _ from hb]) hl;simp only [execOp, ha hx]
  simp [e1, go_sem]) k
theorem grow_cap {n c : Nat} (h : n ≤ 1000000) (hc : c < n) : Builtin.nextslicecap n c ≤ 281474976710656 := Nat.le_trans (nextslicecap_le hc) (by omega)
theorem ow_appendStr {T U e : TypeId} {x y : Operand} {base n n' : Nat} {v : Value} {xs : List Value} {s : ByteArray} (hd : P.underlying T = some (.slice e)) (hu : P.underlying U = some .string) (hi : InfoIs P e (.int .u8 0) 1 1) (hx : ev σ x = some v) (hown : w.ownsRow base e 1 v n xs) (h0 : 0 < n) (hy : ev σ y = some (.string s)) (hn : n + s.size = n') (h63 : n' ≤ 1000000) (hbase : base ≤ w.heap.size)
 (k : ∀ A' c' w', w'.ownsRow base e 1 (.slice A' n' c') n' (xs ++ Lib.strCells s) → Ext (Mut [v.ownBlock]) w w' → (∀ q, (Value.slice A' n' c').ownBlock = some q → v.ownBlock = some q ∨ w.heap.size ≤ q) → Post (.slice A' n' c') w') : OW P N ops Q ⟨dst, .call ⟨.builtin .append, #[x, y], #[T, U]⟩, ty, pos, af, none⟩ σ w Post := by
 subst hn;obtain ⟨i, hi1, hi2⟩ := Option.map_eq_some_iff.1 hi;simp only [Prod.mk.injEq] at hi2
 obtain ⟨hz, hs, hby⟩ := hi2;obtain ⟨v', w', hrun, h2, h3, _⟩ := Lib.run_append_own_string (P := P) w base T U ty e i hd hu hi1 hz hs hby v n xs hown s (by unfold maxLen; omega) (by omega) hbase;obtain ⟨A', c', rfl⟩ := owns_shape h2;have hN : ∀ q, (Value.slice A' (n + s.size) c').ownBlock = some q → v.ownBlock = some q ∨ w.heap.size ≤ q := fun q hq => by
  rcases hown.2 with ⟨hv, hn0⟩ | ⟨g, cap, cur, rfl, hbg, hg, hnc, hcm, hcs, htake⟩
  · omega
  · by_cases hroom : n + s.size ≤ cap
    · have h4 := Lib.run_append_room_string (P := P) w T U ty e i hd hu hi1 hs g n cap cur hg s hroom (by omega);rw [hrun] at h4;injection h4 with h4 _
      rw [h4] at hq;exact Or.inl hq
    · have hl : (cur.toList.take (n * 1)).length = n * i.size := by
       rw [List.length_take, Array.length_toList, hs]; omega
      have h4 := Lib.run_append_grow_string (P := P) w T U ty e i (.int .u8 0) hd hu hi1 hz ⟨g, 0, none⟩ n cap (cur.toList.take (n * 1)) hl (fun j u hj => by
       rw [Addr.add_eq];rw [List.getElem?_take] at hj;split at hj
       · rw [Array.getElem?_toList] at hj;have h5 := (show Blk w g e cur from hg).cell j;simp only [Nat.zero_add] at h5 ⊢
         exact h5.trans hj
       · cases hj) s (by omega) (by omega) (by
       rw [hby, Nat.mul_one];exact grow_cap (by omega) (by omega))
      rw [hrun] at h4;injection h4 with h4 _
      rw [h4] at hq;have hq : some w.heap.size = some q := hq;injection hq with hq
      exact Or.inr (by omega)
 refine yp (v := _) (w' := w') (fun ρ ha => ?_) (k A' c' w' h2 (Ext.grown h3) hN);simp only [execOp, resolve, invoke, builtin, Sem.run_bind, Sem.run_pure, Result.andThen_ok, List.map_toArray, List.map_cons, List.map_nil, ha hx, ha hy, hrun]
end
end Go.Proofs.YtaleikoeklemmaaGreatDoor
namespace Go.Proofs.YtaleikoeklemmaaGreatDoor
open Go.RowKit
set_option maxRecDepth 100000
attribute [local irreducible] OW RS
theorem ex_noesc : Ext_ Tryz.prog 116 Extern.AbiNoEscape.same := ⟨_, Tryz.func116, by kernel_rfl, by kernel_rfl, by kernel_rfl, by kernel_rfl⟩
theorem bld_size : (Tryz.prog.info? 65).map (·.size) = some 2 := by kernel_rfl
theorem bld_lies : liesAt Tryz.prog Tryz.prog.depth 65 (2 / Tryz.prog.cellsOf 65) 0 65 1 = true := by kernel_rfl
def Bld (w : World) (lo b : Nat) (p : Value) (l : List UInt8) (F : Nat → Prop) : Prop := ∃ A c, Blk w b 65 #[p, .slice A l.length c] ∧ w.ownsRow lo 5 1 (.slice A l.length c) l.length (Lib.byteCells l) ∧ ∀ q, (Value.slice A l.length c).ownBlock = some q → F q
def Adr (b : Nat) (p : Value) : Prop := p = .pointer none ∨ p = .pointer (some ⟨b, 0, none⟩)
theorem Bld.lib {w : World} {lo b : Nat} {p : Value} {l : List UInt8} {F : Nat → Prop} (h : Bld w lo b p l F) (hp : Adr b p) (hb : lo ≤ b) : Lib.IsBuilder 65 5 lo b (Lib.byteCells l) w := by
 obtain ⟨A, c, h1, h2, _⟩ := h;have hl : (Lib.byteCells l).length = l.length := by unfold Lib.byteCells; simp
 have hne : (Value.slice A l.length c).ownBlock ≠ some b := fun e => by
  obtain ⟨cur, h3⟩ := owns_row h2 e;have h4 := h1.symm.trans h3;injection h4 with h4
  injection h4 with _ h4
  exact absurd h4 (by decide)
 rcases hp with rfl | rfl
 · exact Or.inl ⟨hb, _, h1, by rw [hl]; exact h2, hne⟩
 · exact Or.inr ⟨hb, _, h1, by rw [hl]; exact h2, hne⟩
theorem Bld.no {w w' : World} {lo b : Nat} {p : Value} {l : List UInt8} {F : Nat → Prop} (h : Bld w lo b p l F) (E : Ext No w w') : Bld w' lo b p l F := by
 obtain ⟨A, c, h1, h2, h3⟩ := h;exact ⟨A, c, h1.ext E (fun h => h.elim), gy h2 E (fun _ _ h => h.elim), h3⟩
section
variable (w : World) (lo b : Nat) (p : Value) (hp : Adr b p)
theorem bcheck1 (s0 : Value) (hb : Blk w b 65 #[.pointer none, s0]) : Calls Tryz.prog 76 #[.pointer (some ⟨b, 0, none⟩)] w fun e w' => e = .returned (.tuple #[]) ∧ Blk w' b 65 #[.pointer (some ⟨b, 0, none⟩), s0] ∧ Ext (Mut [some b]) w w' := by
 refine zr Tryz.func76 rfl Tryz.ntmps76 rfl (srx (mvx rfl (za rfl (jk rfl (za rfl (zb Tryz.underlying65 rfl sz63 (by decide) rfl (za rfl (zf Tryz.underlying63 rfl rfl hb rfl (za rfl (ow_nilP Tryz.underlying63 rfl rfl (rnx (yc rfl (yo (mvx rfl (mvx rfl (za rfl (ow_toU Tryz.underlying63 Tryz.underlying124 bld_size (by decide) rfl hb (Nat.zero_lt_succ 1) (za rfl (ow_ext (args := [.pointer (some ⟨b, 0, none⟩)]) (v := .pointer (some ⟨b, 0, none⟩)) ex_noesc rfl (Lib.run_noEscape _ _) (za rfl (ow_fromU Tryz.underlying124 Tryz.underlying63 bld_size rfl hb bld_lies (za rfl (jk rfl (za rfl (zb Tryz.underlying65 rfl sz63 (by decide) rfl (qo (zwk (cs' := #[.pointer (some ⟨b, 0, none⟩), s0]) sz63 rfl rfl hb rfl rfl (Nat.le_of_ble_eq_true rfl) rfl ?_)))))))))))))))))))))))))))
 rintro wB B2 E2;refine qz (ew_end rfl ?_);exact ⟨rfl, B2, E2⟩
theorem bcheck2 (s0 : Value) (hb : Blk w b 65 #[.pointer (some ⟨b, 0, none⟩), s0]) : Calls Tryz.prog 76 #[.pointer (some ⟨b, 0, none⟩)] w fun e w' => e = .returned (.tuple #[]) ∧ Blk w' b 65 #[.pointer (some ⟨b, 0, none⟩), s0] ∧ Ext (Mut [some b]) w w' := by
 refine zr Tryz.func76 rfl Tryz.ntmps76 rfl (srx (mvx rfl (za rfl (jk rfl (za rfl (zb Tryz.underlying65 rfl sz63 (by decide) rfl (za rfl (zf Tryz.underlying63 rfl rfl hb rfl (za rfl (ow_nilP Tryz.underlying63 rfl rfl (rnx (zp rfl (srx (mvx rfl (za rfl (jk rfl (za rfl (zb Tryz.underlying65 rfl sz63 (by decide) rfl (za rfl (zf Tryz.underlying63 rfl rfl hb rfl (mvx rfl (za rfl (ow_samePP Tryz.underlying63 bld_size rfl rfl (rnx (zp rfl (zq (ew_end rfl ?_)))))))))))))))))))))))))))
 exact ⟨rfl, hb, Ext.refl _ _⟩
include hp
theorem bcheck (s0 : Value) (hb : Blk w b 65 #[p, s0]) : Calls Tryz.prog 76 #[.pointer (some ⟨b, 0, none⟩)] w fun e w' => e = .returned (.tuple #[]) ∧ Blk w' b 65 #[.pointer (some ⟨b, 0, none⟩), s0] ∧ Ext (Mut [some b]) w w' := by
 rcases hp with rfl | rfl
 · exact bcheck1 w b s0 hb
 · exact bcheck2 w b s0 hb
variable (l : List UInt8) (hl : l.length ≤ 900000) (F : Nat → Prop) (h : Bld w lo b p l F) (hbl : lo ≤ b) (hF : ∀ q, w.heap.size ≤ q → F q)
include hl h hbl hF
theorem xw (x : UInt8) : Calls Tryz.prog 44 #[.pointer (some ⟨b, 0, none⟩), .int .u8 ((x.toNat : Nat) : Int)] w fun e w' => e = .returned .nilIface ∧ Bld w' lo b (.pointer (some ⟨b, 0, none⟩)) (l ++ [x]) F ∧ Ext (fun q => q = b ∨ F q) w w' := by
 obtain ⟨A, c, hB, hO, hFb⟩ := h;have hlt := hB.lt;refine zr Tryz.func44 rfl Tryz.ntmps44 rfl (srx (anx rfl (srx (mvx rfl (za rfl (zd en76 rfl ((bcheck _ b p hp _ hB).mono ?_)))))));rintro e w1 ⟨rfl, hB2, hE⟩;refine ⟨_, rfl, ?_⟩;have hO2 := kg hO hB (by decide) hE;have hs := hE.size
 refine rnx (srx (mvx rfl (mvx rfl (za rfl (jk rfl (za rfl (zb Tryz.underlying65 rfl sz43 (by decide) rfl (za rfl (zf Tryz.underlying43 rfl rfl hB2 rfl (mvx rfl (za rfl (ow_buildSlice (cs := #[.int .u8 ((x.toNat : Nat) : Int)]) Tryz.underlying43 sz5 zr5 (by decide) rfl (by rw [map_range_]; rfl) ?_))))))))))));rintro gx wI Bx E17 Gx
 have O17 := gy hO2 E17 (fun _ _ h => h.elim);have B17 := hB2.ext E17 (fun h => h.elim);have hs17 := E17.size
 refine za rfl (ow_appendS (n' := (l ++ [x]).length) (xs' := Lib.byteCells (l ++ [x])) Tryz.underlying43 inf5 rfl (by decide) rfl O17 rfl (reads_rowN Bx Bx.lt rfl) (by simp [Value.oneCell']) (by rw [List.length_append]; rfl) (by unfold Lib.byteCells; rw [List.map_append]; rfl) (by rw [List.length_append]; unfold maxLen; simp; omega) (by rw [List.length_append]; simp; omega) (by omega) ?_)
 rintro A5 c5 wJ O18 E18 N18;have B18 := blk_other B17 O17 (by decide) E18;refine za rfl (jk rfl (za rfl (zb Tryz.underlying65 rfl sz43 (by decide) rfl (qo (zwk (cs' := #[.pointer (some ⟨b, 0, none⟩), .slice A5 (l ++ [x]).length c5]) sz43 rfl rfl B18 rfl rfl (Nat.le_of_ble_eq_true rfl) rfl ?_)))));rintro wK B19 E19
 have O19 := kg O18 B18 (by decide) E19;refine rnx (srx (anx rfl (zm (zl (rs := [.tmp 4]) (vs := [_]) rfl ⟨rfl, trivial⟩ ?_))))
 exact ⟨rfl, ⟨A5, c5, B19, O19, fun q hq => (N18 q hq).elim (hFb q) (fun h => hF q (by omega))⟩, (((hE.mono (Y := fun q => q = b ∨ F q) (fun q hq _ => Or.inl (zaz hq))).step E17 (fun _ h => h.elim)).step E18 (fun q hq => Or.inl (Or.inr (hFb q (mut_one hq))))).step E19 (fun q hq => Or.inl (Or.inl (zaz hq)))⟩
theorem ydv (s : ByteArray) (hs1 : s.size ≤ 1000) (hl0 : 0 < l.length) : Calls Tryz.prog 45 #[.pointer (some ⟨b, 0, none⟩), .string s] w fun e w' => e = .returned (.tuple #[.int .i64 ((s.size : Nat) : Int), .nilIface]) ∧ Bld w' lo b (.pointer (some ⟨b, 0, none⟩)) (l ++ s.data.toList) F ∧ Ext (fun q => q = b ∨ F q) w w' := by
 obtain ⟨A, c, hB, hO, hFb⟩ := h;have hlt := hB.lt;have hsl : s.data.toList.length = s.size := by rw [Array.length_toList]; rfl
 refine zr Tryz.func45 rfl Tryz.ntmps45 rfl (srx (avx rfl (anx rfl (srx (mvx rfl (za rfl (zd en76 rfl ((bcheck _ b p hp _ hB).mono ?_))))))));rintro e w1 ⟨rfl, hB2, hE⟩;refine ⟨_, rfl, ?_⟩;have hO2 := kg hO hB (by decide) hE;have hs := hE.size
 refine rnx (srx (mvx rfl (mvx rfl (za rfl (jk rfl (za rfl (zb Tryz.underlying65 rfl sz43 (by decide) rfl (za rfl (zf Tryz.underlying43 rfl rfl hB2 rfl (mvx rfl (za rfl (ow_appendStr (n' := (l ++ s.data.toList).length) Tryz.underlying43 Tryz.underlying9 inf5 rfl hO2 hl0 rfl (by rw [List.length_append, hsl]) (by rw [List.length_append, hsl]; omega) (by omega) ?_))))))))))))
 rintro A5 c5 wJ O18 E18 N18;have O18 : wJ.ownsRow lo 5 1 (.slice A5 (l ++ s.data.toList).length c5) (l ++ s.data.toList).length (Lib.byteCells (l ++ s.data.toList)) := by
  have e : Lib.byteCells (l ++ s.data.toList) = Lib.byteCells l ++ Lib.strCells s := by unfold Lib.byteCells Lib.strCells; rw [List.map_append]
  rw [e]; exact O18
 have B18 := blk_other hB2 hO2 (by decide) E18;refine za rfl (jk rfl (za rfl (zb Tryz.underlying65 rfl sz43 (by decide) rfl (qo (zwk (cs' := #[.pointer (some ⟨b, 0, none⟩), .slice A5 (l ++ s.data.toList).length c5]) sz43 rfl rfl B18 rfl rfl (Nat.le_of_ble_eq_true rfl) rfl ?_)))));rintro wK B19 E19;have O19 := kg O18 B18 (by decide) E19
 refine rnx (srx (mvx rfl (za rfl (zcv Tryz.underlying9 rfl (avx rfl (anx rfl (zm (zl (rs := [.tmp 4, .tmp 5]) (vs := [_, _]) rfl ⟨rfl, rfl, trivial⟩ ?_))))))))
 exact ⟨rfl, ⟨A5, c5, B19, O19, fun q hq => (N18 q hq).elim (hFb q) (fun h => hF q (by omega))⟩, ((hE.mono (Y := fun q => q = b ∨ F q) (fun q hq _ => Or.inl (zaz hq))).step E18 (fun q hq => Or.inl (Or.inr (hFb q (mut_one hq))))).step E19 (fun q hq => Or.inl (Or.inl (zaz hq)))⟩
end
end Go.Proofs.YtaleikoeklemmaaGreatDoor
