/- The walk of the law WholeKeeps. -/
import Derived.Test.YteggjfmcpodepaaDoorK14
namespace Go.Proofs.YteggjfmcpodepaaDoor
open Go.RowKit
set_option maxRecDepth 100000
theorem Roomy.nums {w : World} {g : Nat} {xs : List Nat} (h : Roomy w g xs) (hb : ∀ k, nth xs k < 18446744073709551616) : Nums w (some ⟨g, 0, none⟩) xs :=
  ⟨hb, fun _ => ⟨g, 0, rfl, by obtain ⟨cs, h1, _⟩ := h.blk; exact h1.lt, fun k hk => by
    rw [Nat.zero_add, h.cell (by omega), nth_left hk]⟩⟩
theorem Roomy.lt {w : World} {g : Nat} {xs : List Nat} (h : Roomy w g xs) : g < w.heap.size := by obtain ⟨cs, h1, _⟩ := h.blk; exact h1.lt
theorem Per.roomy {X : Nat → Prop} {w w2 : World} {g base : Nat} {xs : List Nat} (hx : ∀ k, X k → k < w.heap.size) (hb : Roomy w2 g xs) (hg : w.heap.size ≤ g) (hbase : base ≤ w.heap.size) : Per X w2 (fun b => Roomy b g xs ∧ base ≤ g) := fun b hE =>
  ⟨hb.extX hE (fun hX => by have := hx _ hX; omega), by omega⟩
theorem nums_nil {w : World} {A : Option Addr} : Nums w A [] := ⟨fun k => by rw [nth_nil]; decide, fun h => absurd h (by decide)⟩
theorem sep_in {ga : Nat} {zs : List Ans} {V : Int} {A : Option Addr} {c : Nat} (h : Sep ((some ga :: zs.map blkOf) ++ [A.map (·.block)])) : Sep (some ga :: (zs ++ [(V, A, c)]).map blkOf) := by
  rw [List.map_append]; exact h
theorem sep_in2 {ga : Nat} {zs : List Ans} {V U : Int} {A B : Option Addr} {c d : Nat} (h : Sep ((some ga :: zs.map blkOf) ++ [A.map (·.block)] ++ [B.map (·.block)])) : Sep (some ga :: ((zs ++ [(V, A, c)]) ++ [(U, B, d)]).map blkOf) := by
  rw [List.map_append, List.map_append]; exact h
theorem pair_cells {w : World} {g : Nat} {l : List Ans} {j : Nat} {a : Ans} (h : Blk w g 24 (l.flatMap ansB).toArray) (ha : l[j]? = some a) : ∀ (i : Nat) (v : Value), (#[.bool (decide (a.1 < 0)), .slice a.2.1 (limbs a.1).length a.2.2] : Array Value)[i]? = some v → w.cell? ((⟨g, 0 + j * 2, none⟩ : Addr).add i) = some v := by
  intro i v hv
  obtain ⟨h1, h2⟩ := flat_at ha
  rw [Addr.add_eq, h.cell, Nat.zero_add, Nat.mul_comm j 2]
  rcases i with _ | _ | i
  · simp at hv; subst hv; simpa using h1
  · simp at hv; subst hv; simpa [ansS] using h2
  · simp at hv
theorem app8 {α : Type} (l : List α) (a b c d e f g h : α) : l ++ [a] ++ [b] ++ [c] ++ [d] ++ [e] ++ [f] ++ [g] ++ [h] = l ++ [a, b, c, d, e, f, g, h] := by simp
theorem take_next {l : List Ans} {j : Nat} {a : Ans} (h : l[j]? = some a) : l.take (j + 1) = l.take j ++ [a] := by rw [List.take_add_one, h]; rfl
theorem Per.roomy2 {X : Nat → Prop} {w w2 : World} {g base ga : Nat} {xs : List Nat} (hx : ∀ k, X k → k < w.heap.size) (hb : Roomy w2 g xs) (hg : w.heap.size ≤ g) (hbase : base ≤ w.heap.size) (ha : ga < w.heap.size) : Per X w2 (fun b => Roomy b g xs ∧ base ≤ g ∧ Nat.lt ga g) := fun b hE =>
  ⟨hb.extX hE (fun hX => by have := hx _ hX; omega), by omega, (by omega : ga < g)⟩
def NoB (g : Nat) (us : List Ans) : Prop := ∀ a ∈ us, ∀ q, a.2.1 = some q → q.block ≠ g
theorem NoB.snoc {g : Nat} {us : List Ans} (h : NoB g us) {V : Int} {A : Option Addr} {c n : Nat} {w : World} {xs : List Nat} (hg : g < n) (o : Own w n A c xs) : NoB g (us ++ [(V, A, c)]) := fun a ha q hq => by
  rcases List.mem_append.1 ha with ha | ha
  · exact h a ha q hq
  · simp at ha; subst ha
    have := (o.ge q hq).1
    omega
theorem not_mut1 {r : Option Nat} {g : Nat} (h : r ≠ some g) : ¬ Mut [r] g := fun hX => hX.elim (fun e => h e.symm) (fun e => e.elim)
theorem owns_cellsN {w : World} {base n c size : Nat} {e : TypeId} {A : Option Addr} {xs : List Value} (h : w.ownsRow base e size (.slice A n c) n xs) (h0 : 0 < n) : ∃ g, A = some ⟨g, 0, none⟩ ∧ base ≤ g ∧ g < w.heap.size ∧ ∀ j u, xs[j]? = some u → w.cell? ⟨g, j, none⟩ = some u := by
  rcases h.2 with ⟨_, rfl⟩ | ⟨g, cap, cur, hv, hg, hh, hn, _, hs, ht⟩
  · omega
  · cases hv
    exact ⟨g, rfl, hg, (Array.getElem?_eq_some_iff.1 hh).1, fun j u hj => by have := h.cells (g := g) rfl j u hj; rwa [Addr.add_eq, Nat.zero_add] at this⟩
theorem Per.ans0 {Z : List Int} {B3 : Nat} {zs : List Ans} {w : World} (h : AnsOK Z B3 zs w) : Per No w (AnsOK Z B3 zs) := fun _ hb j a hj =>
  ⟨(h j a hj).1, Ext.ownsX hb (h j a hj).2.1 (fun _ _ hX => hX.elim), (h j a hj).2.2⟩
theorem Per.cellsN {w : World} {g : Nat} {xs : List Value} (h : ∀ j u, xs[j]? = some u → w.cell? ⟨g, j, none⟩ = some u) : Per No w (fun b => ∀ j u, xs[j]? = some u → b.cell? ⟨g, j, none⟩ = some u) := fun _ hb j u hj => hb.atEnd (h j u hj) (fun hX => hX.elim)
theorem pairN {w : World} {g : Nat} {l : List Ans} (h : ∀ j u, (l.flatMap ansB)[j]? = some u → w.cell? ⟨g, j, none⟩ = some u) {j : Nat} {a : Ans} (ha : l[j]? = some a) : ∀ (i : Nat) (v : Value), (#[.bool (decide (a.1 < 0)), .slice a.2.1 (limbs a.1).length a.2.2] : Array Value)[i]? = some v → w.cell? ((⟨g, 0 + j * 2, none⟩ : Addr).add i) = some v := by
  intro i v hv
  obtain ⟨h1, h2⟩ := flat_at ha
  rw [Addr.add_eq, Nat.zero_add, Nat.mul_comm j 2]
  rcases i with _ | _ | i
  · simp at hv; subst hv; exact h _ _ h1
  · simp at hv; subst hv; exact h _ _ h2
  · simp at hv
theorem owns_blk {w : World} {base n c g size : Nat} {e : TypeId} {xs : List Value} (h : w.ownsRow base e size (.slice (some ⟨g, 0, none⟩) n c) n xs) : ∃ cs, Blk w g e cs := by
  rcases h.2 with ⟨h1, _⟩ | ⟨g', cap, cur, hv, _, hh, _⟩
  · cases h1
  · cases hv; exact ⟨cur, hh⟩
theorem sep_ga {ga j : Nat} {zs : List Ans} {a : Ans} (h : Sep (some ga :: zs.map blkOf)) (hj : zs[j]? = some a) (ha : (Value.slice a.2.1 (limbs a.1).length a.2.2).ownBlock = some ga) : False := by
  have h1 : (some ga :: zs.map blkOf)[j + 1]? = some (some ga) := by
    rw [List.getElem?_cons_succ, List.getElem?_map, hj, Option.map_some]
    unfold blkOf
    cases hA : a.2.1 with
    | none => rw [hA] at ha; cases ha
    | some q => rw [hA] at ha; exact congrArg some ha
  have := h 0 (j + 1) ga rfl h1
  omega
theorem pairN0 {w : World} {g : Nat} {l : List Ans} (h : ∀ j u, (l.flatMap ansB)[j]? = some u → w.cell? ⟨g, j, none⟩ = some u) {j : Nat} {a : Ans} (ha : l[j]? = some a) : w.cell? ⟨g, 0 + j * 2 + 0, none⟩ = some (.bool (decide (a.1 < 0))) := by
  rw [Nat.zero_add, Nat.add_zero, Nat.mul_comm j 2]
  exact h _ _ (flat_at ha).1
theorem sameZ (b a : Ans) (w : World) (ha30 : a.1.natAbs < B18 ^ 30) (hx : Nums w b.2.1 (limbs b.1)) (hy : Nums w a.2.1 (limbs a.1)) (e : b.1 = a.1) :
    Calls Tryd.prog 21 #[.agg #[.bool (decide (a.1 < 0)), .slice b.2.1 (limbs b.1).length b.2.2], .agg #[.bool (decide (a.1 < 0)), .slice a.2.1 (limbs a.1).length a.2.2]] w fun e w' => e = .returned (.bool true) ∧ Below w.heap.size w w' := by
  obtain ⟨bv, bA, bc⟩ := b
  obtain ⟨av, aA, ac⟩ := a
  simp only at e
  subst e
  exact sameI bA aA bc ac w ha30 ha30 hx hy rfl
theorem lts_app {l : List (Option Nat)} {w : World} {base c : Nat} {A : Option Addr} {xs : List Nat} (h : Lts l w.heap.size) (o : Own w base A c xs) : Lts (l ++ [A.map (·.block)]) w.heap.size := fun g hg => by
  rcases List.mem_append.1 hg with hg | hg
  · exact h g hg
  · simp only [List.mem_singleton] at hg
    obtain ⟨q, hq, rfl⟩ := Option.map_eq_some_iff.1 hg.symm
    exact (o.ge q hq).2
def OwnsAll (B : Nat) (zz : List Ans) (w : World) : Prop := ∀ a ∈ zz, Own w B a.2.1 a.2.2 (limbs a.1)
theorem owns_all {Z : List Int} {B c d : Nat} {zs zz : List Ans} {w : World} {V U : Int} {A C : Option Addr} (hz : zz = zs ++ [(V, A, c), (U, C, d)]) (h : AnsOK Z B zs w) (o : Own w B A c (limbs V)) (p : Own w B C d (limbs U)) : OwnsAll B zz w := fun a ha => by
  rw [hz] at ha
  rcases List.mem_append.1 ha with ha | ha
  · obtain ⟨j, hj⟩ := List.getElem?_of_mem ha
    exact (h j a hj).2
  · simp at ha
    rcases ha with rfl | rfl
    · exact o
    · exact p
theorem Per.all {B : Nat} {zz : List Ans} {w : World} {r : Option Nat} (h : OwnsAll B zz w) (hr : ∀ {base' c : Nat} {A : Option Addr} {ys : List Nat}, Own w base' A c ys → ∀ q, A = some q → r ≠ some q.block) : Per (Mut [r]) w (OwnsAll B zz) := fun _ hb a ha => by
  have h2 := h a ha
  refine ⟨Ext.ownsX hb h2.1 (fun g hg hX => ?_), h2.2⟩
  cases hA : a.2.1 with
  | none => rw [hA] at hg; cases hg
  | some q =>
    rw [hA] at hg
    obtain rfl : q.block = g := Option.some.inj hg
    rcases hX with hX | hX
    · exact hr h2 q hA hX.symm
    · exact hX.elim
def slOf (a : Ans) : Sl := (a.2.1, (limbs a.1).length, a.2.2)
theorem lane_own {w : World} {B : Nat} {a : Ans} (h : Own w B a.2.1 a.2.2 (limbs a.1)) : Lane w (slOf a) := by
  rcases h.1.2 with ⟨h1, h2⟩ | ⟨g, cap, cur, h1, _, h3, h4, h5, h6, _⟩
  · simp only [Value.slice.injEq] at h1
    exact .inl ⟨h1.1, h2, h1.2.2⟩
  · simp only [Value.slice.injEq] at h1
    obtain ⟨e1, _, e3⟩ := h1
    exact .inr ⟨g, cur, e1, h3, by show (limbs a.1).length ≤ a.2.2; omega, by show a.2.2 ≤ maxLen; omega, by show cur.size = a.2.2; omega⟩
theorem bank_all {B : Nat} {zz : List Ans} {w : World} (h : OwnsAll B zz w) : Bank w (zz.map slOf) := fun r hr => by
  obtain ⟨a, ha, rfl⟩ := List.mem_map.1 hr
  exact lane_own (h a ha)
theorem single_all {ga : Nat} {zz : List Ans} (h : Sep (some ga :: zz.map blkOf)) : Single (zz.map slOf) := by
  rintro b k m ⟨r, hr, hb⟩ ⟨s, hs, hc⟩
  have key : ∀ {k : Nat} {r : Sl}, (zz.map slOf)[k]? = some r → r.1 = some ⟨b, 0, none⟩ → (some ga :: zz.map blkOf)[k + 1]? = some (some b) := fun {k r} hr hb => by
    rw [List.getElem?_map] at hr
    obtain ⟨a, ha, rfl⟩ := Option.map_eq_some_iff.1 hr
    rw [List.getElem?_cons_succ, List.getElem?_map, ha, Option.map_some]
    unfold blkOf
    rw [show a.2.1 = some ⟨b, 0, none⟩ from hb]; rfl
  have := h _ _ _ (key hr hb) (key hs hc)
  omega
theorem not_bank {w : World} {g : Nat} {t : TypeId} {cs : Array Value} {ls : List Sl} (h : Blk w g t cs) (ht : t ≠ 63) (hb : Bank w ls) : ¬ Bk ls g := by
  rintro ⟨k, r, hr, hg⟩
  obtain ⟨cur, h1, _⟩ := (hb r (List.mem_of_getElem? hr)).blk hg
  exact Blk.ne_ h h1 ht rfl
theorem row_all {w : World} {g : Nat} {zz : List Ans} (h : ∀ j u, (zz.map ansS)[j]? = some u → w.cell? ⟨g, j, none⟩ = some u) : ∀ j, j < (zz.map slOf).length → w.cell? ⟨g, 0 + j, none⟩ = some (sl3 (at3 (zz.map slOf) j)) := fun j hj => by
  rw [Nat.zero_add]
  have h1 := at3_get hj
  rw [List.getElem?_map] at h1
  obtain ⟨a, ha, e⟩ := Option.map_eq_some_iff.1 h1
  rw [← e]
  exact h j _ (by rw [List.getElem?_map, ha]; rfl)
theorem bound_all {zz : List Ans} (h : ∀ a ∈ zz, (limbs a.1).length ≤ 30) : ∀ r ∈ zz.map slOf, r.2.1 + 48 ≤ 17592186044416 := fun r hr => by
  obtain ⟨a, ha, rfl⟩ := List.mem_map.1 hr
  have h1 := h a ha
  show (limbs a.1).length + 48 ≤ _
  omega
theorem apart_len (ls : List Sl) (gl ol c : Nat) (w : World) (n : Nat) (hn : ls.length = n) (hB : Bank w ls) (hS : Single ls) (hgl : ¬ Bk ls gl) (hrow : ∀ j, j < ls.length → w.cell? ⟨gl, ol + j, none⟩ = some (sl3 (at3 ls j))) (hlen : n ≤ 1000) (hbd : ∀ r ∈ ls, r.2.1 + 48 ≤ 17592186044416) :
    Calls Tryd.prog 43 #[.slice (some ⟨gl, ol, none⟩) n c] w fun e w' => e = .returned (.bool true) ∧ Ext (Bk ls) w w' := by
  subst hn
  exact apart_any ls gl ol c w hB hS hgl hrow hlen hbd
theorem keep_end {w a b : World} {zz : List Ans} (h : Ext No w a) (e : Ext (Bk (zz.map slOf)) a b) (o : OwnsAll w.heap.size zz a) : Below w.heap.size w b := by
  refine (h.step e fun i hi => ?_).toBelow
  obtain ⟨k, r, hr, hg⟩ := hi
  obtain ⟨x, hx, rfl⟩ := List.mem_map.1 (List.mem_of_getElem? hr)
  exact .inr (((o x hx).ge _ hg).1)
section
variable (n1 n2 : Bool) (A B : Option Addr) (c d : Nat) (xs ys : List Nat) (w : World)
set_option maxHeartbeats 4000000 in
theorem keeps_law (hx : Nums w A xs) (hy : Nums w B ys) (hxl : xs.length * 8 ≤ 140737488351232) (hyl : ys.length * 8 ≤ 140737488351232) :
    Calls Tryd.prog 11 #[.agg #[.bool n1, .slice A xs.length c], .agg #[.bool n2, .slice B ys.length d]] w fun e w' => e = .returned (.bool true) ∧ Below w.heap.size w w' := by
  have hxm := hx.1
  have hym := hy.1
  obtain ⟨Vs, Es, hVs, hs⟩ := two_add n1 n2 xs ys (by omega) (by omega)
  obtain ⟨Vd, Ed, hVd, hd⟩ := two_sub n1 n2 xs ys (by omega) (by omega)
  obtain ⟨Vp, Ep, hVp, hp⟩ := two_mul n1 n2 xs ys (by omega) (by omega)
  obtain ⟨Vq, Vr, Eq, hVq, hVr, hq⟩ := two_div n1 n2 xs ys (by omega) (by omega)
  obtain ⟨Vt, hVt, ht⟩ := one_neg n1 xs (by omega)
  obtain ⟨Vw, Ew, hVw, hw⟩ := one_pow n1 xs (by omega)
  obtain ⟨Vv, Ev, hVv, hv⟩ := two_add n1 false xs [] (by omega) (by decide)
  obtain ⟨Z, hZ⟩ : ∃ Z : List Int, Z = [Vs, Vd, Vp, Vq, Vr, Vt, Vw, Vv] := ⟨_, rfl⟩
  have hZ30 : ∀ (j : Nat) (v : Int), Z[j]? = some v → v.natAbs < B18 ^ 30 := by
    intro j v hj
    rw [hZ] at hj
    have hm := List.mem_of_getElem? hj
    simp only [List.mem_cons, List.not_mem_nil, or_false] at hm
    rcases hm with rfl | rfl | rfl | rfl | rfl | rfl | rfl | rfl <;> assumption
  refine calls_cw Tryd.func11 rfl Tryd.ntmps11 rfl ?_
  have HF : Per (No) w (fun _ => True) := Per.true_
  have LW := Ext.refl (No) w
  have XLW : ∀ q9, (No) q9 → (No) q9 ∨ w.heap.size ≤ q9 := fun _ h => Or.inl h
  have E := Ext.refl (No) w
  replace HF := HF.on E
  replace LW := LW.step E XLW
  replace E := Ext.refl (No) w
  replace HF := HF.and (Per.nums0 hx)
  replace HF := HF.on E
  replace LW := LW.step E XLW
  replace E := Ext.refl (No) w
  replace HF := HF.and (Per.nums0 hy)
  refine cw_seq ?_
  refine cw_region ?_
  refine rs_op rfl (ow_boxB rfl ?_)
  intro gb1 w2 Bb1 Eb1 Gb1
  have Gb1 : _ ≤ gb1 := Nat.le_trans E.size Gb1
  have GLb1 := Nat.le_trans LW.size Gb1
  replace E := E.trans Eb1.no
  clear Eb1
  replace HF := HF.cons (some_ge Gb1)
  replace E := E.cons (some gb1)
  replace XLW := Mut.grow XLW (fun k e => Or.inr (Nat.le_trans LW.size ((some_ge Gb1) k e)))
  replace HF := HF.on E
  replace LW := LW.step E XLW
  have SB : ∀ q9, No q9 → Mut [(some gb1)] q9 := (Mut.skip Mut.nil_)
  replace HF := HF.less SB
  replace XLW := fun k h => XLW k (SB k h)
  clear SB
  replace E := Ext.refl (No) w2
  replace HF := HF.and (Per.blkN Bb1 NotIn.nil)
  clear Bb1
  refine rs_op rfl (ow_boxB rfl ?_)
  intro gb3 w4 Bb3 Eb3 Gb3
  have Gb3 : _ ≤ gb3 := Nat.le_trans E.size Gb3
  have GLb3 := Nat.le_trans LW.size Gb3
  replace E := E.trans Eb3.no
  clear Eb3
  replace HF := HF.cons (some_ge Gb3)
  replace E := E.cons (some gb3)
  replace XLW := Mut.grow XLW (fun k e => Or.inr (Nat.le_trans LW.size ((some_ge Gb3) k e)))
  replace HF := HF.on E
  replace LW := LW.step E XLW
  have SB : ∀ q9, No q9 → Mut [(some gb3)] q9 := (Mut.skip Mut.nil_)
  replace HF := HF.less SB
  replace XLW := fun k h => XLW k (SB k h)
  clear SB
  replace E := Ext.refl (No) w4
  replace HF := HF.and (Per.blkN Bb3 NotIn.nil)
  clear Bb3
  refine rs_op rfl (ow_assign rfl ?_)
  refine rs_nil ?_
  refine ew_next ?_
  refine cw_seq ?_
  refine cw_seq ?_
  refine cw_region ?_
  refine rs_op rfl (ow_enter en13 rfl ((known_any _).mono ?_))
  rintro e w5 ⟨rfl, hb⟩
  refine ⟨_, rfl, ?_⟩
  have XC : ∀ q9, (No) q9 → q9 < w4.heap.size := Mut.none_
  have SC := Nat.le_trans LW.size E.size
  have SE := E.size
  have Ec := Ext.of_below hb No
  replace E := E.trans Ec.no
  clear hb Ec
  refine rs_op rfl (ow_not rfl ?_)
  refine rs_nil ?_
  refine ew_next ?_
  refine cw_else rfl ?_
  refine cw_skip ?_
  refine ew_next ?_
  refine cw_seq ?_
  have OY : ∀ q9, (Mut (outM [])) q9 → q9 < (World.drew w5).heap.size → (No) q9 := fun k h _ => (Mut.none_) k h
  refine cw_drawn (No) Mut.none_ [⟨6, 7, 24, #[.bool false, .slice none 0 0]⟩] [] (fxAt [Fx.of (.pointer (some ⟨gb1, 0, none⟩)),
      Fx.of (.bool n1),
      Fx.of (.pointer (some ⟨gb1, 1, none⟩)),
      Fx.of (.slice A xs.length c),
      ⟨Nat, fun ga => .slice (some ⟨ga, 0, none⟩) xs.length (xs.length + 6), fun ga b => (Roomy b ga xs ∧ w.heap.size ≤ ga)⟩,
      ⟨Nat, fun ga => .agg #[.bool n1, .slice (some ⟨ga, 0, none⟩) xs.length (xs.length + 6)], fun ga b => (Roomy b ga xs ∧ w.heap.size ≤ ga)⟩,
      Fx.of undef,
      Fx.of undef]) mixed rfl trivial (fun _ h => by cases h) ?_ ?_
  · refine ⟨?_, ?_, ?_, ?_, ?_, ?_, ?_, ?_, trivial⟩
    · intro vs X wq K
      have LE := K.1
      have XN := K.2.1
      have SQ := Nat.le_trans LW.size (Nat.le_trans E.size LE.size)
      exact ow_fieldAddr Tryd.underlying24 rfl sz4 (by decide) rfl ⟨Below.refl _ _, Left.of rfl⟩
    · intro vs X wq K
      have LE := K.1
      have XN := K.2.1
      have SQ := Nat.le_trans LW.size (Nat.le_trans E.size LE.size)
      obtain ⟨_, e0, k0⟩ := K.dep 0 rfl rfl rfl
      refine ow_set 36 (.pointer (some ⟨gb1, 0, none⟩)) rfl e0 ?_
      exact ow_loadF Tryd.underlying4 rfl rfl (HF.on (E.drew.trans (LE.mono OY))).here.1.2 rfl ⟨Below.refl _ _, Left.of rfl⟩
    · intro vs X wq K
      have LE := K.1
      have XN := K.2.1
      have SQ := Nat.le_trans LW.size (Nat.le_trans E.size LE.size)
      exact ow_fieldAddr Tryd.underlying24 rfl sz22 (by decide) rfl ⟨Below.refl _ _, Left.of rfl⟩
    · intro vs X wq K
      have LE := K.1
      have XN := K.2.1
      have SQ := Nat.le_trans LW.size (Nat.le_trans E.size LE.size)
      obtain ⟨_, e2, k2⟩ := K.dep 2 rfl rfl rfl
      refine ow_set 38 (.pointer (some ⟨gb1, 1, none⟩)) rfl e2 ?_
      exact ow_loadF Tryd.underlying22 rfl rfl (HF.on (E.drew.trans (LE.mono OY))).here.1.2 rfl ⟨Below.refl _ _, Left.of rfl⟩
    · intro vs X wq K
      have LE := K.1
      have XN := K.2.1
      have SQ := Nat.le_trans LW.size (Nat.le_trans E.size LE.size)
      obtain ⟨_, e3, k3⟩ := K.dep 3 rfl rfl rfl
      refine ow_set 39 (.slice A xs.length c) rfl e3 ?_
      refine ow_enter en40 rfl ((room_any A c xs _ (HF.on (E.drew.trans (LE.mono OY))).here.1.1.1.2 hxl).mono ?_)
      rintro e w2 ⟨ga, rfl, ra, hga, hb⟩
      exact ⟨_, rfl, hb, ⟨ga, rfl, Per.roomy XN ra hga SQ⟩⟩
    · intro vs X wq K
      have LE := K.1
      have XN := K.2.1
      have SQ := Nat.le_trans LW.size (Nat.le_trans E.size LE.size)
      obtain ⟨_, e1, k1⟩ := K.dep 1 rfl rfl rfl
      refine ow_set 37 (.bool n1) rfl e1 ?_
      obtain ⟨ga, e4, k4⟩ := K.dep 4 rfl rfl rfl
      refine ow_set 40 (.slice (some ⟨ga, 0, none⟩) xs.length (xs.length + 6)) rfl e4 ?_
      exact ow_build (cs := #[.bool n1, .slice (some ⟨ga, 0, none⟩) xs.length (xs.length + 6)]) pl24 zr24 rfl rfl ⟨Below.refl _ _, ⟨ga, rfl, (k4.map (fun _ h => h))⟩⟩
    · exact ⟨_, _, _, _, _, rfl, zr24, rfl⟩
    · refine ⟨_, _, _, _, _, rfl, rfl, rfl, sz24, fun vs X wq K => ?_⟩
      obtain ⟨ga, e0, _⟩ := K.dep 5 rfl rfl rfl
      exact ⟨vs 5, rfl, by rw [e0]; rfl, by rw [e0]; rfl⟩
  intro vs w6 LE AO AL AF AA
  replace E := E.drew.trans (LE.mono OY)
  obtain ⟨ga, e5, k5⟩ := AL.2.2.2.2.2.1
  replace HF := HF.on E
  replace LW := LW.step E XLW
  replace E := Ext.refl (No) w6
  replace HF := HF.and ((k5.map (fun _ h => h) : Per (No) w6 (fun b => Roomy b ga xs ∧ w.heap.size ≤ ga)))
  obtain ⟨gb7, v0, y0, qb7, Gb7, Bb7, ey, ev0⟩ := AF.1
  cases ey
  obtain rfl : vs 5 = v0 := Option.some.inj ev0
  rw [e5] at Bb7
  replace HF := HF.on E
  replace LW := LW.step E XLW
  replace E := Ext.refl (No) w6
  replace HF := HF.and ((Per.blkN Bb7 NotIn.nil : Per (No) w6 (fun b => Blk b gb7 24 #[.bool n1, .slice (some ⟨ga, 0, none⟩) xs.length (xs.length + 6)])))
  clear Bb7
  have e6 := qb7
  refine ew_sub (τ := [(2, _), (3, _), (4, _), (5, .pointer (some ⟨gb7, 0, none⟩))]) ⟨rfl, rfl, rfl, congrArg some e6, trivial⟩ ?_
  clear AL AF AA LE AO OY e5 e6 k5
  refine ew_next ?_
  refine cw_seq ?_
  have OY : ∀ q9, (Mut (outM [])) q9 → q9 < (World.drew w6).heap.size → (No) q9 := fun k h _ => (Mut.none_) k h
  refine cw_drawn (No) Mut.none_ [⟨6, 7, 24, #[.bool false, .slice none 0 0]⟩] [] (fxAt [Fx.of (.pointer (some ⟨gb3, 0, none⟩)),
      Fx.of (.bool n2),
      Fx.of (.pointer (some ⟨gb3, 1, none⟩)),
      Fx.of (.slice B ys.length d),
      ⟨Nat, fun gb => .slice (some ⟨gb, 0, none⟩) ys.length (ys.length + 6), fun gb b => (Roomy b gb ys ∧ w.heap.size ≤ gb ∧ Nat.lt ga gb)⟩,
      ⟨Nat, fun gb => .agg #[.bool n2, .slice (some ⟨gb, 0, none⟩) ys.length (ys.length + 6)], fun gb b => (Roomy b gb ys ∧ w.heap.size ≤ gb ∧ Nat.lt ga gb)⟩,
      Fx.of undef,
      Fx.of undef]) mixed rfl trivial (fun _ h => by cases h) ?_ ?_
  · refine ⟨?_, ?_, ?_, ?_, ?_, ?_, ?_, ?_, trivial⟩
    · intro vs X wq K
      have LE := K.1
      have XN := K.2.1
      have SQ := Nat.le_trans LW.size (Nat.le_trans E.size LE.size)
      exact ow_fieldAddr Tryd.underlying24 rfl sz4 (by decide) rfl ⟨Below.refl _ _, Left.of rfl⟩
    · intro vs X wq K
      have LE := K.1
      have XN := K.2.1
      have SQ := Nat.le_trans LW.size (Nat.le_trans E.size LE.size)
      obtain ⟨_, e0, k0⟩ := K.dep 0 rfl rfl rfl
      refine ow_set 42 (.pointer (some ⟨gb3, 0, none⟩)) rfl e0 ?_
      exact ow_loadF Tryd.underlying4 rfl rfl (HF.on (E.drew.trans (LE.mono OY))).here.1.1.2 rfl ⟨Below.refl _ _, Left.of rfl⟩
    · intro vs X wq K
      have LE := K.1
      have XN := K.2.1
      have SQ := Nat.le_trans LW.size (Nat.le_trans E.size LE.size)
      exact ow_fieldAddr Tryd.underlying24 rfl sz22 (by decide) rfl ⟨Below.refl _ _, Left.of rfl⟩
    · intro vs X wq K
      have LE := K.1
      have XN := K.2.1
      have SQ := Nat.le_trans LW.size (Nat.le_trans E.size LE.size)
      obtain ⟨_, e2, k2⟩ := K.dep 2 rfl rfl rfl
      refine ow_set 44 (.pointer (some ⟨gb3, 1, none⟩)) rfl e2 ?_
      exact ow_loadF Tryd.underlying22 rfl rfl (HF.on (E.drew.trans (LE.mono OY))).here.1.1.2 rfl ⟨Below.refl _ _, Left.of rfl⟩
    · intro vs X wq K
      have LE := K.1
      have XN := K.2.1
      have SQ := Nat.le_trans LW.size (Nat.le_trans E.size LE.size)
      obtain ⟨_, e3, k3⟩ := K.dep 3 rfl rfl rfl
      refine ow_set 45 (.slice B ys.length d) rfl e3 ?_
      refine ow_enter en40 rfl ((room_any B d ys _ (HF.on (E.drew.trans (LE.mono OY))).here.1.1.1.1.2 hyl).mono ?_)
      rintro e w2 ⟨gb, rfl, rb, hgb, hb⟩
      exact ⟨_, rfl, hb, ⟨gb, rfl, Per.roomy2 XN rb hgb SQ ((HF.on (E.drew.trans (LE.mono OY))).here.1.2).1.lt⟩⟩
    · intro vs X wq K
      have LE := K.1
      have XN := K.2.1
      have SQ := Nat.le_trans LW.size (Nat.le_trans E.size LE.size)
      obtain ⟨_, e1, k1⟩ := K.dep 1 rfl rfl rfl
      refine ow_set 43 (.bool n2) rfl e1 ?_
      obtain ⟨gb, e4, k4⟩ := K.dep 4 rfl rfl rfl
      refine ow_set 46 (.slice (some ⟨gb, 0, none⟩) ys.length (ys.length + 6)) rfl e4 ?_
      exact ow_build (cs := #[.bool n2, .slice (some ⟨gb, 0, none⟩) ys.length (ys.length + 6)]) pl24 zr24 rfl rfl ⟨Below.refl _ _, ⟨gb, rfl, (k4.map (fun _ h => h))⟩⟩
    · exact ⟨_, _, _, _, _, rfl, zr24, rfl⟩
    · refine ⟨_, _, _, _, _, rfl, rfl, rfl, sz24, fun vs X wq K => ?_⟩
      obtain ⟨gb, e0, _⟩ := K.dep 5 rfl rfl rfl
      exact ⟨vs 5, rfl, by rw [e0]; rfl, by rw [e0]; rfl⟩
  intro vs w8 LE AO AL AF AA
  replace E := E.drew.trans (LE.mono OY)
  obtain ⟨gb, e5, k5⟩ := AL.2.2.2.2.2.1
  replace HF := HF.on E
  replace LW := LW.step E XLW
  replace E := Ext.refl (No) w8
  replace HF := HF.and ((k5.map (fun _ h => h) : Per (No) w8 (fun b => Roomy b gb ys ∧ w.heap.size ≤ gb ∧ Nat.lt ga gb)))
  obtain ⟨gb9, v0, y0, qb9, Gb9, Bb9, ey, ev0⟩ := AF.1
  cases ey
  obtain rfl : vs 5 = v0 := Option.some.inj ev0
  rw [e5] at Bb9
  replace HF := HF.on E
  replace LW := LW.step E XLW
  replace E := Ext.refl (No) w8
  replace HF := HF.and ((Per.blkN Bb9 NotIn.nil : Per (No) w8 (fun b => Blk b gb9 24 #[.bool n2, .slice (some ⟨gb, 0, none⟩) ys.length (ys.length + 6)])))
  clear Bb9
  have e6 := qb9
  refine ew_sub (τ := [(2, _), (3, _), (4, _), (5, _), (6, .pointer (some ⟨gb9, 0, none⟩))]) ⟨rfl, rfl, rfl, rfl, congrArg some e6, trivial⟩ ?_
  clear AL AF AA LE AO OY e5 e6 k5
  refine ew_next ?_
  refine cw_seq ?_
  refine cw_region ?_
  refine rs_op rfl (ow_assign rfl ?_)
  refine rs_nil ?_
  refine ew_next ?_
  refine cw_seq ?_
  refine cw_region ?_
  refine rs_op rfl (ow_assign rfl ?_)
  refine rs_nil ?_
  refine ew_next ?_
  refine cw_seq ?_
  refine cw_seq ?_
  refine cw_region ?_
  refine rs_op rfl (ow_assign rfl ?_)
  refine rs_nil ?_
  refine ew_next ?_
  refine cw_block ?_
  have Ols : World.ownsRow w8 w.heap.size 22 1 (.slice none 0 0) 0 ([]) := owns_nil
  replace HF := HF.cons (nil_no)
  replace E := E.cons ((Value.slice none 0 0).ownBlock)
  replace XLW := Mut.grow XLW (fun k e => Or.inr (Nat.le_trans LW.size ((nil_no) k e)))
  have Owas : World.ownsRow w8 w.heap.size 24 2 (.slice none 0 0) 0 ([]) := owns_nil
  have Dwas_ls : Apart ((Value.slice none 0 0).ownBlock) ((Value.slice none 0 0).ownBlock) := fun _ e => by cases e
  have Dls_was := Dwas_ls.symm
  replace HF := HF.cons (nil_no)
  replace E := E.cons ((Value.slice none 0 0).ownBlock)
  replace XLW := Mut.grow XLW (fun k e => Or.inr (Nat.le_trans LW.size ((nil_no) k e)))
  replace HF := HF.on E
  replace LW := LW.step E XLW
  replace E := Ext.refl (Mut [((Value.slice none 0 0).ownBlock), ((Value.slice none 0 0).ownBlock)]) w8
  refine cw_loop (ι := Nat × List Ans × List Ans × Option Addr × Nat × Option Addr × Nat) (fun (n, zs, us, A7, c7, A8, c8) => [(2, .pointer (some ⟨gb1, 0, none⟩)), (3, .pointer (some ⟨gb3, 0, none⟩)), (4, .bool false), (5, .pointer (some ⟨gb7, 0, none⟩)), (6, .pointer (some ⟨gb9, 0, none⟩)), (7, .slice A7 (8 * n) c7), (8, .slice A8 (8 * n) c8), (9, .int .i64 (n : Int))]) (fun (n, zs, us, A7, c7, A8, c8) w' => Ext (Mut [((Value.slice none 0 0).ownBlock), ((Value.slice none 0 0).ownBlock)]) w8 w' ∧ World.ownsRow w' w.heap.size 24 2 (.slice A8 (8 * n) c8) (8 * n) (us.flatMap ansB) ∧ World.ownsRow w' w.heap.size 22 1 (.slice A7 (8 * n) c7) (8 * n) (zs.map ansS) ∧ (∀ q9, ((Value.slice A8 (8 * n) c8).ownBlock) = some q9 → ((Value.slice none 0 0).ownBlock) = some q9 ∨ w8.heap.size ≤ q9) ∧ (∀ q9, ((Value.slice A7 (8 * n) c7).ownBlock) = some q9 → ((Value.slice none 0 0).ownBlock) = some q9 ∨ w8.heap.size ≤ q9) ∧ Apart ((Value.slice A8 (8 * n) c8).ownBlock) ((Value.slice A7 (8 * n) c7).ownBlock) ∧ (n ≤ 2 ∧ zs.length = 8 * n ∧ us.length = 8 * n ∧ AnsOK Z w.heap.size zs w' ∧ AnsOK Z w.heap.size us w' ∧ Sep (some ga :: zs.map blkOf) ∧ NoB ga us)) (fun (n, zs, us, A7, c7, A8, c8) => 2 - n) (0, [], [], none, 0, none, 0) ⟨rfl, rfl, rfl, rfl, rfl, rfl, rfl, rfl, trivial⟩ ⟨Ext.refl _ _, (by exact Owas), (by exact Ols), (fun _ e => Or.inl e), (fun _ e => Or.inl e), (by exact Dwas_ls), ⟨Nat.zero_le _, rfl, rfl, fun j a h => by simp at h, fun j a h => by simp at h, Sep.one _, fun a h => by simp at h⟩⟩ ?_
  have LTwas := (owns_lt Owas)
  have LTls := (owns_lt Ols)
  clear Owas
  clear Ols
  rintro ⟨n, zs, us, A7, c7, A8, c8⟩ w11 ⟨M10, Owas, Ols, KwasM10, KlsM10, Pwas_ls, ⟨hn, hzl, hul, hz0, hu0, hsep0, hnb0⟩⟩
  replace Dwas_ls := Pwas_ls
  replace Dls_was := Pwas_ls.symm
  have XM10 : ∀ q9, (Mut [((Value.slice A8 (8 * n) c8).ownBlock), ((Value.slice A7 (8 * n) c7).ownBlock)]) q9 → (Mut [((Value.slice none 0 0).ownBlock), ((Value.slice none 0 0).ownBlock)]) q9 ∨ w8.heap.size ≤ q9 := (Mut.grow (Mut.grow Mut.none_ (fun k e => (KlsM10 k e).elim (fun e => Or.inl ((Mut.tail Mut.head) k e)) Or.inr)) (fun k e => (KwasM10 k e).elim (fun e => Or.inl (Mut.head k e)) Or.inr))
  replace E := E.trans M10
  replace HF := HF.turn E XM10
  have ZLW := LW.size
  have XT := fun q9 (h : (Mut [((Value.slice A8 (8 * n) c8).ownBlock), ((Value.slice A7 (8 * n) c7).ownBlock)]) q9) => (XM10 q9 h).elim (XLW q9) (fun h => Or.inr (Nat.le_trans LW.size h))
  replace LW := LW.step E XLW
  replace XLW := XT
  clear XT
  clear ZLW
  replace E := Ext.refl (Mut [((Value.slice A8 (8 * n) c8).ownBlock), ((Value.slice A7 (8 * n) c7).ownBlock)]) w11
  clear LTwas
  clear LTls
  refine cw_seq ?_
  refine cw_seq ?_
  refine cw_region ?_
  refine rs_op rfl (ow_move rfl ?_)
  refine rs_op rfl (ow_lss rfl rfl ?_)
  refine rs_nil ?_
  refine ew_next ?_
  refine cw_cond rfl (fun q => ?_) (fun q => ?_)
  · have _way := True.intro
    have q := of_decide_eq_true q
    replace HF := HF.on E
    replace LW := LW.step E XLW
    replace M10 := M10.step E XM10
    replace E := Ext.refl (Mut [((Value.slice A8 (8 * n) c8).ownBlock), ((Value.slice A7 (8 * n) c7).ownBlock)]) w11
    replace HF := HF.and (Per.ans hz0 (blk_not Owas (by decide)) (blk_not Ols (by decide)))
    replace HF := HF.on E
    replace LW := LW.step E XLW
    replace M10 := M10.step E XM10
    replace E := Ext.refl (Mut [((Value.slice A8 (8 * n) c8).ownBlock), ((Value.slice A7 (8 * n) c7).ownBlock)]) w11
    replace HF := HF.and (Per.ans hu0 (blk_not Owas (by decide)) (blk_not Ols (by decide)))
    refine cw_skip ?_
    refine ew_next ?_
    refine cw_seq ?_
    refine cw_block ?_
    refine cw_seq ?_
    refine cw_region ?_
    refine rs_op rfl (ow_loadB Tryd.underlying24 rfl sz24 rfl (HF.on E).here.1.1.1.1.2 rfl ?_)
    refine rs_op rfl (ow_loadB Tryd.underlying24 rfl sz24 rfl (HF.on E).here.1.1.2 rfl ?_)
    have L1 := lts_ans (HF.on E).here.1.2 ((HF.on E).here.1.1.1.1.1.2).1.lt
    refine rs_op rfl (ow_enter en27 rfl ((hs _ (some ⟨ga, 0, none⟩) (xs.length + 6) (some ⟨gb, 0, none⟩) (ys.length + 6) (((HF.on E).here.1.1.1.1.1.2).1.nums hxm) (((HF.on E).here.1.1.1.2).1.nums hym)).mono ?_))
    rintro e w12 ⟨A1, c1, rfl, o1, hb⟩
    refine ⟨_, rfl, ?_⟩
    have XC : ∀ q9, (Mut [((Value.slice A8 (8 * n) c8).ownBlock), ((Value.slice A7 (8 * n) c7).ownBlock)]) q9 → q9 < w11.heap.size := (Mut.grow (Mut.grow Mut.none_ (owns_lt Ols)) (owns_lt Owas))
    have SC := Nat.le_trans LW.size E.size
    have SE := E.size
    have Ec := Ext.of_below hb No
    replace Owas := owns_extN Owas Ec NotIn.nil
    replace Ols := owns_extN Ols Ec NotIn.nil
    replace E := E.trans Ec.no
    clear hb Ec
    have p1 := hsep0.new L1 o1
    replace HF := HF.on E
    replace LW := LW.step E XLW
    replace M10 := M10.step E XM10
    replace E := Ext.refl (Mut [((Value.slice A8 (8 * n) c8).ownBlock), ((Value.slice A7 (8 * n) c7).ownBlock)]) w12
    replace HF := HF.and (Per.ans (ans_snoc (k := 8 * n) (HF.on E).here.1.2 hzl (by rw [hZ, Nat.mul_mod_right]; rfl) o1 SC rfl) (blk_not Owas (by decide)) (blk_not Ols (by decide)))
    refine rs_op rfl (ow_move rfl ?_)
    refine rs_op rfl (ow_extract rfl rfl ?_)
    refine rs_op rfl (ow_extract rfl rfl ?_)
    refine rs_op rfl (ow_allocB zr24 ?_)
    intro gb13 w14 Bb13 Eb13 Gb13
    have Db13_was : Apart (some gb13) ((Value.slice A8 (8 * n) c8).ownBlock) := Apart.of_lt (owns_lt Owas) Gb13
    have Dwas_b13 := Db13_was.symm
    have Db13_ls : Apart (some gb13) ((Value.slice A7 (8 * n) c7).ownBlock) := Apart.of_lt (owns_lt Ols) Gb13
    have Dls_b13 := Db13_ls.symm
    have Gb13 : _ ≤ gb13 := Nat.le_trans E.size Gb13
    have GLb13 := Nat.le_trans LW.size Gb13
    replace Owas := owns_extN Owas Eb13 NotIn.nil
    replace Ols := owns_extN Ols Eb13 NotIn.nil
    replace E := E.trans Eb13.no
    clear Eb13
    replace HF := HF.cons (some_ge Gb13)
    replace E := E.cons (some gb13)
    replace XLW := Mut.grow XLW (fun k e => Or.inr (Nat.le_trans LW.size ((some_ge Gb13) k e)))
    replace XM10 := Mut.grow XM10 (fun k e => Or.inr (Nat.le_trans M10.size ((some_ge Gb13) k e)))
    refine rs_op0 (ow_storeM sz24 rfl rfl Bb13 rfl rfl (Nat.le_of_ble_eq_true rfl) ?_)
    intro w15 Bx Eb13
    replace Bb13 := Bx
    clear Bx
    replace Owas := owns_extN Owas Eb13 (NotIn.cons Dwas_b13 NotIn.nil)
    replace Ols := owns_extN Ols Eb13 (NotIn.cons Dls_b13 NotIn.nil)
    replace E := E.step1 Eb13 Mut.head
    clear Eb13
    refine rs_op rfl (ow_assign rfl ?_)
    refine rs_nil ?_
    refine ew_next ?_
    refine cw_seq ?_
    refine cw_region ?_
    refine rs_op rfl (ow_loadB Tryd.underlying24 rfl sz24 rfl (HF.on E).here.1.1.1.1.1.2 rfl ?_)
    refine rs_op rfl (ow_loadB Tryd.underlying24 rfl sz24 rfl (HF.on E).here.1.1.1.2 rfl ?_)
    replace HF := HF.on E
    replace LW := LW.step E XLW
    replace M10 := M10.step E XM10
    have SB : ∀ q9, Mut [((Value.slice A8 (8 * n) c8).ownBlock), ((Value.slice A7 (8 * n) c7).ownBlock)] q9 → Mut [(some gb13), ((Value.slice A8 (8 * n) c8).ownBlock), ((Value.slice A7 (8 * n) c7).ownBlock)] q9 := (Mut.skip (Mut.keep (Mut.keep Mut.nil_)))
    replace HF := HF.less SB
    replace XLW := fun k h => XLW k (SB k h)
    replace XM10 := fun k h => XM10 k (SB k h)
    clear SB
    replace E := Ext.refl (Mut [((Value.slice A8 (8 * n) c8).ownBlock), ((Value.slice A7 (8 * n) c7).ownBlock)]) w15
    replace HF := HF.and (Per.blkN Bb13 (NotIn.cons Db13_was (NotIn.cons Db13_ls NotIn.nil)))
    clear Bb13
    have L2 := lts_ans (HF.on E).here.1.2 ((HF.on E).here.1.1.1.1.1.1.1.2).1.lt
    refine rs_op rfl (ow_enter en28 rfl ((hd _ (some ⟨ga, 0, none⟩) (xs.length + 6) (some ⟨gb, 0, none⟩) (ys.length + 6) (((HF.on E).here.1.1.1.1.1.1.1.2).1.nums hxm) (((HF.on E).here.1.1.1.1.1.2).1.nums hym)).mono ?_))
    rintro e w16 ⟨A2, c2, rfl, o2, hb⟩
    refine ⟨_, rfl, ?_⟩
    have XC : ∀ q9, (Mut [((Value.slice A8 (8 * n) c8).ownBlock), ((Value.slice A7 (8 * n) c7).ownBlock)]) q9 → q9 < w15.heap.size := (Mut.grow (Mut.grow Mut.none_ (owns_lt Ols)) (owns_lt Owas))
    have SC := Nat.le_trans LW.size E.size
    have SE := E.size
    have Ec := Ext.of_below hb No
    replace Owas := owns_extN Owas Ec NotIn.nil
    replace Ols := owns_extN Ols Ec NotIn.nil
    replace E := E.trans Ec.no
    clear hb Ec
    have p2 := (sep_in p1).new L2 o2
    replace HF := HF.on E
    replace LW := LW.step E XLW
    replace M10 := M10.step E XM10
    replace E := Ext.refl (Mut [((Value.slice A8 (8 * n) c8).ownBlock), ((Value.slice A7 (8 * n) c7).ownBlock)]) w16
    replace HF := HF.and (Per.ans (ans_snoc (k := 8 * n + 1) (HF.on E).here.1.2 (by simp [hzl]) (by rw [hZ, Nat.mul_add_mod]; rfl) o2 SC rfl) (blk_not Owas (by decide)) (blk_not Ols (by decide)))
    refine rs_op rfl (ow_move rfl ?_)
    refine rs_op rfl (ow_extract rfl rfl ?_)
    refine rs_op rfl (ow_extract rfl rfl ?_)
    refine rs_op rfl (ow_allocB zr24 ?_)
    intro gb17 w18 Bb17 Eb17 Gb17
    have Db17_was : Apart (some gb17) ((Value.slice A8 (8 * n) c8).ownBlock) := Apart.of_lt (owns_lt Owas) Gb17
    have Dwas_b17 := Db17_was.symm
    have Db17_ls : Apart (some gb17) ((Value.slice A7 (8 * n) c7).ownBlock) := Apart.of_lt (owns_lt Ols) Gb17
    have Dls_b17 := Db17_ls.symm
    have Gb17 : _ ≤ gb17 := Nat.le_trans E.size Gb17
    have GLb17 := Nat.le_trans LW.size Gb17
    replace Owas := owns_extN Owas Eb17 NotIn.nil
    replace Ols := owns_extN Ols Eb17 NotIn.nil
    replace E := E.trans Eb17.no
    clear Eb17
    replace HF := HF.cons (some_ge Gb17)
    replace E := E.cons (some gb17)
    replace XLW := Mut.grow XLW (fun k e => Or.inr (Nat.le_trans LW.size ((some_ge Gb17) k e)))
    replace XM10 := Mut.grow XM10 (fun k e => Or.inr (Nat.le_trans M10.size ((some_ge Gb17) k e)))
    refine rs_op0 (ow_storeM sz24 rfl rfl Bb17 rfl rfl (Nat.le_of_ble_eq_true rfl) ?_)
    intro w19 Bx Eb17
    replace Bb17 := Bx
    clear Bx
    replace Owas := owns_extN Owas Eb17 (NotIn.cons Dwas_b17 NotIn.nil)
    replace Ols := owns_extN Ols Eb17 (NotIn.cons Dls_b17 NotIn.nil)
    replace E := E.step1 Eb17 Mut.head
    clear Eb17
    refine rs_op rfl (ow_assign rfl ?_)
    refine rs_nil ?_
    refine ew_next ?_
    refine cw_seq ?_
    refine cw_region ?_
    refine rs_op rfl (ow_loadB Tryd.underlying24 rfl sz24 rfl (HF.on E).here.1.1.1.1.1.1.1.2 rfl ?_)
    refine rs_op rfl (ow_loadB Tryd.underlying24 rfl sz24 rfl (HF.on E).here.1.1.1.1.1.2 rfl ?_)
    replace HF := HF.on E
    replace LW := LW.step E XLW
    replace M10 := M10.step E XM10
    have SB : ∀ q9, Mut [((Value.slice A8 (8 * n) c8).ownBlock), ((Value.slice A7 (8 * n) c7).ownBlock)] q9 → Mut [(some gb17), ((Value.slice A8 (8 * n) c8).ownBlock), ((Value.slice A7 (8 * n) c7).ownBlock)] q9 := (Mut.skip (Mut.keep (Mut.keep Mut.nil_)))
    replace HF := HF.less SB
    replace XLW := fun k h => XLW k (SB k h)
    replace XM10 := fun k h => XM10 k (SB k h)
    clear SB
    replace E := Ext.refl (Mut [((Value.slice A8 (8 * n) c8).ownBlock), ((Value.slice A7 (8 * n) c7).ownBlock)]) w19
    replace HF := HF.and (Per.blkN Bb17 (NotIn.cons Db17_was (NotIn.cons Db17_ls NotIn.nil)))
    clear Bb17
    have L3 := lts_ans (HF.on E).here.1.2 ((HF.on E).here.1.1.1.1.1.1.1.1.1.2).1.lt
    refine rs_op rfl (ow_enter en36 rfl ((hp _ (some ⟨ga, 0, none⟩) (xs.length + 6) (some ⟨gb, 0, none⟩) (ys.length + 6) (((HF.on E).here.1.1.1.1.1.1.1.1.1.2).1.nums hxm) (((HF.on E).here.1.1.1.1.1.1.1.2).1.nums hym)).mono ?_))
    rintro e w20 ⟨A3, c3, rfl, o3, hb⟩
    refine ⟨_, rfl, ?_⟩
    have XC : ∀ q9, (Mut [((Value.slice A8 (8 * n) c8).ownBlock), ((Value.slice A7 (8 * n) c7).ownBlock)]) q9 → q9 < w19.heap.size := (Mut.grow (Mut.grow Mut.none_ (owns_lt Ols)) (owns_lt Owas))
    have SC := Nat.le_trans LW.size E.size
    have SE := E.size
    have Ec := Ext.of_below hb No
    replace Owas := owns_extN Owas Ec NotIn.nil
    replace Ols := owns_extN Ols Ec NotIn.nil
    replace E := E.trans Ec.no
    clear hb Ec
    have p3 := (sep_in p2).new L3 o3
    replace HF := HF.on E
    replace LW := LW.step E XLW
    replace M10 := M10.step E XM10
    replace E := Ext.refl (Mut [((Value.slice A8 (8 * n) c8).ownBlock), ((Value.slice A7 (8 * n) c7).ownBlock)]) w20
    replace HF := HF.and (Per.ans (ans_snoc (k := 8 * n + 2) (HF.on E).here.1.2 (by simp [hzl]) (by rw [hZ, Nat.mul_add_mod]; rfl) o3 SC rfl) (blk_not Owas (by decide)) (blk_not Ols (by decide)))
    refine rs_op rfl (ow_move rfl ?_)
    refine rs_op rfl (ow_extract rfl rfl ?_)
    refine rs_op rfl (ow_extract rfl rfl ?_)
    refine rs_op rfl (ow_allocB zr24 ?_)
    intro gb21 w22 Bb21 Eb21 Gb21
    have Db21_was : Apart (some gb21) ((Value.slice A8 (8 * n) c8).ownBlock) := Apart.of_lt (owns_lt Owas) Gb21
    have Dwas_b21 := Db21_was.symm
    have Db21_ls : Apart (some gb21) ((Value.slice A7 (8 * n) c7).ownBlock) := Apart.of_lt (owns_lt Ols) Gb21
    have Dls_b21 := Db21_ls.symm
    have Gb21 : _ ≤ gb21 := Nat.le_trans E.size Gb21
    have GLb21 := Nat.le_trans LW.size Gb21
    replace Owas := owns_extN Owas Eb21 NotIn.nil
    replace Ols := owns_extN Ols Eb21 NotIn.nil
    replace E := E.trans Eb21.no
    clear Eb21
    replace HF := HF.cons (some_ge Gb21)
    replace E := E.cons (some gb21)
    replace XLW := Mut.grow XLW (fun k e => Or.inr (Nat.le_trans LW.size ((some_ge Gb21) k e)))
    replace XM10 := Mut.grow XM10 (fun k e => Or.inr (Nat.le_trans M10.size ((some_ge Gb21) k e)))
    refine rs_op0 (ow_storeM sz24 rfl rfl Bb21 rfl rfl (Nat.le_of_ble_eq_true rfl) ?_)
    intro w23 Bx Eb21
    replace Bb21 := Bx
    clear Bx
    replace Owas := owns_extN Owas Eb21 (NotIn.cons Dwas_b21 NotIn.nil)
    replace Ols := owns_extN Ols Eb21 (NotIn.cons Dls_b21 NotIn.nil)
    replace E := E.step1 Eb21 Mut.head
    clear Eb21
    refine rs_op rfl (ow_assign rfl ?_)
    refine rs_nil ?_
    refine ew_next ?_
    refine cw_seq ?_
    refine cw_region ?_
    refine rs_op rfl (ow_loadB Tryd.underlying24 rfl sz24 rfl (HF.on E).here.1.1.1.1.1.1.1.1.1.2 rfl ?_)
    refine rs_op rfl (ow_loadB Tryd.underlying24 rfl sz24 rfl (HF.on E).here.1.1.1.1.1.1.1.2 rfl ?_)
    replace HF := HF.on E
    replace LW := LW.step E XLW
    replace M10 := M10.step E XM10
    have SB : ∀ q9, Mut [((Value.slice A8 (8 * n) c8).ownBlock), ((Value.slice A7 (8 * n) c7).ownBlock)] q9 → Mut [(some gb21), ((Value.slice A8 (8 * n) c8).ownBlock), ((Value.slice A7 (8 * n) c7).ownBlock)] q9 := (Mut.skip (Mut.keep (Mut.keep Mut.nil_)))
    replace HF := HF.less SB
    replace XLW := fun k h => XLW k (SB k h)
    replace XM10 := fun k h => XM10 k (SB k h)
    clear SB
    replace E := Ext.refl (Mut [((Value.slice A8 (8 * n) c8).ownBlock), ((Value.slice A7 (8 * n) c7).ownBlock)]) w23
    replace HF := HF.and (Per.blkN Bb21 (NotIn.cons Db21_was (NotIn.cons Db21_ls NotIn.nil)))
    clear Bb21
    have L4 := lts_ans (HF.on E).here.1.2 ((HF.on E).here.1.1.1.1.1.1.1.1.1.1.1.2).1.lt
    refine rs_op rfl (ow_enter en14 rfl ((hq _ (some ⟨ga, 0, none⟩) (xs.length + 6) (some ⟨gb, 0, none⟩) (ys.length + 6) (((HF.on E).here.1.1.1.1.1.1.1.1.1.1.1.2).1.nums hxm) (((HF.on E).here.1.1.1.1.1.1.1.1.1.2).1.nums hym)).mono ?_))
    rintro e w24 ⟨A4, c4, A5, c5, rfl, o4, o5, hb, hne⟩
    refine ⟨_, rfl, ?_⟩
    have XC : ∀ q9, (Mut [((Value.slice A8 (8 * n) c8).ownBlock), ((Value.slice A7 (8 * n) c7).ownBlock)]) q9 → q9 < w23.heap.size := (Mut.grow (Mut.grow Mut.none_ (owns_lt Ols)) (owns_lt Owas))
    have SC := Nat.le_trans LW.size E.size
    have SE := E.size
    have Ec := Ext.of_below hb No
    replace Owas := owns_extN Owas Ec NotIn.nil
    replace Ols := owns_extN Ols Ec NotIn.nil
    replace E := E.trans Ec.no
    clear hb Ec
    have p5 := (sep_in p3).new2 L4 o4 o5 hne
    replace HF := HF.on E
    replace LW := LW.step E XLW
    replace M10 := M10.step E XM10
    replace E := Ext.refl (Mut [((Value.slice A8 (8 * n) c8).ownBlock), ((Value.slice A7 (8 * n) c7).ownBlock)]) w24
    replace HF := HF.and (Per.ans (ans_snoc (k := 8 * n + 4) (ans_snoc (k := 8 * n + 3) (HF.on E).here.1.2 (by simp [hzl]) (by rw [hZ, Nat.mul_add_mod]; rfl) o4 SC rfl) (by simp [hzl]) (by rw [hZ, Nat.mul_add_mod]; rfl) o5 SC rfl) (blk_not Owas (by decide)) (blk_not Ols (by decide)))
    refine rs_op rfl (ow_move rfl ?_)
    refine rs_op rfl (ow_extract rfl rfl ?_)
    refine rs_op rfl (ow_extract rfl rfl ?_)
    refine rs_op rfl (ow_extract rfl rfl ?_)
    refine rs_op rfl (ow_allocB zr24 ?_)
    intro gb25 w26 Bb25 Eb25 Gb25
    have Db25_was : Apart (some gb25) ((Value.slice A8 (8 * n) c8).ownBlock) := Apart.of_lt (owns_lt Owas) Gb25
    have Dwas_b25 := Db25_was.symm
    have Db25_ls : Apart (some gb25) ((Value.slice A7 (8 * n) c7).ownBlock) := Apart.of_lt (owns_lt Ols) Gb25
    have Dls_b25 := Db25_ls.symm
    have Gb25 : _ ≤ gb25 := Nat.le_trans E.size Gb25
    have GLb25 := Nat.le_trans LW.size Gb25
    replace Owas := owns_extN Owas Eb25 NotIn.nil
    replace Ols := owns_extN Ols Eb25 NotIn.nil
    replace E := E.trans Eb25.no
    clear Eb25
    replace HF := HF.cons (some_ge Gb25)
    replace E := E.cons (some gb25)
    replace XLW := Mut.grow XLW (fun k e => Or.inr (Nat.le_trans LW.size ((some_ge Gb25) k e)))
    replace XM10 := Mut.grow XM10 (fun k e => Or.inr (Nat.le_trans M10.size ((some_ge Gb25) k e)))
    refine rs_op rfl (ow_allocB zr24 ?_)
    intro gb27 w28 Bb27 Eb27 Gb27
    have Db27_b25 : Apart (some gb27) (some gb25) := Apart.of_lt (some_lt Bb25.lt) Gb27
    have Db25_b27 := Db27_b25.symm
    have Db27_was : Apart (some gb27) ((Value.slice A8 (8 * n) c8).ownBlock) := Apart.of_lt (owns_lt Owas) Gb27
    have Dwas_b27 := Db27_was.symm
    have Db27_ls : Apart (some gb27) ((Value.slice A7 (8 * n) c7).ownBlock) := Apart.of_lt (owns_lt Ols) Gb27
    have Dls_b27 := Db27_ls.symm
    have Gb27 : _ ≤ gb27 := Nat.le_trans E.size Gb27
    have GLb27 := Nat.le_trans LW.size Gb27
    replace Bb25 := Bb25.extN Eb27 NotIn.nil
    replace Owas := owns_extN Owas Eb27 NotIn.nil
    replace Ols := owns_extN Ols Eb27 NotIn.nil
    replace E := E.trans Eb27.no
    clear Eb27
    replace HF := HF.cons (some_ge Gb27)
    replace E := E.cons (some gb27)
    replace XLW := Mut.grow XLW (fun k e => Or.inr (Nat.le_trans LW.size ((some_ge Gb27) k e)))
    replace XM10 := Mut.grow XM10 (fun k e => Or.inr (Nat.le_trans M10.size ((some_ge Gb27) k e)))
    refine rs_op0 (ow_storeM sz24 rfl rfl Bb25 rfl rfl (Nat.le_of_ble_eq_true rfl) ?_)
    intro w29 Bx Eb25
    replace Bb25 := Bx
    clear Bx
    replace Bb27 := Bb27.extN Eb25 (NotIn.cons Db27_b25 NotIn.nil)
    replace Owas := owns_extN Owas Eb25 (NotIn.cons Dwas_b25 NotIn.nil)
    replace Ols := owns_extN Ols Eb25 (NotIn.cons Dls_b25 NotIn.nil)
    replace E := E.step1 Eb25 (Mut.tail Mut.head)
    clear Eb25
    refine rs_op0 (ow_storeM sz24 rfl rfl Bb27 rfl rfl (Nat.le_of_ble_eq_true rfl) ?_)
    intro w30 Bx Eb27
    replace Bb27 := Bx
    clear Bx
    replace Bb25 := Bb25.extN Eb27 (NotIn.cons Db25_b27 NotIn.nil)
    replace Owas := owns_extN Owas Eb27 (NotIn.cons Dwas_b27 NotIn.nil)
    replace Ols := owns_extN Ols Eb27 (NotIn.cons Dls_b27 NotIn.nil)
    replace E := E.step1 Eb27 Mut.head
    clear Eb27
    refine rs_op rfl (ow_assign rfl ?_)
    refine rs_nil ?_
    refine ew_next ?_
    refine cw_seq ?_
    refine cw_region ?_
    refine rs_op rfl (ow_loadB Tryd.underlying24 rfl sz24 rfl (HF.on E).here.1.1.1.1.1.1.1.1.1.1.1.2 rfl ?_)
    replace HF := HF.on E
    replace LW := LW.step E XLW
    replace M10 := M10.step E XM10
    have SB : ∀ q9, Mut [(some gb27), ((Value.slice A8 (8 * n) c8).ownBlock), ((Value.slice A7 (8 * n) c7).ownBlock)] q9 → Mut [(some gb27), (some gb25), ((Value.slice A8 (8 * n) c8).ownBlock), ((Value.slice A7 (8 * n) c7).ownBlock)] q9 := (Mut.keep (Mut.skip (Mut.keep (Mut.keep Mut.nil_))))
    replace HF := HF.less SB
    replace XLW := fun k h => XLW k (SB k h)
    replace XM10 := fun k h => XM10 k (SB k h)
    clear SB
    replace E := Ext.refl (Mut [(some gb27), ((Value.slice A8 (8 * n) c8).ownBlock), ((Value.slice A7 (8 * n) c7).ownBlock)]) w30
    replace HF := HF.and (Per.blkN Bb25 (NotIn.cons Db25_b27 (NotIn.cons Db25_was (NotIn.cons Db25_ls NotIn.nil))))
    clear Bb25
    replace HF := HF.on E
    replace LW := LW.step E XLW
    replace M10 := M10.step E XM10
    have SB : ∀ q9, Mut [((Value.slice A8 (8 * n) c8).ownBlock), ((Value.slice A7 (8 * n) c7).ownBlock)] q9 → Mut [(some gb27), ((Value.slice A8 (8 * n) c8).ownBlock), ((Value.slice A7 (8 * n) c7).ownBlock)] q9 := (Mut.skip (Mut.keep (Mut.keep Mut.nil_)))
    replace HF := HF.less SB
    replace XLW := fun k h => XLW k (SB k h)
    replace XM10 := fun k h => XM10 k (SB k h)
    clear SB
    replace E := Ext.refl (Mut [((Value.slice A8 (8 * n) c8).ownBlock), ((Value.slice A7 (8 * n) c7).ownBlock)]) w30
    replace HF := HF.and (Per.blkN Bb27 (NotIn.cons Db27_was (NotIn.cons Db27_ls NotIn.nil)))
    clear Bb27
    have L6 := lts_ans (HF.on E).here.1.1.2 ((HF.on E).here.1.1.1.1.1.1.1.1.1.1.1.1.1.1.2).1.lt
    refine rs_op rfl (ow_enter en31 rfl ((ht _ (some ⟨ga, 0, none⟩) (xs.length + 6) (((HF.on E).here.1.1.1.1.1.1.1.1.1.1.1.1.1.1.2).1.nums hxm)).mono ?_))
    rintro e w31 ⟨A6, c6, rfl, o6, hb⟩
    refine ⟨_, rfl, ?_⟩
    have XC : ∀ q9, (Mut [((Value.slice A8 (8 * n) c8).ownBlock), ((Value.slice A7 (8 * n) c7).ownBlock)]) q9 → q9 < w30.heap.size := (Mut.grow (Mut.grow Mut.none_ (owns_lt Ols)) (owns_lt Owas))
    have SC := Nat.le_trans LW.size E.size
    have SE := E.size
    have Ec := Ext.of_below hb No
    replace Owas := owns_extN Owas Ec NotIn.nil
    replace Ols := owns_extN Ols Ec NotIn.nil
    replace E := E.trans Ec.no
    clear hb Ec
    have p6 := (sep_in2 p5).new L6 o6
    replace HF := HF.on E
    replace LW := LW.step E XLW
    replace M10 := M10.step E XM10
    replace E := Ext.refl (Mut [((Value.slice A8 (8 * n) c8).ownBlock), ((Value.slice A7 (8 * n) c7).ownBlock)]) w31
    replace HF := HF.and (Per.ans (ans_snoc (k := 8 * n + 5) (HF.on E).here.1.1.2 (by simp [hzl]) (by rw [hZ, Nat.mul_add_mod]; rfl) o6 SC rfl) (blk_not Owas (by decide)) (blk_not Ols (by decide)))
    refine rs_op rfl (ow_allocB zr24 ?_)
    intro gb32 w33 Bb32 Eb32 Gb32
    have Db32_was : Apart (some gb32) ((Value.slice A8 (8 * n) c8).ownBlock) := Apart.of_lt (owns_lt Owas) Gb32
    have Dwas_b32 := Db32_was.symm
    have Db32_ls : Apart (some gb32) ((Value.slice A7 (8 * n) c7).ownBlock) := Apart.of_lt (owns_lt Ols) Gb32
    have Dls_b32 := Db32_ls.symm
    have Gb32 : _ ≤ gb32 := Nat.le_trans E.size Gb32
    have GLb32 := Nat.le_trans LW.size Gb32
    replace Owas := owns_extN Owas Eb32 NotIn.nil
    replace Ols := owns_extN Ols Eb32 NotIn.nil
    replace E := E.trans Eb32.no
    clear Eb32
    replace HF := HF.cons (some_ge Gb32)
    replace E := E.cons (some gb32)
    replace XLW := Mut.grow XLW (fun k e => Or.inr (Nat.le_trans LW.size ((some_ge Gb32) k e)))
    replace XM10 := Mut.grow XM10 (fun k e => Or.inr (Nat.le_trans M10.size ((some_ge Gb32) k e)))
    refine rs_op0 (ow_storeM sz24 rfl rfl Bb32 rfl rfl (Nat.le_of_ble_eq_true rfl) ?_)
    intro w34 Bx Eb32
    replace Bb32 := Bx
    clear Bx
    replace Owas := owns_extN Owas Eb32 (NotIn.cons Dwas_b32 NotIn.nil)
    replace Ols := owns_extN Ols Eb32 (NotIn.cons Dls_b32 NotIn.nil)
    replace E := E.step1 Eb32 Mut.head
    clear Eb32
    refine rs_nil ?_
    refine ew_next ?_
    refine cw_seq ?_
    replace HF := HF.on E
    replace LW := LW.step E XLW
    replace M10 := M10.step E XM10
    have SB : ∀ q9, Mut [((Value.slice A8 (8 * n) c8).ownBlock), ((Value.slice A7 (8 * n) c7).ownBlock)] q9 → Mut [(some gb32), ((Value.slice A8 (8 * n) c8).ownBlock), ((Value.slice A7 (8 * n) c7).ownBlock)] q9 := (Mut.skip (Mut.keep (Mut.keep Mut.nil_)))
    replace HF := HF.less SB
    replace XLW := fun k h => XLW k (SB k h)
    replace XM10 := fun k h => XM10 k (SB k h)
    clear SB
    replace E := Ext.refl (Mut [((Value.slice A8 (8 * n) c8).ownBlock), ((Value.slice A7 (8 * n) c7).ownBlock)]) w34
    replace HF := HF.and (Per.blkN Bb32 (NotIn.cons Db32_was (NotIn.cons Db32_ls NotIn.nil)))
    clear Bb32
    obtain ⟨S7, hS7⟩ : ∃ S7, S7 = (World.heap w34).size := ⟨_, rfl⟩
    have SW7 := Nat.le_trans LW.size E.size
    have L7 := lts_ans (HF.on E).here.1.2 ((HF.on E).here.1.1.1.1.1.1.1.1.1.1.1.1.1.1.1.1.2).1.lt
    have OY : ∀ q9, (Mut (outM [])) q9 → q9 < (World.drew w34).heap.size → (Mut [((Value.slice A8 (8 * n) c8).ownBlock), ((Value.slice A7 (8 * n) c7).ownBlock)]) q9 := fun k h _ => (Mut.none_) k h
    refine cw_drawn (Mut [((Value.slice A8 (8 * n) c8).ownBlock), ((Value.slice A7 (8 * n) c7).ownBlock)]) (Mut.grow (Mut.grow Mut.none_ (owns_lt Ols)) (owns_lt Owas)) [⟨6, 7, 24, #[.bool false, .slice none 0 0]⟩] [] (fxAt [Fx.of (.agg #[.bool n1, .slice (some ⟨ga, 0, none⟩) xs.length (xs.length + 6)]),
        ⟨(Option Addr × Nat), fun (Ao, co) => .agg #[.bool (decide ((1 : Int) < 0)), .slice Ao (limbs 1).length co], fun (Ao, co) b => (Nums b Ao (limbs 1))⟩,
        ⟨(Option Addr × Nat), fun (A9, c9) => .tuple #[.agg #[.bool (decide (Vw < 0)), .slice A9 (limbs Vw).length c9], .int .i64 Ew], fun (A9, c9) b => (Own b S7 A9 c9 (limbs Vw))⟩,
        ⟨(Option Addr × Nat), fun (A9, c9) => .tuple #[.agg #[.bool (decide (Vw < 0)), .slice A9 (limbs Vw).length c9], .int .i64 Ew], fun (A9, c9) b => (Own b S7 A9 c9 (limbs Vw))⟩,
        ⟨(Option Addr × Nat), fun (A9, c9) => .agg #[.bool (decide (Vw < 0)), .slice A9 (limbs Vw).length c9], fun (A9, c9) b => (Own b S7 A9 c9 (limbs Vw))⟩,
        Fx.of (.int .i64 Ew),
        Fx.of undef,
        Fx.of undef,
        Fx.of (.int .i64 Ew)]) mixed rfl trivial (fun _ h => by cases h) ?_ ?_
    · refine ⟨?_, ?_, ?_, ?_, ?_, ?_, ?_, ?_, ?_, trivial⟩
      · intro vs X wq K
        have LE := K.1
        have XN := K.2.1
        have SQ := Nat.le_trans LW.size (Nat.le_trans E.size LE.size)
        exact ow_loadB Tryd.underlying24 rfl sz24 rfl (HF.on (E.drew.trans (LE.mono OY))).here.1.1.1.1.1.1.1.1.1.1.1.1.1.1.1.2 rfl ⟨Below.refl _ _, Left.of rfl⟩
      · intro vs X wq K
        have LE := K.1
        have XN := K.2.1
        have SQ := Nat.le_trans LW.size (Nat.le_trans E.size LE.size)
        refine ow_enter en22 rfl ((of_any 1 _ (by decide) (by decide)).mono ?_)
        rintro e w2 ⟨Ao, co, rfl, oo, hb⟩
        exact ⟨_, rfl, hb, ⟨(Ao, co), rfl, (Per.ownX oo XN).map (fun _ h => h.nums)⟩⟩
      · intro vs X wq K
        have LE := K.1
        have XN := K.2.1
        have SQ := Nat.le_trans LW.size (Nat.le_trans E.size LE.size)
        obtain ⟨_, e0, k0⟩ := K.dep 0 rfl rfl rfl
        refine ow_set 80 (.agg #[.bool n1, .slice (some ⟨ga, 0, none⟩) xs.length (xs.length + 6)]) rfl e0 ?_
        obtain ⟨⟨Ao, co⟩, e1, k1⟩ := K.dep 1 rfl rfl rfl
        refine ow_set 81 (.agg #[.bool (decide ((1 : Int) < 0)), .slice Ao (limbs 1).length co]) rfl e1 ?_
        refine ow_enter en38 rfl ((hw _ (some ⟨ga, 0, none⟩) (xs.length + 6) Ao co (((HF.on (E.drew.trans (LE.mono OY))).here.1.1.1.1.1.1.1.1.1.1.1.1.1.1.1.1.2).1.nums hxm) k1.here).mono ?_)
        rintro e w2 ⟨A9, c9, rfl, o9, hb⟩
        exact ⟨_, rfl, hb, ⟨(A9, c9), rfl, (Per.ownX o9 XN).map (fun _ h => h.mono (hS7 ▸ LE.size))⟩⟩
      · intro vs X wq K
        have LE := K.1
        have XN := K.2.1
        have SQ := Nat.le_trans LW.size (Nat.le_trans E.size LE.size)
        obtain ⟨⟨A9, c9⟩, e2, k2⟩ := K.dep 2 rfl rfl rfl
        refine ow_set 82 (.tuple #[.agg #[.bool (decide (Vw < 0)), .slice A9 (limbs Vw).length c9], .int .i64 Ew]) rfl e2 ?_
        exact ow_move rfl ⟨Below.refl _ _, ⟨⟨A9, c9⟩, rfl, (k2.map (fun _ h => h))⟩⟩
      · intro vs X wq K
        have LE := K.1
        have XN := K.2.1
        have SQ := Nat.le_trans LW.size (Nat.le_trans E.size LE.size)
        obtain ⟨⟨A9, c9⟩, e3, k3⟩ := K.dep 3 rfl rfl rfl
        refine ow_set 79 (.tuple #[.agg #[.bool (decide (Vw < 0)), .slice A9 (limbs Vw).length c9], .int .i64 Ew]) rfl e3 ?_
        exact ow_extract rfl rfl ⟨Below.refl _ _, ⟨⟨A9, c9⟩, rfl, (k3.map (fun _ h => h))⟩⟩
      · intro vs X wq K
        have LE := K.1
        have XN := K.2.1
        have SQ := Nat.le_trans LW.size (Nat.le_trans E.size LE.size)
        obtain ⟨⟨A9, c9⟩, e3, k3⟩ := K.dep 3 rfl rfl rfl
        refine ow_set 79 (.tuple #[.agg #[.bool (decide (Vw < 0)), .slice A9 (limbs Vw).length c9], .int .i64 Ew]) rfl e3 ?_
        exact ow_extract rfl rfl ⟨Below.refl _ _, Left.of rfl⟩
      · exact ⟨_, _, _, _, _, rfl, zr24, rfl⟩
      · refine ⟨_, _, _, _, _, rfl, rfl, rfl, sz24, fun vs X wq K => ?_⟩
        obtain ⟨⟨A9, c9⟩, e0, _⟩ := K.dep 4 rfl rfl rfl
        exact ⟨vs 4, rfl, by rw [e0]; rfl, by rw [e0]; rfl⟩
      · intro vs X wq K
        have LE := K.1
        have XN := K.2.1
        have SQ := Nat.le_trans LW.size (Nat.le_trans E.size LE.size)
        obtain ⟨_, e5, k5⟩ := K.dep 5 rfl rfl rfl
        refine ow_set 84 (.int .i64 Ew) rfl e5 ?_
        exact ow_assign rfl ⟨Below.refl _ _, Left.of rfl⟩
    intro vs w35 LE AO AL AF AA
    have LOwas := Owas
    have LOls := Ols
    replace Owas := owns_extN (w := World.drew _) Owas LE NotIn.nil
    replace Ols := owns_extN (w := World.drew _) Ols LE NotIn.nil
    replace E := E.drew.trans (LE.mono OY)
    obtain ⟨⟨A9, c9⟩, e4, k4⟩ := AL.2.2.2.2.1
    replace HF := HF.on E
    replace LW := LW.step E XLW
    replace M10 := M10.step E XM10
    replace E := Ext.refl (Mut [((Value.slice A8 (8 * n) c8).ownBlock), ((Value.slice A7 (8 * n) c7).ownBlock)]) w35
    replace HF := HF.and ((k4.map (fun _ h => h) : Per (Mut [((Value.slice A8 (8 * n) c8).ownBlock), ((Value.slice A7 (8 * n) c7).ownBlock)]) w35 (fun b => Own b S7 A9 c9 (limbs Vw))))
    obtain ⟨gb36, v0, y0, qb36, Gb36, Bb36, ey, ev0⟩ := AF.1
    cases ey
    obtain rfl : vs 4 = v0 := Option.some.inj ev0
    rw [e4] at Bb36
    have Db36_was : Apart (some gb36) ((Value.slice A8 (8 * n) c8).ownBlock) := Apart.of_lt (owns_lt LOwas) Gb36
    have Dwas_b36 := Db36_was.symm
    have Db36_ls : Apart (some gb36) ((Value.slice A7 (8 * n) c7).ownBlock) := Apart.of_lt (owns_lt LOls) Gb36
    have Dls_b36 := Db36_ls.symm
    replace HF := HF.on E
    replace LW := LW.step E XLW
    replace M10 := M10.step E XM10
    replace E := Ext.refl (Mut [((Value.slice A8 (8 * n) c8).ownBlock), ((Value.slice A7 (8 * n) c7).ownBlock)]) w35
    replace HF := HF.and ((Per.blkN Bb36 (NotIn.cons Db36_was (NotIn.cons Db36_ls NotIn.nil)) : Per (Mut [((Value.slice A8 (8 * n) c8).ownBlock), ((Value.slice A7 (8 * n) c7).ownBlock)]) w35 (fun b => Blk b gb36 24 #[.bool (decide (Vw < 0)), .slice A9 (limbs Vw).length c9])))
    clear Bb36
    have e6 := qb36
    refine ew_sub (τ := [(2, _), (3, _), (4, _), (5, _), (6, _), (7, _), (8, _), (9, _), (10, _), (12, _), (14, _), (16, _), (17, _), (19, _), (20, .pointer (some ⟨gb36, 0, none⟩))]) ⟨rfl, rfl, rfl, rfl, rfl, rfl, rfl, rfl, rfl, rfl, rfl, rfl, rfl, rfl, congrArg some e6, trivial⟩ ?_
    clear AL AF AA LE AO OY e4 e6 k4 LOwas LOls
    have o7 := (HF.on E).here.1.2
    have p7 := (sep_in p6).new (hS7 ▸ L7) o7
    have S7w : w.heap.size ≤ S7 := hS7 ▸ SW7
    replace HF := HF.on E
    replace LW := LW.step E XLW
    replace M10 := M10.step E XM10
    replace E := Ext.refl (Mut [((Value.slice A8 (8 * n) c8).ownBlock), ((Value.slice A7 (8 * n) c7).ownBlock)]) w35
    replace HF := HF.and (Per.ans (ans_snoc (k := 8 * n + 6) (HF.on E).here.1.1.1.2 (by simp [hzl]) (by rw [hZ, Nat.mul_add_mod]; rfl) o7 S7w rfl) (blk_not Owas (by decide)) (blk_not Ols (by decide)))
    refine ew_next ?_
    refine cw_seq ?_
    refine cw_region ?_
    refine rs_op rfl (ow_loadB Tryd.underlying24 rfl sz24 rfl (HF.on E).here.1.1.1.1.1.1.1.1.1.1.1.1.1.1.1.1.1.1.2 rfl ?_)
    refine rs_op rfl (ow_build (cs := #[.bool false, .slice none 0 0]) pl24 zr24 rfl rfl ?_)
    have L8 := lts_ans (HF.on E).here.2 ((HF.on E).here.1.1.1.1.1.1.1.1.1.1.1.1.1.1.1.1.1.1.1.2).1.lt
    refine rs_op rfl (ow_enter en27 rfl ((hv _ (some ⟨ga, 0, none⟩) (xs.length + 6) none 0 (((HF.on E).here.1.1.1.1.1.1.1.1.1.1.1.1.1.1.1.1.1.1.1.2).1.nums hxm) nums_nil).mono ?_))
    rintro e w37 ⟨A10, c10, rfl, o8, hb⟩
    refine ⟨_, rfl, ?_⟩
    have XC : ∀ q9, (Mut [((Value.slice A8 (8 * n) c8).ownBlock), ((Value.slice A7 (8 * n) c7).ownBlock)]) q9 → q9 < w35.heap.size := (Mut.grow (Mut.grow Mut.none_ (owns_lt Ols)) (owns_lt Owas))
    have SC := Nat.le_trans LW.size E.size
    have SE := E.size
    have Ec := Ext.of_below hb No
    replace Owas := owns_extN Owas Ec NotIn.nil
    replace Ols := owns_extN Ols Ec NotIn.nil
    replace E := E.trans Ec.no
    clear hb Ec
    have p8 := (sep_in p7).new L8 o8
    replace HF := HF.on E
    replace LW := LW.step E XLW
    replace M10 := M10.step E XM10
    replace E := Ext.refl (Mut [((Value.slice A8 (8 * n) c8).ownBlock), ((Value.slice A7 (8 * n) c7).ownBlock)]) w37
    replace HF := HF.and (Per.ans (ans_snoc (k := 8 * n + 7) (HF.on E).here.2 (by simp [hzl]) (by rw [hZ, Nat.mul_add_mod]; rfl) o8 SC rfl) (blk_not Owas (by decide)) (blk_not Ols (by decide)))
    refine rs_op rfl (ow_move rfl ?_)
    refine rs_op rfl (ow_extract rfl rfl ?_)
    refine rs_op rfl (ow_extract rfl rfl ?_)
    refine rs_op rfl (ow_allocB zr24 ?_)
    intro gb38 w39 Bb38 Eb38 Gb38
    have Db38_was : Apart (some gb38) ((Value.slice A8 (8 * n) c8).ownBlock) := Apart.of_lt (owns_lt Owas) Gb38
    have Dwas_b38 := Db38_was.symm
    have Db38_ls : Apart (some gb38) ((Value.slice A7 (8 * n) c7).ownBlock) := Apart.of_lt (owns_lt Ols) Gb38
    have Dls_b38 := Db38_ls.symm
    have Gb38 : _ ≤ gb38 := Nat.le_trans E.size Gb38
    have GLb38 := Nat.le_trans LW.size Gb38
    replace Owas := owns_extN Owas Eb38 NotIn.nil
    replace Ols := owns_extN Ols Eb38 NotIn.nil
    replace E := E.trans Eb38.no
    clear Eb38
    replace HF := HF.cons (some_ge Gb38)
    replace E := E.cons (some gb38)
    replace XLW := Mut.grow XLW (fun k e => Or.inr (Nat.le_trans LW.size ((some_ge Gb38) k e)))
    replace XM10 := Mut.grow XM10 (fun k e => Or.inr (Nat.le_trans M10.size ((some_ge Gb38) k e)))
    refine rs_op0 (ow_storeM sz24 rfl rfl Bb38 rfl rfl (Nat.le_of_ble_eq_true rfl) ?_)
    intro w40 Bx Eb38
    replace Bb38 := Bx
    clear Bx
    replace Owas := owns_extN Owas Eb38 (NotIn.cons Dwas_b38 NotIn.nil)
    replace Ols := owns_extN Ols Eb38 (NotIn.cons Dls_b38 NotIn.nil)
    replace E := E.step1 Eb38 Mut.head
    clear Eb38
    refine rs_op rfl (ow_assign rfl ?_)
    refine rs_nil ?_
    refine ew_next ?_
    refine cw_seq ?_
    refine cw_region ?_
    refine rs_op rfl (ow_loadB Tryd.underlying24 rfl sz24 rfl (HF.on E).here.1.1.1.1.1.1.1.1.1.1.1.1.1.2 rfl ?_)
    refine rs_op rfl (ow_loadB Tryd.underlying24 rfl sz24 rfl (HF.on E).here.1.1.1.1.1.1.1.1.1.1.1.2 rfl ?_)
    refine rs_op rfl (ow_loadB Tryd.underlying24 rfl sz24 rfl (HF.on E).here.1.1.1.1.1.1.1.1.1.2 rfl ?_)
    refine rs_op rfl (ow_loadB Tryd.underlying24 rfl sz24 rfl (HF.on E).here.1.1.1.1.1.1.1.2 rfl ?_)
    refine rs_op rfl (ow_loadB Tryd.underlying24 rfl sz24 rfl (HF.on E).here.1.1.1.1.1.1.2 rfl ?_)
    refine rs_op rfl (ow_loadB Tryd.underlying24 rfl sz24 rfl (HF.on E).here.1.1.1.1.2 rfl ?_)
    refine rs_op rfl (ow_loadB Tryd.underlying24 rfl sz24 rfl (HF.on E).here.1.1.2 rfl ?_)
    refine rs_op rfl (ow_loadB Tryd.underlying24 rfl sz24 rfl Bb38 rfl ?_)
    refine rs_op rfl (ow_buildSlice (cs := #[.bool (decide (Vs < 0)), .slice A1 (limbs Vs).length c1, .bool (decide (Vd < 0)), .slice A2 (limbs Vd).length c2, .bool (decide (Vp < 0)), .slice A3 (limbs Vp).length c3, .bool (decide (Vq < 0)), .slice A4 (limbs Vq).length c4, .bool (decide (Vr < 0)), .slice A5 (limbs Vr).length c5, .bool (decide (Vt < 0)), .slice A6 (limbs Vt).length c6, .bool (decide (Vw < 0)), .slice A9 (limbs Vw).length c9, .bool (decide (Vv < 0)), .slice A10 (limbs Vv).length c10]) Tryd.underlying61 sz24 zr24 (by decide) rfl (fill8x2 (.bool (decide (Vs < 0))) (.slice A1 (limbs Vs).length c1) (.bool (decide (Vd < 0))) (.slice A2 (limbs Vd).length c2) (.bool (decide (Vp < 0))) (.slice A3 (limbs Vp).length c3) (.bool (decide (Vq < 0))) (.slice A4 (limbs Vq).length c4) (.bool (decide (Vr < 0))) (.slice A5 (limbs Vr).length c5) (.bool (decide (Vt < 0))) (.slice A6 (limbs Vt).length c6) (.bool (decide (Vw < 0))) (.slice A9 (limbs Vw).length c9) (.bool (decide (Vv < 0))) (.slice A10 (limbs Vv).length c10)) ?_)
    intro gb41 w42 Bb41 Eb41 Gb41
    have Db41_b38 : Apart (some gb41) (some gb38) := Apart.of_lt (some_lt Bb38.lt) Gb41
    have Db38_b41 := Db41_b38.symm
    have Db41_was : Apart (some gb41) ((Value.slice A8 (8 * n) c8).ownBlock) := Apart.of_lt (owns_lt Owas) Gb41
    have Dwas_b41 := Db41_was.symm
    have Db41_ls : Apart (some gb41) ((Value.slice A7 (8 * n) c7).ownBlock) := Apart.of_lt (owns_lt Ols) Gb41
    have Dls_b41 := Db41_ls.symm
    have Gb41 : _ ≤ gb41 := Nat.le_trans E.size Gb41
    have GLb41 := Nat.le_trans LW.size Gb41
    replace Bb38 := Bb38.extN Eb41 NotIn.nil
    replace Owas := owns_extN Owas Eb41 NotIn.nil
    replace Ols := owns_extN Ols Eb41 NotIn.nil
    replace E := E.trans Eb41.no
    clear Eb41
    replace HF := HF.cons (some_ge Gb41)
    replace E := E.cons (some gb41)
    replace XLW := Mut.grow XLW (fun k e => Or.inr (Nat.le_trans LW.size ((some_ge Gb41) k e)))
    replace XM10 := Mut.grow XM10 (fun k e => Or.inr (Nat.le_trans M10.size ((some_ge Gb41) k e)))
    replace HF := HF.on E
    replace LW := LW.step E XLW
    replace M10 := M10.step E XM10
    have SB : ∀ q9, Mut [(some gb38), ((Value.slice A8 (8 * n) c8).ownBlock), ((Value.slice A7 (8 * n) c7).ownBlock)] q9 → Mut [(some gb41), (some gb38), ((Value.slice A8 (8 * n) c8).ownBlock), ((Value.slice A7 (8 * n) c7).ownBlock)] q9 := (Mut.skip (Mut.keep (Mut.keep (Mut.keep Mut.nil_))))
    replace HF := HF.less SB
    replace XLW := fun k h => XLW k (SB k h)
    replace XM10 := fun k h => XM10 k (SB k h)
    clear SB
    replace E := Ext.refl (Mut [(some gb38), ((Value.slice A8 (8 * n) c8).ownBlock), ((Value.slice A7 (8 * n) c7).ownBlock)]) w42
    replace HF := HF.and (Per.blkN Bb41 (NotIn.cons Db41_b38 (NotIn.cons Db41_was (NotIn.cons Db41_ls NotIn.nil))))
    clear Bb41
    refine rs_op rfl (ow_len Tryd.underlying61 rfl ?_)
    refine rs_op rfl (ow_move rfl ?_)
    refine rs_nil ?_
    refine ew_next ?_
    refine cw_block ?_
    replace HF := HF.on E
    replace LW := LW.step E XLW
    replace M10 := M10.step E XM10
    have SB : ∀ q9, Mut [((Value.slice A8 (8 * n) c8).ownBlock), ((Value.slice A7 (8 * n) c7).ownBlock)] q9 → Mut [(some gb38), ((Value.slice A8 (8 * n) c8).ownBlock), ((Value.slice A7 (8 * n) c7).ownBlock)] q9 := (Mut.skip (Mut.keep (Mut.keep Mut.nil_)))
    replace HF := HF.less SB
    replace XLW := fun k h => XLW k (SB k h)
    replace XM10 := fun k h => XM10 k (SB k h)
    clear SB
    replace E := Ext.refl (Mut [((Value.slice A8 (8 * n) c8).ownBlock), ((Value.slice A7 (8 * n) c7).ownBlock)]) w42
    replace HF := HF.and (Per.blkN Bb38 (NotIn.cons Db38_was (NotIn.cons Db38_ls NotIn.nil)))
    clear Bb38
    obtain ⟨new8, hnew⟩ : ∃ new8 : List Ans, new8 = [(Vs, A1, c1), (Vd, A2, c2), (Vp, A3, c3), (Vq, A4, c4), (Vr, A5, c5), (Vt, A6, c6), (Vw, A9, c9), (Vv, A10, c10)] := ⟨_, rfl⟩
    have hn8 : new8.length = 8 := by rw [hnew]; rfl
    obtain ⟨z8, hz8e⟩ : ∃ z8, z8 = zs ++ new8 := ⟨_, rfl⟩
    have hz8l : z8.length = 8 * n + 8 := by rw [hz8e, List.length_append, hzl, hn8]
    have hz8a : AnsOK Z w.heap.size z8 w42 := by rw [hz8e, hnew]; exact (app8 zs _ _ _ _ _ _ _ _) ▸ (HF.on E).here.1.1.2
    have hsep8 : Sep (some ga :: z8.map blkOf) := by rw [hz8e, hnew]; exact (app8 zs _ _ _ _ _ _ _ _) ▸ sep_in (V := Vv) (c := c10) p8
    replace Ols : World.ownsRow w42 w.heap.size 22 1 (.slice A7 (8 * n + 0) c7) (8 * n + 0) ((zs ++ new8.take 0).map ansS) := by rw [List.take_zero, List.append_nil]; exact Ols
    have hcs : ∀ {w' : World}, Blk w' gb41 24 #[.bool (decide (Vs < 0)), .slice A1 (limbs Vs).length c1, .bool (decide (Vd < 0)), .slice A2 (limbs Vd).length c2, .bool (decide (Vp < 0)), .slice A3 (limbs Vp).length c3, .bool (decide (Vq < 0)), .slice A4 (limbs Vq).length c4, .bool (decide (Vr < 0)), .slice A5 (limbs Vr).length c5, .bool (decide (Vt < 0)), .slice A6 (limbs Vt).length c6, .bool (decide (Vw < 0)), .slice A9 (limbs Vw).length c9, .bool (decide (Vv < 0)), .slice A10 (limbs Vv).length c10] → Blk w' gb41 24 (new8.flatMap ansB).toArray := fun h => by rw [hnew]; exact h
    replace HF := HF.on E
    replace LW := LW.step E XLW
    replace M10 := M10.step E XM10
    replace E := Ext.refl (Mut [((Value.slice A8 (8 * n) c8).ownBlock), ((Value.slice A7 (8 * n) c7).ownBlock)]) w42
    replace HF := HF.and (Per.ans hz8a (blk_not Owas (by decide)) (blk_not Ols (by decide)))
    replace HF := HF.on E
    replace LW := LW.step E XLW
    replace M10 := M10.step E XM10
    replace E := Ext.refl (Mut [((Value.slice A8 (8 * n) c8).ownBlock), ((Value.slice A7 (8 * n) c7).ownBlock)]) w42
    refine cw_loop (ι := Nat × List Ans × Option Addr × Nat × Option Addr × Nat) (fun (j, us, A17, c17, A18, c18) => [(2, .pointer (some ⟨gb1, 0, none⟩)), (3, .pointer (some ⟨gb3, 0, none⟩)), (4, .bool false), (5, .pointer (some ⟨gb7, 0, none⟩)), (6, .pointer (some ⟨gb9, 0, none⟩)), (7, .slice A17 (8 * n + j) c17), (8, .slice A18 (8 * n + j) c18), (9, .int .i64 (n : Int)), (99, .slice (some ⟨gb41, 0, none⟩) 8 8), (100, .int .i64 ((8 : Nat) : Int)), (101, .int .i64 (j : Int))]) (fun (j, us, A17, c17, A18, c18) w' => Ext (Mut [((Value.slice A8 (8 * n) c8).ownBlock), ((Value.slice A7 (8 * n) c7).ownBlock)]) w42 w' ∧ World.ownsRow w' w.heap.size 24 2 (.slice A18 (8 * n + j) c18) (8 * n + j) (us.flatMap ansB) ∧ World.ownsRow w' w.heap.size 22 1 (.slice A17 (8 * n + j) c17) (8 * n + j) ((zs ++ new8.take j).map ansS) ∧ (∀ q9, ((Value.slice A18 (8 * n + j) c18).ownBlock) = some q9 → ((Value.slice A8 (8 * n) c8).ownBlock) = some q9 ∨ w42.heap.size ≤ q9) ∧ (∀ q9, ((Value.slice A17 (8 * n + j) c17).ownBlock) = some q9 → ((Value.slice A7 (8 * n) c7).ownBlock) = some q9 ∨ w42.heap.size ≤ q9) ∧ Apart ((Value.slice A18 (8 * n + j) c18).ownBlock) ((Value.slice A17 (8 * n + j) c17).ownBlock) ∧ (j ≤ 8 ∧ us.length = 8 * n + j ∧ AnsOK Z w.heap.size us w' ∧ NoB ga us)) (fun (j, us, A17, c17, A18, c18) => 8 - j) (0, us, A7, c7, A8, c8) ⟨rfl, rfl, rfl, rfl, rfl, rfl, rfl, rfl, rfl, rfl, rfl, trivial⟩ ⟨Ext.refl _ _, (by exact Owas), (by exact Ols), (fun _ e => Or.inl e), (fun _ e => Or.inl e), (by exact Dwas_ls), ⟨Nat.zero_le _, hul, (HF.on E).here.1.1.1.1.1.1.1.1.1.1.1.1.1.1.1.1.1.1.2, hnb0⟩⟩ ?_
    have LTwas := (owns_lt Owas)
    have LTls := (owns_lt Ols)
    clear Owas
    clear Ols
    rintro ⟨j, us, A17, c17, A18, c18⟩ w44 ⟨M43, Owas, Ols, KwasM43, KlsM43, Pwas_ls, ⟨hj, hul2, hu2, hnb2⟩⟩
    replace Dwas_ls := Pwas_ls
    replace Dls_was := Pwas_ls.symm
    have XM43 : ∀ q9, (Mut [((Value.slice A18 (8 * n + j) c18).ownBlock), ((Value.slice A17 (8 * n + j) c17).ownBlock)]) q9 → (Mut [((Value.slice A8 (8 * n) c8).ownBlock), ((Value.slice A7 (8 * n) c7).ownBlock)]) q9 ∨ w42.heap.size ≤ q9 := (Mut.grow (Mut.grow Mut.none_ (fun k e => (KlsM43 k e).elim (fun e => Or.inl ((Mut.tail Mut.head) k e)) Or.inr)) (fun k e => (KwasM43 k e).elim (fun e => Or.inl (Mut.head k e)) Or.inr))
    replace E := E.trans M43
    replace HF := HF.turn E XM43
    have ZLW := LW.size
    have XT := fun q9 (h : (Mut [((Value.slice A18 (8 * n + j) c18).ownBlock), ((Value.slice A17 (8 * n + j) c17).ownBlock)]) q9) => (XM43 q9 h).elim (XLW q9) (fun h => Or.inr (Nat.le_trans LW.size h))
    replace LW := LW.step E XLW
    replace XLW := XT
    clear XT
    have ZM10 := M10.size
    have XT := fun q9 (h : (Mut [((Value.slice A18 (8 * n + j) c18).ownBlock), ((Value.slice A17 (8 * n + j) c17).ownBlock)]) q9) => (XM43 q9 h).elim (XM10 q9) (fun h => Or.inr (Nat.le_trans M10.size h))
    replace M10 := M10.step E XM10
    replace XM10 := XT
    clear XT
    replace KwasM10 : ∀ q9, ((Value.slice A18 (8 * n + j) c18).ownBlock) = some q9 → ((Value.slice none 0 0).ownBlock) = some q9 ∨ w8.heap.size ≤ q9 := fun k e => (KwasM43 k e).elim (KwasM10 k) (fun h => Or.inr (Nat.le_trans (by first | exact ZM10 | exact M10.size | omega) h))
    replace KlsM10 : ∀ q9, ((Value.slice A17 (8 * n + j) c17).ownBlock) = some q9 → ((Value.slice none 0 0).ownBlock) = some q9 ∨ w8.heap.size ≤ q9 := fun k e => (KlsM43 k e).elim (KlsM10 k) (fun h => Or.inr (Nat.le_trans (by first | exact ZM10 | exact M10.size | omega) h))
    clear ZLW
    clear ZM10
    replace E := Ext.refl (Mut [((Value.slice A18 (8 * n + j) c18).ownBlock), ((Value.slice A17 (8 * n + j) c17).ownBlock)]) w44
    clear LTwas
    clear LTls
    refine cw_seq ?_
    refine cw_region ?_
    refine rs_op rfl (ow_lss rfl rfl ?_)
    refine rs_nil ?_
    refine ew_next ?_
    refine cw_seq ?_
    refine cw_cond rfl (fun q2 => ?_) (fun q2 => ?_)
    · have _way := True.intro
      have q2 := of_decide_eq_true q2
      have hj8 : j < 8 := by omega
      obtain ⟨a, ha⟩ : ∃ a, new8[j]? = some a := ⟨_, List.getElem?_eq_getElem (by omega)⟩
      have haz : z8[8 * n + j]? = some a := by rw [hz8e, List.getElem?_append_right (by omega), hzl, Nat.add_sub_cancel_left]; exact ha
      replace HF := HF.on E
      replace LW := LW.step E XLW
      replace M10 := M10.step E XM10
      replace M43 := M43.step E XM43
      replace E := Ext.refl (Mut [((Value.slice A18 (8 * n + j) c18).ownBlock), ((Value.slice A17 (8 * n + j) c17).ownBlock)]) w44
      replace HF := HF.and (Per.ans hu2 (blk_not Owas (by decide)) (blk_not Ols (by decide)))
      refine cw_skip ?_
      refine ew_next ?_
      refine cw_seq ?_
      refine cw_block ?_
      refine cw_seq ?_
      refine cw_region ?_
      refine rs_op rfl (ow_indexAddr (s := 2) (j := j) Tryd.underlying61 sz24 rfl rfl rfl hj8 ?_)
      refine rs_op rfl (ow_loadN (cs := #[.bool (decide (a.1 < 0)), .slice a.2.1 (limbs a.1).length a.2.2]) Tryd.underlying24 rfl sz24 rfl rfl (pair_cells (hcs (HF.on E).here.1.1.1.2) ha) ?_)
      refine rs_op rfl (ow_allocB zr24 ?_)
      intro gb45 w46 Bb45 Eb45 Gb45
      have Db45_was : Apart (some gb45) ((Value.slice A18 (8 * n + j) c18).ownBlock) := Apart.of_lt (owns_lt Owas) Gb45
      have Dwas_b45 := Db45_was.symm
      have Db45_ls : Apart (some gb45) ((Value.slice A17 (8 * n + j) c17).ownBlock) := Apart.of_lt (owns_lt Ols) Gb45
      have Dls_b45 := Db45_ls.symm
      have Gb45 : _ ≤ gb45 := Nat.le_trans E.size Gb45
      have GLb45 := Nat.le_trans LW.size Gb45
      replace Owas := owns_extN Owas Eb45 NotIn.nil
      replace Ols := owns_extN Ols Eb45 NotIn.nil
      replace E := E.trans Eb45.no
      clear Eb45
      replace HF := HF.cons (some_ge Gb45)
      replace E := E.cons (some gb45)
      replace XLW := Mut.grow XLW (fun k e => Or.inr (Nat.le_trans LW.size ((some_ge Gb45) k e)))
      replace XM10 := Mut.grow XM10 (fun k e => Or.inr (Nat.le_trans M10.size ((some_ge Gb45) k e)))
      replace XM43 := Mut.grow XM43 (fun k e => Or.inr (Nat.le_trans M43.size ((some_ge Gb45) k e)))
      refine rs_op0 (ow_storeM sz24 rfl rfl Bb45 rfl rfl (Nat.le_of_ble_eq_true rfl) ?_)
      intro w47 Bx Eb45
      replace Bb45 := Bx
      clear Bx
      replace Owas := owns_extN Owas Eb45 (NotIn.cons Dwas_b45 NotIn.nil)
      replace Ols := owns_extN Ols Eb45 (NotIn.cons Dls_b45 NotIn.nil)
      replace E := E.step1 Eb45 Mut.head
      clear Eb45
      refine rs_nil ?_
      refine ew_next ?_
      refine cw_seq ?_
      refine cw_region ?_
      refine rs_op rfl (ow_move rfl ?_)
      refine rs_op rfl (ow_fieldAddr Tryd.underlying24 rfl sz22 (by decide) rfl ?_)
      refine rs_op rfl (ow_loadF Tryd.underlying22 rfl rfl Bb45 rfl ?_)
      refine rs_op rfl (ow_buildSlice (cs := #[.slice a.2.1 (limbs a.1).length a.2.2]) Tryd.underlying60 sz22 zr22 (by decide) rfl (by rw [map_range_]; rfl) ?_)
      intro gb48 w49 Bb48 Eb48 Gb48
      have Db48_b45 : Apart (some gb48) (some gb45) := Apart.of_lt (some_lt Bb45.lt) Gb48
      have Db45_b48 := Db48_b45.symm
      have Db48_was : Apart (some gb48) ((Value.slice A18 (8 * n + j) c18).ownBlock) := Apart.of_lt (owns_lt Owas) Gb48
      have Dwas_b48 := Db48_was.symm
      have Db48_ls : Apart (some gb48) ((Value.slice A17 (8 * n + j) c17).ownBlock) := Apart.of_lt (owns_lt Ols) Gb48
      have Dls_b48 := Db48_ls.symm
      have Gb48 : _ ≤ gb48 := Nat.le_trans E.size Gb48
      have GLb48 := Nat.le_trans LW.size Gb48
      replace Bb45 := Bb45.extN Eb48 NotIn.nil
      replace Owas := owns_extN Owas Eb48 NotIn.nil
      replace Ols := owns_extN Ols Eb48 NotIn.nil
      replace E := E.trans Eb48.no
      clear Eb48
      replace HF := HF.cons (some_ge Gb48)
      replace E := E.cons (some gb48)
      replace XLW := Mut.grow XLW (fun k e => Or.inr (Nat.le_trans LW.size ((some_ge Gb48) k e)))
      replace XM10 := Mut.grow XM10 (fun k e => Or.inr (Nat.le_trans M10.size ((some_ge Gb48) k e)))
      replace XM43 := Mut.grow XM43 (fun k e => Or.inr (Nat.le_trans M43.size ((some_ge Gb48) k e)))
      replace HF := HF.on E
      replace LW := LW.step E XLW
      replace M10 := M10.step E XM10
      replace M43 := M43.step E XM43
      have SB : ∀ q9, Mut [(some gb45), ((Value.slice A18 (8 * n + j) c18).ownBlock), ((Value.slice A17 (8 * n + j) c17).ownBlock)] q9 → Mut [(some gb48), (some gb45), ((Value.slice A18 (8 * n + j) c18).ownBlock), ((Value.slice A17 (8 * n + j) c17).ownBlock)] q9 := (Mut.skip (Mut.keep (Mut.keep (Mut.keep Mut.nil_))))
      replace HF := HF.less SB
      replace XLW := fun k h => XLW k (SB k h)
      replace XM10 := fun k h => XM10 k (SB k h)
      replace XM43 := fun k h => XM43 k (SB k h)
      clear SB
      replace E := Ext.refl (Mut [(some gb45), ((Value.slice A18 (8 * n + j) c18).ownBlock), ((Value.slice A17 (8 * n + j) c17).ownBlock)]) w49
      replace HF := HF.and (Per.blkN Bb48 (NotIn.cons Db48_b45 (NotIn.cons Db48_was (NotIn.cons Db48_ls NotIn.nil))))
      clear Bb48
      replace HF := HF.on E
      replace LW := LW.step E XLW
      replace M10 := M10.step E XM10
      replace M43 := M43.step E XM43
      have SB : ∀ q9, Mut [((Value.slice A18 (8 * n + j) c18).ownBlock), ((Value.slice A17 (8 * n + j) c17).ownBlock)] q9 → Mut [(some gb45), ((Value.slice A18 (8 * n + j) c18).ownBlock), ((Value.slice A17 (8 * n + j) c17).ownBlock)] q9 := (Mut.skip (Mut.keep (Mut.keep Mut.nil_)))
      replace HF := HF.less SB
      replace XLW := fun k h => XLW k (SB k h)
      replace XM10 := fun k h => XM10 k (SB k h)
      replace XM43 := fun k h => XM43 k (SB k h)
      clear SB
      replace E := Ext.refl (Mut [((Value.slice A18 (8 * n + j) c18).ownBlock), ((Value.slice A17 (8 * n + j) c17).ownBlock)]) w49
      replace HF := HF.and (Per.blkN Bb45 (NotIn.cons Db45_was (NotIn.cons Db45_ls NotIn.nil)))
      clear Bb45
      refine rs_op rfl (ow_append (news := [.slice a.2.1 (limbs a.1).length a.2.2]) Tryd.underlying60 inf22 rfl (by decide) rfl Ols rfl (reads_row (HF.on E).here.1.2 ((HF.on E).here.1.2).lt rfl) (by simp [Value.oneCell']) (by unfold maxLen; omega) (by omega) (by exact Nat.le_trans LW.size E.size) ?_)
      intro v0 w50 On En KN
      obtain ⟨A27, c27, rfl⟩ := owns_shape On
      replace KN : ∀ q9, ((Value.slice A27 (8 * n + (j + 1)) c27).ownBlock) = some q9 → ((Value.slice A17 (8 * n + j) c17).ownBlock) = some q9 ∨ w49.heap.size ≤ q9 := KN
      have LTwas := (owns_lt Owas)
      replace Owas := owns_extN Owas En (NotIn.cons Dwas_ls NotIn.nil)
      replace Dls_was : Apart ((Value.slice A27 (8 * n + (j + 1)) c27).ownBlock) ((Value.slice A18 (8 * n + j) c18).ownBlock) := Dls_was.turn KN LTwas
      replace Dwas_ls := Dls_was.symm
      clear LTwas
      have HY : ∀ q9, (Mut [((Value.slice A18 (8 * n + j) c18).ownBlock), ((Value.slice A27 (8 * n + (j + 1)) c27).ownBlock)]) q9 → (Mut [((Value.slice A18 (8 * n + j) c18).ownBlock), ((Value.slice A17 (8 * n + j) c17).ownBlock)]) q9 ∨ w49.heap.size ≤ q9 := (Mut.grow (Mut.grow Mut.none_ (fun k e => (KN k e).elim (fun e => Or.inl ((Mut.tail Mut.head) k e)) (fun h => Or.inr (Nat.le_trans E.size h)))) (fun k e => Or.inl (Mut.head k e)))
      replace KlsM10 : ∀ q9, ((Value.slice A27 (8 * n + (j + 1)) c27).ownBlock) = some q9 → ((Value.slice none 0 0).ownBlock) = some q9 ∨ w8.heap.size ≤ q9 := fun k e => (KN k e).elim (KlsM10 k) (fun h => Or.inr (Nat.le_trans M10.size (Nat.le_trans E.size h)))
      replace KlsM43 : ∀ q9, ((Value.slice A27 (8 * n + (j + 1)) c27).ownBlock) = some q9 → ((Value.slice A7 (8 * n) c7).ownBlock) = some q9 ∨ w42.heap.size ≤ q9 := fun k e => (KN k e).elim (KlsM43 k) (fun h => Or.inr (Nat.le_trans M43.size (Nat.le_trans E.size h)))
      replace E := E.step1 En (Mut.tail Mut.head)
      replace HF := HF.turn E HY
      have XT := fun q9 (h : (Mut [((Value.slice A18 (8 * n + j) c18).ownBlock), ((Value.slice A27 (8 * n + (j + 1)) c27).ownBlock)]) q9) => (HY q9 h).elim (XLW q9) (fun h => Or.inr (Nat.le_trans LW.size h))
      replace LW := LW.step E XLW
      replace XLW := XT
      clear XT
      have XT := fun q9 (h : (Mut [((Value.slice A18 (8 * n + j) c18).ownBlock), ((Value.slice A27 (8 * n + (j + 1)) c27).ownBlock)]) q9) => (HY q9 h).elim (XM10 q9) (fun h => Or.inr (Nat.le_trans M10.size h))
      replace M10 := M10.step E XM10
      replace XM10 := XT
      clear XT
      have XT := fun q9 (h : (Mut [((Value.slice A18 (8 * n + j) c18).ownBlock), ((Value.slice A27 (8 * n + (j + 1)) c27).ownBlock)]) q9) => (HY q9 h).elim (XM43 q9) (fun h => Or.inr (Nat.le_trans M43.size h))
      replace M43 := M43.step E XM43
      replace XM43 := XT
      clear XT
      replace E := Ext.refl (Mut [((Value.slice A18 (8 * n + j) c18).ownBlock), ((Value.slice A27 (8 * n + (j + 1)) c27).ownBlock)]) w50
      clear HY
      replace Ols : World.ownsRow w50 w.heap.size 22 1 (.slice A27 (8 * n + (j + 1)) c27) (8 * n + (j + 1)) ((zs ++ new8.take (j + 1)).map ansS) := by
        have e : (((zs ++ new8.take j).map ansS) : List Value) ++ ([.slice a.2.1 (limbs a.1).length a.2.2] : List Value) = (zs ++ new8.take (j + 1)).map ansS := by rw [take_next ha, ← List.append_assoc, List.map_append (l₁ := zs ++ new8.take j)]; rfl
        rw [← e]
        exact On
      clear On KN En
      refine rs_op rfl (ow_assign rfl ?_)
      refine rs_nil ?_
      refine ew_next ?_
      refine cw_region ?_
      refine rs_op rfl (ow_move rfl ?_)
      refine rs_op rfl (ow_loadB Tryd.underlying24 rfl sz24 rfl (HF.on E).here.2 rfl ?_)
      have hna := ((((HF.on E).here.1.1.1.2) _ _ haz).2).nums
      have hla := limbs_length (hZ30 _ _ (((HF.on E).here.1.1.1.2) _ _ haz).1)
      have hgl28 := ((HF.on E).here.1.1.1.1.1.1.1.1.1.1.1.1.1.1.1.1.1.1.1.1.1.1.1.1.1.1.2).1.lt
      refine rs_op rfl (ow_enter en41 rfl ((rcopy_any a.2.1 a.2.2 (limbs a.1) _ (decide (a.1 < 0)) hna (by omega)).mono ?_))
      rintro e w51 ⟨A28, c28, rfl, o28, hb⟩
      refine ⟨_, rfl, ?_⟩
      have XC : ∀ q9, (Mut [((Value.slice A18 (8 * n + j) c18).ownBlock), ((Value.slice A27 (8 * n + (j + 1)) c27).ownBlock)]) q9 → q9 < w50.heap.size := (Mut.grow (Mut.grow Mut.none_ (owns_lt Ols)) (owns_lt Owas))
      have SC := Nat.le_trans LW.size E.size
      have SE := E.size
      have Ec := Ext.of_below hb No
      replace Owas := owns_extN Owas Ec NotIn.nil
      replace Ols := owns_extN Ols Ec NotIn.nil
      replace E := E.trans Ec.no
      clear hb Ec
      have hu3 := ans_snoc (k := 8 * n + j) (HF.on E).here.1.1.2 hul2 (((HF.on E).here.1.1.1.2) _ _ haz).1 o28 SC rfl
      replace HF := HF.on E
      replace LW := LW.step E XLW
      replace M10 := M10.step E XM10
      replace M43 := M43.step E XM43
      replace E := Ext.refl (Mut [((Value.slice A18 (8 * n + j) c18).ownBlock), ((Value.slice A27 (8 * n + (j + 1)) c27).ownBlock)]) w51
      replace HF := HF.and (Per.ans hu3 (blk_not Owas (by decide)) (blk_not Ols (by decide)))
      refine rs_op rfl (ow_buildSlice (cs := #[.bool (decide (a.1 < 0)), .slice A28 (limbs a.1).length c28]) Tryd.underlying61 sz24 zr24 (by decide) rfl (by rw [map_range_]; rfl) ?_)
      intro gb52 w53 Bb52 Eb52 Gb52
      have Db52_was : Apart (some gb52) ((Value.slice A18 (8 * n + j) c18).ownBlock) := Apart.of_lt (owns_lt Owas) Gb52
      have Dwas_b52 := Db52_was.symm
      have Db52_ls : Apart (some gb52) ((Value.slice A27 (8 * n + (j + 1)) c27).ownBlock) := Apart.of_lt (owns_lt Ols) Gb52
      have Dls_b52 := Db52_ls.symm
      have Gb52 : _ ≤ gb52 := Nat.le_trans E.size Gb52
      have GLb52 := Nat.le_trans LW.size Gb52
      replace Owas := owns_extN Owas Eb52 NotIn.nil
      replace Ols := owns_extN Ols Eb52 NotIn.nil
      replace E := E.trans Eb52.no
      clear Eb52
      replace HF := HF.cons (some_ge Gb52)
      replace E := E.cons (some gb52)
      replace XLW := Mut.grow XLW (fun k e => Or.inr (Nat.le_trans LW.size ((some_ge Gb52) k e)))
      replace XM10 := Mut.grow XM10 (fun k e => Or.inr (Nat.le_trans M10.size ((some_ge Gb52) k e)))
      replace XM43 := Mut.grow XM43 (fun k e => Or.inr (Nat.le_trans M43.size ((some_ge Gb52) k e)))
      replace HF := HF.on E
      replace LW := LW.step E XLW
      replace M10 := M10.step E XM10
      replace M43 := M43.step E XM43
      have SB : ∀ q9, Mut [((Value.slice A18 (8 * n + j) c18).ownBlock), ((Value.slice A27 (8 * n + (j + 1)) c27).ownBlock)] q9 → Mut [(some gb52), ((Value.slice A18 (8 * n + j) c18).ownBlock), ((Value.slice A27 (8 * n + (j + 1)) c27).ownBlock)] q9 := (Mut.skip (Mut.keep (Mut.keep Mut.nil_)))
      replace HF := HF.less SB
      replace XLW := fun k h => XLW k (SB k h)
      replace XM10 := fun k h => XM10 k (SB k h)
      replace XM43 := fun k h => XM43 k (SB k h)
      clear SB
      replace E := Ext.refl (Mut [((Value.slice A18 (8 * n + j) c18).ownBlock), ((Value.slice A27 (8 * n + (j + 1)) c27).ownBlock)]) w53
      replace HF := HF.and (Per.blkN Bb52 (NotIn.cons Db52_was (NotIn.cons Db52_ls NotIn.nil)))
      clear Bb52
      refine rs_op rfl (ow_append (news := [.bool (decide (a.1 < 0)), .slice A28 (limbs a.1).length c28]) Tryd.underlying61 inf24 rfl (by decide) rfl Owas rfl (reads_rowN (HF.on E).here.2 ((HF.on E).here.2).lt rfl) (by simp [Value.oneCell']) (by unfold maxLen; omega) (by omega) (by exact Nat.le_trans LW.size E.size) ?_)
      intro v0 w54 On En KN
      obtain ⟨A29, c29, rfl⟩ := owns_shape On
      replace KN : ∀ q9, ((Value.slice A29 (8 * n + (j + 1)) c29).ownBlock) = some q9 → ((Value.slice A18 (8 * n + j) c18).ownBlock) = some q9 ∨ w53.heap.size ≤ q9 := KN
      have LTls := (owns_lt Ols)
      replace Ols := owns_extN Ols En (NotIn.cons Dls_was NotIn.nil)
      replace Dwas_ls : Apart ((Value.slice A29 (8 * n + (j + 1)) c29).ownBlock) ((Value.slice A27 (8 * n + (j + 1)) c27).ownBlock) := Dwas_ls.turn KN LTls
      replace Dls_was := Dwas_ls.symm
      clear LTls
      have HY : ∀ q9, (Mut [((Value.slice A29 (8 * n + (j + 1)) c29).ownBlock), ((Value.slice A27 (8 * n + (j + 1)) c27).ownBlock)]) q9 → (Mut [((Value.slice A18 (8 * n + j) c18).ownBlock), ((Value.slice A27 (8 * n + (j + 1)) c27).ownBlock)]) q9 ∨ w53.heap.size ≤ q9 := (Mut.grow (Mut.grow Mut.none_ (fun k e => Or.inl ((Mut.tail Mut.head) k e))) (fun k e => (KN k e).elim (fun e => Or.inl (Mut.head k e)) (fun h => Or.inr (Nat.le_trans E.size h))))
      replace KwasM10 : ∀ q9, ((Value.slice A29 (8 * n + (j + 1)) c29).ownBlock) = some q9 → ((Value.slice none 0 0).ownBlock) = some q9 ∨ w8.heap.size ≤ q9 := fun k e => (KN k e).elim (KwasM10 k) (fun h => Or.inr (Nat.le_trans M10.size (Nat.le_trans E.size h)))
      replace KwasM43 : ∀ q9, ((Value.slice A29 (8 * n + (j + 1)) c29).ownBlock) = some q9 → ((Value.slice A8 (8 * n) c8).ownBlock) = some q9 ∨ w42.heap.size ≤ q9 := fun k e => (KN k e).elim (KwasM43 k) (fun h => Or.inr (Nat.le_trans M43.size (Nat.le_trans E.size h)))
      replace E := E.step1 En Mut.head
      replace HF := HF.turn E HY
      have XT := fun q9 (h : (Mut [((Value.slice A29 (8 * n + (j + 1)) c29).ownBlock), ((Value.slice A27 (8 * n + (j + 1)) c27).ownBlock)]) q9) => (HY q9 h).elim (XLW q9) (fun h => Or.inr (Nat.le_trans LW.size h))
      replace LW := LW.step E XLW
      replace XLW := XT
      clear XT
      have XT := fun q9 (h : (Mut [((Value.slice A29 (8 * n + (j + 1)) c29).ownBlock), ((Value.slice A27 (8 * n + (j + 1)) c27).ownBlock)]) q9) => (HY q9 h).elim (XM10 q9) (fun h => Or.inr (Nat.le_trans M10.size h))
      replace M10 := M10.step E XM10
      replace XM10 := XT
      clear XT
      have XT := fun q9 (h : (Mut [((Value.slice A29 (8 * n + (j + 1)) c29).ownBlock), ((Value.slice A27 (8 * n + (j + 1)) c27).ownBlock)]) q9) => (HY q9 h).elim (XM43 q9) (fun h => Or.inr (Nat.le_trans M43.size h))
      replace M43 := M43.step E XM43
      replace XM43 := XT
      clear XT
      replace E := Ext.refl (Mut [((Value.slice A29 (8 * n + (j + 1)) c29).ownBlock), ((Value.slice A27 (8 * n + (j + 1)) c27).ownBlock)]) w54
      clear HY
      replace Owas : World.ownsRow w54 w.heap.size 24 2 (.slice A29 (8 * n + (j + 1)) c29) (8 * n + (j + 1)) ((us ++ [(a.1, A28, c28)]).flatMap ansB) := by
        have e : ((us.flatMap ansB) : List Value) ++ ([.bool (decide (a.1 < 0)), .slice A28 (limbs a.1).length c28] : List Value) = (us ++ [(a.1, A28, c28)]).flatMap ansB := by rw [List.flatMap_append]; rfl
        rw [← e]
        exact On
      clear On KN En
      refine rs_op rfl (ow_assign rfl ?_)
      refine rs_nil ?_
      refine ew_block_normal ?_
      refine ew_next ?_
      refine cw_region ?_
      refine rs_op rfl (ow_add rfl rfl (wrap_i64 (by omega)) ?_)
      refine rs_op rfl (ow_move rfl ?_)
      refine rs_nil ?_
      exact ew_round (ι := Nat × List Ans × Option Addr × Nat × Option Addr × Nat) (s := fun (j, us, A17, c17, A18, c18) => [(2, .pointer (some ⟨gb1, 0, none⟩)), (3, .pointer (some ⟨gb3, 0, none⟩)), (4, .bool false), (5, .pointer (some ⟨gb7, 0, none⟩)), (6, .pointer (some ⟨gb9, 0, none⟩)), (7, .slice A17 (8 * n + j) c17), (8, .slice A18 (8 * n + j) c18), (9, .int .i64 (n : Int)), (99, .slice (some ⟨gb41, 0, none⟩) 8 8), (100, .int .i64 ((8 : Nat) : Int)), (101, .int .i64 (j : Int))]) (R := fun (j, us, A17, c17, A18, c18) w' => Ext (Mut [((Value.slice A8 (8 * n) c8).ownBlock), ((Value.slice A7 (8 * n) c7).ownBlock)]) w42 w' ∧ World.ownsRow w' w.heap.size 24 2 (.slice A18 (8 * n + j) c18) (8 * n + j) (us.flatMap ansB) ∧ World.ownsRow w' w.heap.size 22 1 (.slice A17 (8 * n + j) c17) (8 * n + j) ((zs ++ new8.take j).map ansS) ∧ (∀ q9, ((Value.slice A18 (8 * n + j) c18).ownBlock) = some q9 → ((Value.slice A8 (8 * n) c8).ownBlock) = some q9 ∨ w42.heap.size ≤ q9) ∧ (∀ q9, ((Value.slice A17 (8 * n + j) c17).ownBlock) = some q9 → ((Value.slice A7 (8 * n) c7).ownBlock) = some q9 ∨ w42.heap.size ≤ q9) ∧ Apart ((Value.slice A18 (8 * n + j) c18).ownBlock) ((Value.slice A17 (8 * n + j) c17).ownBlock) ∧ (j ≤ 8 ∧ us.length = 8 * n + j ∧ AnsOK Z w.heap.size us w' ∧ NoB ga us)) (m := fun (j, us, A17, c17, A18, c18) => 8 - j) (i := ⟨j, us, A17, c17, A18, c18⟩) (j + 1, us ++ [(a.1, A28, c28)], A27, c27, A29, c29) (by show 8 - (j + 1) < 8 - j; omega) ⟨rfl, rfl, rfl, rfl, rfl, rfl, rfl, rfl, rfl, rfl, rfl, trivial⟩ ⟨M43.step E XM43, (by exact Owas), (by exact Ols), KwasM43, KlsM43, (by exact Dwas_ls), ⟨by omega, by rw [List.length_append, hul2]; rfl, (HF.on E).here.1.2, hnb2.snoc hgl28 o28⟩⟩
    · have _way := True.intro
      have q2 := of_decide_eq_false q2
      have hj8 : j = 8 := by omega
      subst hj8
      rw [List.take_of_length_le (by omega), ← hz8e] at Ols
      refine cw_exit ?_
      refine ew_then_exit ?_
      refine ew_then_exit ?_
      refine ew_block_here ?_
      refine ew_block_normal ?_
      refine ew_next ?_
      refine cw_region ?_
      refine rs_op rfl (ow_move rfl ?_)
      refine rs_op rfl (ow_add rfl rfl (wrap_i64 (by omega)) ?_)
      refine rs_op rfl (ow_assign rfl ?_)
      refine rs_nil ?_
      exact ew_round (ι := Nat × List Ans × List Ans × Option Addr × Nat × Option Addr × Nat) (s := fun (n, zs, us, A7, c7, A8, c8) => [(2, .pointer (some ⟨gb1, 0, none⟩)), (3, .pointer (some ⟨gb3, 0, none⟩)), (4, .bool false), (5, .pointer (some ⟨gb7, 0, none⟩)), (6, .pointer (some ⟨gb9, 0, none⟩)), (7, .slice A7 (8 * n) c7), (8, .slice A8 (8 * n) c8), (9, .int .i64 (n : Int))]) (R := fun (n, zs, us, A7, c7, A8, c8) w' => Ext (Mut [((Value.slice none 0 0).ownBlock), ((Value.slice none 0 0).ownBlock)]) w8 w' ∧ World.ownsRow w' w.heap.size 24 2 (.slice A8 (8 * n) c8) (8 * n) (us.flatMap ansB) ∧ World.ownsRow w' w.heap.size 22 1 (.slice A7 (8 * n) c7) (8 * n) (zs.map ansS) ∧ (∀ q9, ((Value.slice A8 (8 * n) c8).ownBlock) = some q9 → ((Value.slice none 0 0).ownBlock) = some q9 ∨ w8.heap.size ≤ q9) ∧ (∀ q9, ((Value.slice A7 (8 * n) c7).ownBlock) = some q9 → ((Value.slice none 0 0).ownBlock) = some q9 ∨ w8.heap.size ≤ q9) ∧ Apart ((Value.slice A8 (8 * n) c8).ownBlock) ((Value.slice A7 (8 * n) c7).ownBlock) ∧ (n ≤ 2 ∧ zs.length = 8 * n ∧ us.length = 8 * n ∧ AnsOK Z w.heap.size zs w' ∧ AnsOK Z w.heap.size us w' ∧ Sep (some ga :: zs.map blkOf) ∧ NoB ga us)) (m := fun (n, zs, us, A7, c7, A8, c8) => 2 - n) (i := ⟨n, zs, us, A7, c7, A8, c8⟩) (n + 1, z8, us, A17, c17, A18, c18) (by show 2 - (n + 1) < 2 - n; omega) ⟨rfl, rfl, rfl, rfl, rfl, rfl, rfl, rfl, trivial⟩ ⟨M10.step E XM10, (by exact Owas), (by exact Ols), KwasM10, KlsM10, (by exact Dwas_ls), ⟨by omega, hz8l, hul2, (HF.on E).here.2, hu2, hsep8, hnb2⟩⟩
  · have _way := True.intro
    have q := of_decide_eq_false q
    have hn2 : n = 2 := by omega
    subst hn2
    have hzl : zs.length = 16 := hzl
    have hul : us.length = 16 := hul
    obtain ⟨gw, rfl, hgw1, hgw2, hcw⟩ := owns_cellsN Owas (by decide)
    obtain ⟨csw, hgwB0⟩ := owns_blk Owas
    have hRA := (HF.on E).here.1.1.1.2
    have hRB := (HF.on E).here.1.2
    have R_b1 := (HF.on E).here.1.1.1.1.1.2
    have R_b3 := (HF.on E).here.1.1.1.1.2
    have R_b7 := (HF.on E).here.1.1.2
    have R_b9 := (HF.on E).here.2
    have LWn : Ext No w w11 := (LW.step E XLW)
    clear HF E LW XLW
    have HF : Per (No) w11 (fun _ => True) := Per.true_
    have LW := LWn
    clear LWn
    have XLW : ∀ q9, (No) q9 → (No) q9 ∨ w.heap.size ≤ q9 := Mut.none_
    have E := Ext.refl (No) w11
    replace HF := HF.on E
    replace LW := LW.step E XLW
    replace E := Ext.refl (No) w11
    replace HF := HF.and (Per.blk R_b1 (fun h => h.elim))
    replace HF := HF.on E
    replace LW := LW.step E XLW
    replace E := Ext.refl (No) w11
    replace HF := HF.and (Per.blk R_b3 (fun h => h.elim))
    replace HF := HF.on E
    replace LW := LW.step E XLW
    replace E := Ext.refl (No) w11
    replace HF := HF.and (Per.blk R_b7 (fun h => h.elim))
    replace HF := HF.on E
    replace LW := LW.step E XLW
    replace E := Ext.refl (No) w11
    replace HF := HF.and (Per.blk R_b9 (fun h => h.elim))
    replace HF := HF.on E
    replace LW := LW.step E XLW
    replace E := Ext.refl (No) w11
    replace HF := HF.and (Per.ans0 hz0)
    replace HF := HF.on E
    replace LW := LW.step E XLW
    replace E := Ext.refl (No) w11
    replace HF := HF.and (Per.ans0 hu0)
    replace HF := HF.on E
    replace LW := LW.step E XLW
    replace E := Ext.refl (No) w11
    replace HF := HF.and ((fun _ hb => ⟨hRA.1.extX hb (fun h => h.elim), hRA.2⟩ : Per No _ (fun b => Roomy b ga xs ∧ w.heap.size ≤ ga)))
    replace HF := HF.on E
    replace LW := LW.step E XLW
    replace E := Ext.refl (No) w11
    replace HF := HF.and ((fun _ hb => ⟨hRB.1.extX hb (fun h => h.elim), hRB.2⟩ : Per No _ (fun b => Roomy b gb ys ∧ w.heap.size ≤ gb ∧ Nat.lt ga gb)))
    replace HF := HF.on E
    replace LW := LW.step E XLW
    replace E := Ext.refl (No) w11
    replace HF := HF.and (Per.blk hgwB0 (fun h => h.elim))
    replace HF := HF.on E
    replace LW := LW.step E XLW
    replace E := Ext.refl (No) w11
    replace HF := HF.and (Per.cellsN hcw)
    replace HF := HF.on E
    replace LW := LW.step E XLW
    replace E := Ext.refl (No) w11
    replace HF := HF.and ((fun _ hb => Ext.ownsX hb Ols (fun _ _ h => h.elim) : Per No _ (fun b => b.ownsRow w.heap.size 22 1 (.slice A7 16 c7) 16 (zs.map ansS))))
    refine cw_exit ?_
    refine ew_then_exit ?_
    refine ew_then_exit ?_
    refine ew_block_here ?_
    refine ew_next ?_
    refine cw_seq ?_
    refine cw_seq ?_
    refine cw_region ?_
    refine rs_op rfl (ow_assign rfl ?_)
    refine rs_nil ?_
    refine ew_next ?_
    refine cw_block ?_
    replace HF := HF.on E
    replace LW := LW.step E XLW
    replace E := Ext.refl (No) w11
    refine cw_loop (ι := Nat) (fun i => [(2, .pointer (some ⟨gb1, 0, none⟩)), (3, .pointer (some ⟨gb3, 0, none⟩)), (4, .bool false), (5, .pointer (some ⟨gb7, 0, none⟩)), (6, .pointer (some ⟨gb9, 0, none⟩)), (7, .slice A7 16 c7), (8, .slice (some ⟨gw, 0, none⟩) 16 c8), (26, .int .i64 (i : Int))]) (fun i w' => Ext (No) w11 w' ∧ (True)) (fun i => 8 - i) 0 ⟨rfl, rfl, rfl, rfl, rfl, rfl, rfl, rfl, trivial⟩ ⟨Ext.refl _ _, trivial⟩ ?_
    rintro i w56 ⟨M55, _⟩
    have XM55 : ∀ q9, (No) q9 → (No) q9 ∨ w11.heap.size ≤ q9 := fun _ h => Or.inl h
    replace E := E.trans M55
    replace HF := HF.on E
    replace LW := LW.step E XLW
    replace E := Ext.refl (No) w56
    refine cw_seq ?_
    refine cw_seq ?_
    refine cw_region ?_
    refine rs_op rfl (ow_move rfl ?_)
    refine rs_op rfl (ow_lss rfl rfl ?_)
    refine rs_nil ?_
    refine ew_next ?_
    refine cw_cond rfl (fun q3 => ?_) (fun q3 => ?_)
    · have _way := True.intro
      have q3 := of_decide_eq_true q3
      have hi8 : i < 8 := by omega
      obtain ⟨a, ha⟩ : ∃ a, us[i]? = some a := ⟨_, List.getElem?_eq_getElem (by omega)⟩
      obtain ⟨b2, hb2⟩ : ∃ a, us[i + 8]? = some a := ⟨_, List.getElem?_eq_getElem (by omega)⟩
      have hza := (((HF.on E).here.1.1.1.1.1.2) _ _ ha).1
      have hzb := (((HF.on E).here.1.1.1.1.1.2) _ _ hb2).1
      have hab : b2.1 = a.1 := by rw [Nat.add_mod_right, hza] at hzb; exact (Option.some.inj hzb).symm
      refine cw_skip ?_
      refine ew_next ?_
      refine cw_seq ?_
      refine cw_block ?_
      refine cw_seq ?_
      have OY : ∀ q9, (Mut (outM [])) q9 → q9 < (World.drew w56).heap.size → (No) q9 := fun k h _ => (Mut.none_) k h
      refine cw_drawn (No) Mut.none_ [] [] (fxAt [Fx.of (.slice (some ⟨gw, 0, none⟩) 16 c8),
          Fx.of (.int .i64 (i : Int)),
          Fx.of (.pointer (some ⟨gw, 0 + i * 2, none⟩)),
          Fx.of (.agg #[.bool (decide (a.1 < 0)), .slice a.2.1 (limbs a.1).length a.2.2]),
          Fx.of (.slice (some ⟨gw, 0, none⟩) 16 c8),
          Fx.of (.int .i64 (i : Int)),
          Fx.of (.int .i64 ((i : Int) + 8)),
          Fx.of (.pointer (some ⟨gw, 0 + (i + 8) * 2, none⟩)),
          Fx.of (.agg #[.bool (decide (b2.1 < 0)), .slice b2.2.1 (limbs b2.1).length b2.2.2]),
          Fx.of (.bool true),
          Fx.of (.bool false)]) mixed rfl trivial (fun _ h => by cases h) ?_ ?_
      · refine ⟨?_, ?_, ?_, ?_, ?_, ?_, ?_, ?_, ?_, ?_, ?_, trivial⟩
        · intro vs X wq K
          have LE := K.1
          have XN := K.2.1
          have SQ := Nat.le_trans LW.size (Nat.le_trans E.size LE.size)
          exact ow_move rfl ⟨Below.refl _ _, Left.of rfl⟩
        · intro vs X wq K
          have LE := K.1
          have XN := K.2.1
          have SQ := Nat.le_trans LW.size (Nat.le_trans E.size LE.size)
          exact ow_move rfl ⟨Below.refl _ _, Left.of rfl⟩
        · intro vs X wq K
          have LE := K.1
          have XN := K.2.1
          have SQ := Nat.le_trans LW.size (Nat.le_trans E.size LE.size)
          obtain ⟨_, e0, k0⟩ := K.dep 0 rfl rfl rfl
          refine ow_set 120 (.slice (some ⟨gw, 0, none⟩) 16 c8) rfl e0 ?_
          obtain ⟨_, e1, k1⟩ := K.dep 1 rfl rfl rfl
          refine ow_set 121 (.int .i64 (i : Int)) rfl e1 ?_
          exact ow_indexAddr (s := 2) (j := i) Tryd.underlying61 sz24 rfl rfl rfl (by omega) ⟨Below.refl _ _, Left.of rfl⟩
        · intro vs X wq K
          have LE := K.1
          have XN := K.2.1
          have SQ := Nat.le_trans LW.size (Nat.le_trans E.size LE.size)
          obtain ⟨_, e2, k2⟩ := K.dep 2 rfl rfl rfl
          refine ow_set 122 (.pointer (some ⟨gw, 0 + i * 2, none⟩)) rfl e2 ?_
          exact ow_loadN (cs := #[.bool (decide (a.1 < 0)), .slice a.2.1 (limbs a.1).length a.2.2]) Tryd.underlying24 rfl sz24 rfl rfl (pairN (HF.on (E.drew.trans (LE.mono OY))).here.1.2 ha) ⟨Below.refl _ _, Left.of rfl⟩
        · intro vs X wq K
          have LE := K.1
          have XN := K.2.1
          have SQ := Nat.le_trans LW.size (Nat.le_trans E.size LE.size)
          exact ow_move rfl ⟨Below.refl _ _, Left.of rfl⟩
        · intro vs X wq K
          have LE := K.1
          have XN := K.2.1
          have SQ := Nat.le_trans LW.size (Nat.le_trans E.size LE.size)
          exact ow_move rfl ⟨Below.refl _ _, Left.of rfl⟩
        · intro vs X wq K
          have LE := K.1
          have XN := K.2.1
          have SQ := Nat.le_trans LW.size (Nat.le_trans E.size LE.size)
          obtain ⟨_, e5, k5⟩ := K.dep 5 rfl rfl rfl
          refine ow_set 125 (.int .i64 (i : Int)) rfl e5 ?_
          exact ow_add rfl rfl (wrap_i64 (by omega)) ⟨Below.refl _ _, Left.of rfl⟩
        · intro vs X wq K
          have LE := K.1
          have XN := K.2.1
          have SQ := Nat.le_trans LW.size (Nat.le_trans E.size LE.size)
          obtain ⟨_, e4, k4⟩ := K.dep 4 rfl rfl rfl
          refine ow_set 124 (.slice (some ⟨gw, 0, none⟩) 16 c8) rfl e4 ?_
          obtain ⟨_, e6, k6⟩ := K.dep 6 rfl rfl rfl
          refine ow_set 126 (.int .i64 ((i : Int) + 8)) rfl e6 ?_
          exact ow_indexAddr (s := 2) (j := i + 8) Tryd.underlying61 sz24 rfl rfl rfl (by omega) ⟨Below.refl _ _, Left.of rfl⟩
        · intro vs X wq K
          have LE := K.1
          have XN := K.2.1
          have SQ := Nat.le_trans LW.size (Nat.le_trans E.size LE.size)
          obtain ⟨_, e7, k7⟩ := K.dep 7 rfl rfl rfl
          refine ow_set 127 (.pointer (some ⟨gw, 0 + (i + 8) * 2, none⟩)) rfl e7 ?_
          exact ow_loadN (cs := #[.bool (decide (b2.1 < 0)), .slice b2.2.1 (limbs b2.1).length b2.2.2]) Tryd.underlying24 rfl sz24 rfl rfl (pairN (HF.on (E.drew.trans (LE.mono OY))).here.1.2 hb2) ⟨Below.refl _ _, Left.of rfl⟩
        · intro vs X wq K
          have LE := K.1
          have XN := K.2.1
          have SQ := Nat.le_trans LW.size (Nat.le_trans E.size LE.size)
          obtain ⟨_, e3, k3⟩ := K.dep 3 rfl rfl rfl
          refine ow_set 123 (.agg #[.bool (decide (a.1 < 0)), .slice a.2.1 (limbs a.1).length a.2.2]) rfl e3 ?_
          obtain ⟨_, e8, k8⟩ := K.dep 8 rfl rfl rfl
          refine ow_set 128 (.agg #[.bool (decide (b2.1 < 0)), .slice b2.2.1 (limbs b2.1).length b2.2.2]) rfl e8 ?_
          refine ow_enter en21 rfl ((sameI a.2.1 b2.2.1 a.2.2 b2.2.2 _ (hZ30 _ _ hza) (hZ30 _ _ hzb) (((HF.on (E.drew.trans (LE.mono OY))).here.1.1.1.1.1.2) _ _ ha).2.nums (((HF.on (E.drew.trans (LE.mono OY))).here.1.1.1.1.1.2) _ _ hb2).2.nums hab).mono ?_)
          rintro e w2 ⟨rfl, hb⟩
          exact ⟨_, rfl, hb, Left.of rfl⟩
        · intro vs X wq K
          have LE := K.1
          have XN := K.2.1
          have SQ := Nat.le_trans LW.size (Nat.le_trans E.size LE.size)
          obtain ⟨_, e9, k9⟩ := K.dep 9 rfl rfl rfl
          refine ow_set 129 (.bool true) rfl e9 ?_
          exact ow_not rfl ⟨Below.refl _ _, Left.of rfl⟩
      intro vs w57 LE AO AL AF AA
      replace E := E.drew.trans (LE.mono OY)
      obtain ⟨_, e10, k10⟩ := AL.2.2.2.2.2.2.2.2.2.2.1
      refine ew_sub (τ := [(2, _), (3, _), (4, _), (5, _), (6, _), (7, _), (8, _), (26, _), (130, .bool false)]) ⟨rfl, rfl, rfl, rfl, rfl, rfl, rfl, rfl, congrArg some e10, trivial⟩ ?_
      clear AL AF AA LE AO OY e10 k10
      refine ew_next ?_
      refine cw_else rfl ?_
      refine cw_skip ?_
      refine ew_block_normal ?_
      refine ew_next ?_
      refine cw_region ?_
      refine rs_op rfl (ow_move rfl ?_)
      refine rs_op rfl (ow_add rfl rfl (wrap_i64 (by omega)) ?_)
      refine rs_op rfl (ow_assign rfl ?_)
      refine rs_nil ?_
      exact ew_round (ι := Nat) (s := fun i => [(2, .pointer (some ⟨gb1, 0, none⟩)), (3, .pointer (some ⟨gb3, 0, none⟩)), (4, .bool false), (5, .pointer (some ⟨gb7, 0, none⟩)), (6, .pointer (some ⟨gb9, 0, none⟩)), (7, .slice A7 16 c7), (8, .slice (some ⟨gw, 0, none⟩) 16 c8), (26, .int .i64 (i : Int))]) (R := fun i w' => Ext (No) w11 w' ∧ (True)) (m := fun i => 8 - i) (i := i) (i + 1) (by show 8 - (i + 1) < 8 - i; omega) ⟨rfl, rfl, rfl, rfl, rfl, rfl, rfl, rfl, trivial⟩ ⟨M55.step E XM55, trivial⟩
    · have _way := True.intro
      refine cw_exit ?_
      refine ew_then_exit ?_
      refine ew_then_exit ?_
      refine ew_block_here ?_
      refine ew_next ?_
      refine cw_seq ?_
      refine cw_seq ?_
      refine cw_region ?_
      refine rs_op rfl (ow_fieldAddr Tryd.underlying24 rfl sz22 (by decide) rfl ?_)
      refine rs_op rfl (ow_loadF Tryd.underlying22 rfl rfl (HF.on E).here.1.1.1.1.1.1.1.1.2 rfl ?_)
      refine rs_op rfl (ow_fieldAddr Tryd.underlying24 rfl sz22 (by decide) rfl ?_)
      refine rs_op rfl (ow_loadF Tryd.underlying22 rfl rfl (HF.on E).here.1.1.1.1.1.1.1.1.1.1.2 rfl ?_)
      refine rs_op rfl (ow_enter en42 rfl ((kept_any A c xs _ ga ((HF.on E).here.1.1.1.1.2).1 (hx.below ((LW.step E XLW).toBelow) (Nat.le_refl _)) hxl).mono ?_))
      rintro e w58 ⟨rfl, hb⟩
      refine ⟨_, rfl, ?_⟩
      have XC : ∀ q9, (No) q9 → q9 < w56.heap.size := Mut.none_
      have SC := Nat.le_trans LW.size E.size
      have SE := E.size
      have Ec := Ext.of_below hb No
      replace E := E.trans Ec.no
      clear hb Ec
      refine rs_op rfl (ow_not rfl ?_)
      refine rs_op rfl (ow_move rfl ?_)
      refine rs_op rfl (ow_on rfl (ow_fieldAddr Tryd.underlying24 rfl sz22 (by decide) rfl ?_))
      refine rs_op rfl (ow_on rfl (ow_loadF Tryd.underlying22 rfl rfl (HF.on E).here.1.1.1.1.1.1.1.2 rfl ?_))
      refine rs_op rfl (ow_on rfl (ow_fieldAddr Tryd.underlying24 rfl sz22 (by decide) rfl ?_))
      refine rs_op rfl (ow_on rfl (ow_loadF Tryd.underlying22 rfl rfl (HF.on E).here.1.1.1.1.1.1.1.1.1.2 rfl ?_))
      refine rs_op rfl (ow_on rfl (ow_enter en42 rfl ((kept_any B d ys _ gb ((HF.on E).here.1.1.1.2).1 (hy.below ((LW.step E XLW).toBelow) (Nat.le_refl _)) hyl).mono ?_)))
      rintro e w59 ⟨rfl, hb⟩
      refine ⟨_, rfl, ?_⟩
      have XC : ∀ q9, (No) q9 → q9 < w58.heap.size := Mut.none_
      have SC := Nat.le_trans LW.size E.size
      have SE := E.size
      have Ec := Ext.of_below hb No
      replace E := E.trans Ec.no
      clear hb Ec
      refine rs_op rfl (ow_on rfl (ow_not rfl ?_))
      refine rs_op rfl (ow_pickF rfl rfl ?_)
      refine rs_nil ?_
      refine ew_next ?_
      refine cw_else rfl ?_
      refine cw_skip ?_
      refine ew_next ?_
      refine cw_seq ?_
      refine cw_seq ?_
      refine cw_region ?_
      refine rs_op rfl (ow_assign rfl ?_)
      refine rs_nil ?_
      refine ew_next ?_
      refine cw_block ?_
      have hB7 := (HF.on E).here.1.1.1.1.1.1.1.1.2
      have hB1 := (HF.on E).here.1.1.1.1.1.1.1.1.1.1.2
      have hB3 := (HF.on E).here.1.1.1.1.1.1.1.1.1.2
      have hB9 := (HF.on E).here.1.1.1.1.1.1.1.2
      have hRa := ((HF.on E).here.1.1.1.1.2).1.blk
      have hga := ((HF.on E).here.1.1.1.1.2).2
      have hRb := ((HF.on E).here.1.1.1.2)
      have hZz := (HF.on E).here.1.1.1.1.1.1.2
      have hUu := (HF.on E).here.1.1.1.1.1.2
      have hCw := (HF.on E).here.1.2
      have hgwB := (HF.on E).here.1.1.2
      have hLs := (HF.on E).here.2
      have hLX := (LW.step E XLW)
      have hRow : Row w59 ga (xs.length + 6) (xs ++ marks xs.length) := ((HF.on E).here.1.1.1.1.2).1
      obtain ⟨w1, hw1⟩ : ∃ w1, w1 = w59 := ⟨_, rfl⟩
      rw [← hw1] at hB7 hB1 hB3 hB9 hgwB hRb hZz hUu hCw hLs hLX hRow
      have hgaN : ∀ {e : TypeId} {base n size : Nat} {v : Value} {l : List Value}, w1.ownsRow base e size v n l → e ≠ 63 → v.ownBlock ≠ some ga := fun o he => by
        obtain ⟨cs, h1, _⟩ := hRow.blk
        exact own_blk_ne o h1 he
      have hgB : ∀ {g : Nat} {t : TypeId} {cs : Array Value}, Blk w1 g t cs → t ≠ 63 → g ≠ ga := fun h ht e => by
        obtain ⟨cs, h1, _⟩ := hRow.blk
        exact Blk.ne_ h h1 ht e
      have hM : ∀ {g : Nat}, g ≠ ga → ¬ Mut [some ga] g := fun h hX => hX.elim (fun e => h (Option.some.inj e)) (fun e => e.elim)
      refine cw_loop (ι := Nat × List Nat) (fun (i, zl) => [(2, .pointer (some ⟨gb1, 0, none⟩)), (3, .pointer (some ⟨gb3, 0, none⟩)), (4, .bool false), (5, .pointer (some ⟨gb7, 0, none⟩)), (6, .pointer (some ⟨gb9, 0, none⟩)), (7, .slice A7 16 c7), (8, .slice (some ⟨gw, 0, none⟩) 16 c8), (27, .int .i64 (i : Int))]) (fun (i, zl) w' => i ≤ xs.length ∧ Ext (Mut [some ga]) w1 w' ∧ Row w' ga (xs.length + 6) zl ∧ zl.length = xs.length + 6 ∧ ∀ k, k < i → nth zl k = 3) (fun (i, zl) => xs.length - i) (0, xs ++ marks xs.length) ⟨rfl, rfl, rfl, rfl, rfl, rfl, rfl, rfl, trivial⟩ (⟨Nat.zero_le _, hw1 ▸ Ext.refl _ _, hw1 ▸ hRow, by rw [List.length_append, marks_len], fun k hk => absurd hk (Nat.not_lt_zero _)⟩) ?_
      rintro ⟨i, zl⟩ w61 ⟨hi, hE6, hR6, hzl6, h36⟩
      refine cw_seq ?_
      refine cw_seq ?_
      refine cw_region ?_
      refine rs_op rfl (ow_move rfl ?_)
      refine rs_op rfl (ow_fieldAddr Tryd.underlying24 rfl sz22 (by decide) rfl ?_)
      refine rs_op rfl (ow_loadF Tryd.underlying22 rfl rfl (hE6.blk hB7 (hM (hgB hB7 (by decide)))) rfl ?_)
      refine rs_op rfl (ow_len Tryd.underlying22 rfl ?_)
      refine rs_op rfl (ow_lss rfl rfl ?_)
      refine rs_nil ?_
      refine ew_next ?_
      refine cw_cond rfl (fun q4 => ?_) (fun q4 => ?_)
      · have _way := True.intro
        have q4 := of_decide_eq_true q4
        refine cw_skip ?_
        refine ew_next ?_
        refine cw_seq ?_
        refine cw_block ?_
        refine cw_region ?_
        refine rs_op rfl (ow_fieldAddr Tryd.underlying24 rfl sz22 (by decide) rfl ?_)
        refine rs_op rfl (ow_loadF Tryd.underlying22 rfl rfl (hE6.blk hB7 (hM (hgB hB7 (by decide)))) rfl ?_)
        refine rs_op rfl (ow_move rfl ?_)
        obtain ⟨cs6, hcs6, hcz6, _⟩ := hR6.blk
        refine rs_op rfl (ow_indexAddr1 (j := i) Tryd.underlying22 sz63 rfl rfl rfl (by omega) ?_)
        refine rs_set 155 (.pointer (some ⟨ga, i, none⟩)) rfl ((by rw [Nat.zero_add] : (.pointer (some ⟨ga, 0 + i, none⟩) : Value) = _)) ?_
        refine rs_op0 (ow_storeM sz63 rfl rfl hcs6 rfl rfl (by omega) ?_)
        rintro w6 hb6 he6
        have hr6 := row_set (v := 3) hR6 hcs6 hb6 (by omega)
        have h37 : ∀ k, k < i + 1 → nth (zl.set i 3) k = 3 := fun k hk => by
          rw [nth_set _ _ _ (by omega)]
          split
          · rfl
          · exact h36 k (by omega)
        refine rs_nil ?_
        refine ew_block_normal ?_
        refine ew_next ?_
        refine cw_region ?_
        refine rs_op rfl (ow_move rfl ?_)
        refine rs_op rfl (ow_add rfl rfl (wrap_i64 (by omega)) ?_)
        refine rs_op rfl (ow_assign rfl ?_)
        refine rs_nil ?_
        exact ew_round (ι := Nat × List Nat) (s := fun (i, zl) => [(2, .pointer (some ⟨gb1, 0, none⟩)), (3, .pointer (some ⟨gb3, 0, none⟩)), (4, .bool false), (5, .pointer (some ⟨gb7, 0, none⟩)), (6, .pointer (some ⟨gb9, 0, none⟩)), (7, .slice A7 16 c7), (8, .slice (some ⟨gw, 0, none⟩) 16 c8), (27, .int .i64 (i : Int))]) (R := fun (i, zl) w' => i ≤ xs.length ∧ Ext (Mut [some ga]) w1 w' ∧ Row w' ga (xs.length + 6) zl ∧ zl.length = xs.length + 6 ∧ ∀ k, k < i → nth zl k = 3) (m := fun (i, zl) => xs.length - i) (i := ⟨i, zl⟩) (i + 1, zl.set i 3) (by show xs.length - (i + 1) < xs.length - i; omega) ⟨rfl, rfl, rfl, rfl, rfl, rfl, rfl, rfl, trivial⟩ (⟨by omega, hE6.trans he6, hr6, by rw [List.length_set, hzl6], h37⟩)
      · have _way := True.intro
        have q4 := of_decide_eq_false q4
        have hi6 : i = xs.length := by omega
        subst hi6
        obtain ⟨th, hth⟩ : ∃ th : List Nat, th = List.replicate xs.length 3 := ⟨_, rfl⟩
        have hthl : th.length = xs.length := by rw [hth, List.length_replicate]
        have hthn : Nums w61 (some ⟨ga, 0, none⟩) th := ⟨fun k => by rw [hth]; unfold nth; rw [List.getD_eq_getElem?_getD, List.getElem?_replicate]; split <;> simp, fun _ => ⟨ga, 0, rfl, by obtain ⟨cs, h1, _⟩ := hR6.blk; exact h1.lt, fun k hk => by
          rw [Nat.zero_add, hR6.cell (by omega), h36 k (by omega)]
          have e : th[k]? = some 3 := by rw [hth, List.getElem?_replicate, if_pos (by omega)]
          rw [nth_get e]; rfl⟩⟩
        have hEN : Ext No w w61 := hLX.step hE6 (fun k hk => by
          rcases hk with hk | hk
          · cases hk; exact Or.inr hga
          · exact hk.elim)
        have hOne : ∀ {g : Nat}, ga ≠ g → ¬ Mut [some ga] g := fun h => hM (fun e => h e.symm)
        have hZ6 : AnsOK Z w.heap.size zs w61 := fun j a hj => ⟨(hZz j a hj).1, Ext.ownsX hE6 (hZz j a hj).2.1 (fun g hg hX => by
          rcases hX with hX | hX
          · cases hX
            cases hA : a.2.1 with
            | none => rw [hA] at hg; cases hg
            | some q => rw [hA] at hg; exact sep_ga hsep0 hj (by rw [hA]; exact hg)
          · exact hX.elim), (hZz j a hj).2.2⟩
        have hU6 : AnsOK Z w.heap.size us w61 := fun j a hj => ⟨(hUu j a hj).1, Ext.ownsX hE6 (hUu j a hj).2.1 (fun g hg hX => by
          rcases hX with hX | hX
          · cases hX
            cases hA : a.2.1 with
            | none => rw [hA] at hg; cases hg
            | some q => rw [hA] at hg; exact hnb0 a (List.mem_of_getElem? hj) q hA (Option.some.inj hg)
          · exact hX.elim), (hUu j a hj).2.2⟩
        have b1 := hE6.blk hB1 (hM (hgB hB1 (by decide)))
        have b3 := hE6.blk hB3 (hM (hgB hB3 (by decide)))
        have b7 := hE6.blk hB7 (hM (hgB hB7 (by decide)))
        have b9 := hE6.blk hB9 (hM (hgB hB9 (by decide)))
        have rb6 := hRb.1.extX hE6 (hOne (Nat.ne_of_lt hRb.2.2))
        have ls6 := Ext.ownsX hE6 hLs (fun g hg hX => hgaN hLs (by decide) (hX.elim (fun e => by cases e; exact hg) (fun e => e.elim)))
        have cw6 : ∀ (j : Nat) (u : Value), (us.flatMap ansB)[j]? = some u → World.cell? w61 ⟨gw, j, none⟩ = some u := fun j u hj => hE6.atEnd (hCw j u hj) (hM (hgB hgwB (by decide)))
        have R_b1 := b1
        have R_b3 := b3
        have R_b7 := b7
        have R_b9 := b9
        have LWn : Ext No w w61 := hEN
        clear HF E LW XLW
        have HF : Per (No) w61 (fun _ => True) := Per.true_
        have LW := LWn
        clear LWn
        have XLW : ∀ q9, (No) q9 → (No) q9 ∨ w.heap.size ≤ q9 := Mut.none_
        have E := Ext.refl (No) w61
        replace HF := HF.on E
        replace LW := LW.step E XLW
        replace E := Ext.refl (No) w61
        replace HF := HF.and (Per.blk R_b1 (fun h => h.elim))
        replace HF := HF.on E
        replace LW := LW.step E XLW
        replace E := Ext.refl (No) w61
        replace HF := HF.and (Per.blk R_b3 (fun h => h.elim))
        replace HF := HF.on E
        replace LW := LW.step E XLW
        replace E := Ext.refl (No) w61
        replace HF := HF.and (Per.blk R_b7 (fun h => h.elim))
        replace HF := HF.on E
        replace LW := LW.step E XLW
        replace E := Ext.refl (No) w61
        replace HF := HF.and (Per.blk R_b9 (fun h => h.elim))
        replace HF := HF.on E
        replace LW := LW.step E XLW
        replace E := Ext.refl (No) w61
        replace HF := HF.and (Per.ans0 hZ6)
        replace HF := HF.on E
        replace LW := LW.step E XLW
        replace E := Ext.refl (No) w61
        replace HF := HF.and (Per.ans0 hU6)
        replace HF := HF.on E
        replace LW := LW.step E XLW
        replace E := Ext.refl (No) w61
        replace HF := HF.and (Per.nums0 (hy.below ((LW.step E XLW).toBelow) (Nat.le_refl _)))
        replace HF := HF.on E
        replace LW := LW.step E XLW
        replace E := Ext.refl (No) w61
        replace HF := HF.and (Per.nums0 hthn)
        have gaL6 : Nat.lt ga (World.heap w61).size := by obtain ⟨cs, h1, _⟩ := hR6.blk; exact h1.lt
        replace HF := HF.on E
        replace LW := LW.step E XLW
        replace E := Ext.refl (No) w61
        replace HF := HF.and ((fun _ hb => Nat.lt_of_lt_of_le gaL6 hb.size : Per No _ (fun b => Nat.lt ga b.heap.size)))
        replace HF := HF.on E
        replace LW := LW.step E XLW
        replace E := Ext.refl (No) w61
        replace HF := HF.and ((fun _ hb => rb6.extX hb (fun h => h.elim) : Per No _ (fun b => Roomy b gb ys)))
        replace HF := HF.on E
        replace LW := LW.step E XLW
        replace E := Ext.refl (No) w61
        replace HF := HF.and (Per.cellsN cw6)
        replace HF := HF.on E
        replace LW := LW.step E XLW
        replace E := Ext.refl (No) w61
        replace HF := HF.and ((fun _ hb => Ext.ownsX hb ls6 (fun _ _ h => h.elim) : Per No _ (fun b => b.ownsRow w.heap.size 22 1 (.slice A7 16 c7) 16 (zs.map ansS))))
        obtain ⟨gl, rfl, hgl1, hgl2, hlc0⟩ := owns_cellsN ls6 (by decide)
        replace HF := HF.on E
        replace LW := LW.step E XLW
        replace E := Ext.refl (No) w61
        replace HF := HF.and (Per.cellsN hlc0)
        refine cw_exit ?_
        refine ew_then_exit ?_
        refine ew_then_exit ?_
        refine ew_block_here ?_
        refine ew_next ?_
        refine cw_seq ?_
        refine cw_seq ?_
        refine cw_region ?_
        refine rs_op rfl (ow_assign rfl ?_)
        refine rs_nil ?_
        refine ew_next ?_
        refine cw_block ?_
        replace HF := HF.on E
        replace LW := LW.step E XLW
        replace E := Ext.refl (No) w61
        refine cw_loop (ι := Nat) (fun i => [(2, .pointer (some ⟨gb1, 0, none⟩)), (3, .pointer (some ⟨gb3, 0, none⟩)), (4, .bool false), (5, .pointer (some ⟨gb7, 0, none⟩)), (6, .pointer (some ⟨gb9, 0, none⟩)), (7, .slice (some ⟨gl, 0, none⟩) 16 c7), (8, .slice (some ⟨gw, 0, none⟩) 16 c8), (28, .int .i64 (i : Int))]) (fun i w' => Ext (No) w61 w' ∧ (True)) (fun i => 16 - i) 0 ⟨rfl, rfl, rfl, rfl, rfl, rfl, rfl, rfl, trivial⟩ ⟨Ext.refl _ _, trivial⟩ ?_
        rintro i w63 ⟨M62, _⟩
        have XM62 : ∀ q9, (No) q9 → (No) q9 ∨ w61.heap.size ≤ q9 := fun _ h => Or.inl h
        replace E := E.trans M62
        replace HF := HF.on E
        replace LW := LW.step E XLW
        replace E := Ext.refl (No) w63
        refine cw_seq ?_
        refine cw_seq ?_
        refine cw_region ?_
        refine rs_op rfl (ow_move rfl ?_)
        refine rs_op rfl (ow_move rfl ?_)
        refine rs_op rfl (ow_len Tryd.underlying61 rfl ?_)
        refine rs_op rfl (ow_lss rfl rfl ?_)
        refine rs_nil ?_
        refine ew_next ?_
        refine cw_cond rfl (fun q5 => ?_) (fun q5 => ?_)
        · have _way := True.intro
          have q5 := of_decide_eq_true q5
          have hi16 : i < 16 := by omega
          obtain ⟨a, ha⟩ : ∃ a, us[i]? = some a := ⟨_, List.getElem?_eq_getElem (by omega)⟩
          obtain ⟨b2, hb2⟩ : ∃ a, zs[i]? = some a := ⟨_, List.getElem?_eq_getElem (by omega)⟩
          have hza := (((HF.on E).here.1.1.1.1.1.1.1.2) _ _ ha).1
          have hzb := (((HF.on E).here.1.1.1.1.1.1.1.1.2) _ _ hb2).1
          have hab : b2.1 = a.1 := by rw [hza] at hzb; exact (Option.some.inj hzb).symm
          have hzc : (zs.map ansS)[i]? = some (ansS b2) := by rw [List.getElem?_map, hb2]; rfl
          refine cw_skip ?_
          refine ew_next ?_
          refine cw_seq ?_
          refine cw_block ?_
          refine cw_seq ?_
          have OY : ∀ q9, (Mut (outM [])) q9 → q9 < (World.drew w63).heap.size → (No) q9 := fun k h _ => (Mut.none_) k h
          refine cw_drawn (No) Mut.none_ [] [] (fxAt [Fx.of (.slice (some ⟨gw, 0, none⟩) 16 c8),
              Fx.of (.int .i64 (i : Int)),
              Fx.of (.pointer (some ⟨gw, 0 + i * 2, none⟩)),
              Fx.of (.pointer (some ⟨gw, 0 + i * 2 + 0, none⟩)),
              Fx.of (.bool (decide (a.1 < 0))),
              Fx.of (.slice (some ⟨gl, 0, none⟩) 16 c7),
              Fx.of (.int .i64 (i : Int)),
              Fx.of (.pointer (some ⟨gl, 0 + i, none⟩)),
              Fx.of (.slice b2.2.1 (limbs b2.1).length b2.2.2),
              Fx.of (.agg #[.bool (decide (a.1 < 0)), .slice b2.2.1 (limbs b2.1).length b2.2.2]),
              Fx.of (.slice (some ⟨gw, 0, none⟩) 16 c8),
              Fx.of (.int .i64 (i : Int)),
              Fx.of (.pointer (some ⟨gw, 0 + i * 2, none⟩)),
              Fx.of (.agg #[.bool (decide (a.1 < 0)), .slice a.2.1 (limbs a.1).length a.2.2]),
              Fx.of (.bool true),
              Fx.of (.bool false)]) mixed rfl trivial (fun _ h => by cases h) ?_ ?_
          · refine ⟨?_, ?_, ?_, ?_, ?_, ?_, ?_, ?_, ?_, ?_, ?_, ?_, ?_, ?_, ?_, ?_, trivial⟩
            · intro vs X wq K
              have LE := K.1
              have XN := K.2.1
              have SQ := Nat.le_trans LW.size (Nat.le_trans E.size LE.size)
              exact ow_move rfl ⟨Below.refl _ _, Left.of rfl⟩
            · intro vs X wq K
              have LE := K.1
              have XN := K.2.1
              have SQ := Nat.le_trans LW.size (Nat.le_trans E.size LE.size)
              exact ow_move rfl ⟨Below.refl _ _, Left.of rfl⟩
            · intro vs X wq K
              have LE := K.1
              have XN := K.2.1
              have SQ := Nat.le_trans LW.size (Nat.le_trans E.size LE.size)
              obtain ⟨_, e0, k0⟩ := K.dep 0 rfl rfl rfl
              refine ow_set 162 (.slice (some ⟨gw, 0, none⟩) 16 c8) rfl e0 ?_
              obtain ⟨_, e1, k1⟩ := K.dep 1 rfl rfl rfl
              refine ow_set 163 (.int .i64 (i : Int)) rfl e1 ?_
              exact ow_indexAddr (s := 2) (j := i) Tryd.underlying61 sz24 rfl rfl rfl (by omega) ⟨Below.refl _ _, Left.of rfl⟩
            · intro vs X wq K
              have LE := K.1
              have XN := K.2.1
              have SQ := Nat.le_trans LW.size (Nat.le_trans E.size LE.size)
              obtain ⟨_, e2, k2⟩ := K.dep 2 rfl rfl rfl
              refine ow_set 164 (.pointer (some ⟨gw, 0 + i * 2, none⟩)) rfl e2 ?_
              exact ow_fieldAddr Tryd.underlying24 rfl sz4 (by decide) rfl ⟨Below.refl _ _, Left.of rfl⟩
            · intro vs X wq K
              have LE := K.1
              have XN := K.2.1
              have SQ := Nat.le_trans LW.size (Nat.le_trans E.size LE.size)
              obtain ⟨_, e3, k3⟩ := K.dep 3 rfl rfl rfl
              refine ow_set 165 (.pointer (some ⟨gw, 0 + i * 2 + 0, none⟩)) rfl e3 ?_
              exact ow_load1 Tryd.underlying4 rfl rfl (pairN0 (HF.on (E.drew.trans (LE.mono OY))).here.1.1.2 ha) ⟨Below.refl _ _, Left.of rfl⟩
            · intro vs X wq K
              have LE := K.1
              have XN := K.2.1
              have SQ := Nat.le_trans LW.size (Nat.le_trans E.size LE.size)
              exact ow_move rfl ⟨Below.refl _ _, Left.of rfl⟩
            · intro vs X wq K
              have LE := K.1
              have XN := K.2.1
              have SQ := Nat.le_trans LW.size (Nat.le_trans E.size LE.size)
              exact ow_move rfl ⟨Below.refl _ _, Left.of rfl⟩
            · intro vs X wq K
              have LE := K.1
              have XN := K.2.1
              have SQ := Nat.le_trans LW.size (Nat.le_trans E.size LE.size)
              obtain ⟨_, e5, k5⟩ := K.dep 5 rfl rfl rfl
              refine ow_set 167 (.slice (some ⟨gl, 0, none⟩) 16 c7) rfl e5 ?_
              obtain ⟨_, e6, k6⟩ := K.dep 6 rfl rfl rfl
              refine ow_set 168 (.int .i64 (i : Int)) rfl e6 ?_
              exact ow_indexAddr1 (j := i) Tryd.underlying60 sz22 rfl rfl rfl (by omega) ⟨Below.refl _ _, Left.of rfl⟩
            · intro vs X wq K
              have LE := K.1
              have XN := K.2.1
              have SQ := Nat.le_trans LW.size (Nat.le_trans E.size LE.size)
              obtain ⟨_, e7, k7⟩ := K.dep 7 rfl rfl rfl
              refine ow_set 169 (.pointer (some ⟨gl, 0 + i, none⟩)) rfl e7 ?_
              exact ow_load1 Tryd.underlying22 rfl rfl (by rw [Nat.zero_add]; exact (HF.on (E.drew.trans (LE.mono OY))).here.2 _ _ hzc) ⟨Below.refl _ _, Left.of rfl⟩
            · intro vs X wq K
              have LE := K.1
              have XN := K.2.1
              have SQ := Nat.le_trans LW.size (Nat.le_trans E.size LE.size)
              obtain ⟨_, e4, k4⟩ := K.dep 4 rfl rfl rfl
              refine ow_set 166 (.bool (decide (a.1 < 0))) rfl e4 ?_
              obtain ⟨_, e8, k8⟩ := K.dep 8 rfl rfl rfl
              refine ow_set 170 (.slice b2.2.1 (limbs b2.1).length b2.2.2) rfl e8 ?_
              exact ow_build (cs := #[.bool (decide (a.1 < 0)), .slice b2.2.1 (limbs b2.1).length b2.2.2]) pl24 zr24 rfl rfl ⟨Below.refl _ _, Left.of rfl⟩
            · intro vs X wq K
              have LE := K.1
              have XN := K.2.1
              have SQ := Nat.le_trans LW.size (Nat.le_trans E.size LE.size)
              exact ow_move rfl ⟨Below.refl _ _, Left.of rfl⟩
            · intro vs X wq K
              have LE := K.1
              have XN := K.2.1
              have SQ := Nat.le_trans LW.size (Nat.le_trans E.size LE.size)
              exact ow_move rfl ⟨Below.refl _ _, Left.of rfl⟩
            · intro vs X wq K
              have LE := K.1
              have XN := K.2.1
              have SQ := Nat.le_trans LW.size (Nat.le_trans E.size LE.size)
              obtain ⟨_, e10, k10⟩ := K.dep 10 rfl rfl rfl
              refine ow_set 172 (.slice (some ⟨gw, 0, none⟩) 16 c8) rfl e10 ?_
              obtain ⟨_, e11, k11⟩ := K.dep 11 rfl rfl rfl
              refine ow_set 173 (.int .i64 (i : Int)) rfl e11 ?_
              exact ow_indexAddr (s := 2) (j := i) Tryd.underlying61 sz24 rfl rfl rfl (by omega) ⟨Below.refl _ _, Left.of rfl⟩
            · intro vs X wq K
              have LE := K.1
              have XN := K.2.1
              have SQ := Nat.le_trans LW.size (Nat.le_trans E.size LE.size)
              obtain ⟨_, e12, k12⟩ := K.dep 12 rfl rfl rfl
              refine ow_set 174 (.pointer (some ⟨gw, 0 + i * 2, none⟩)) rfl e12 ?_
              exact ow_loadN (cs := #[.bool (decide (a.1 < 0)), .slice a.2.1 (limbs a.1).length a.2.2]) Tryd.underlying24 rfl sz24 rfl rfl (pairN (HF.on (E.drew.trans (LE.mono OY))).here.1.1.2 ha) ⟨Below.refl _ _, Left.of rfl⟩
            · intro vs X wq K
              have LE := K.1
              have XN := K.2.1
              have SQ := Nat.le_trans LW.size (Nat.le_trans E.size LE.size)
              obtain ⟨_, e9, k9⟩ := K.dep 9 rfl rfl rfl
              refine ow_set 171 (.agg #[.bool (decide (a.1 < 0)), .slice b2.2.1 (limbs b2.1).length b2.2.2]) rfl e9 ?_
              obtain ⟨_, e13, k13⟩ := K.dep 13 rfl rfl rfl
              refine ow_set 175 (.agg #[.bool (decide (a.1 < 0)), .slice a.2.1 (limbs a.1).length a.2.2]) rfl e13 ?_
              refine ow_enter en21 rfl ((sameZ b2 a _ (hZ30 _ _ hza) (((HF.on (E.drew.trans (LE.mono OY))).here.1.1.1.1.1.1.1.1.2) _ _ hb2).2.nums (((HF.on (E.drew.trans (LE.mono OY))).here.1.1.1.1.1.1.1.2) _ _ ha).2.nums hab).mono ?_)
              rintro e w2 ⟨rfl, hb⟩
              exact ⟨_, rfl, hb, Left.of rfl⟩
            · intro vs X wq K
              have LE := K.1
              have XN := K.2.1
              have SQ := Nat.le_trans LW.size (Nat.le_trans E.size LE.size)
              obtain ⟨_, e14, k14⟩ := K.dep 14 rfl rfl rfl
              refine ow_set 176 (.bool true) rfl e14 ?_
              exact ow_not rfl ⟨Below.refl _ _, Left.of rfl⟩
          intro vs w64 LE AO AL AF AA
          replace E := E.drew.trans (LE.mono OY)
          obtain ⟨_, e15, k15⟩ := AL.2.2.2.2.2.2.2.2.2.2.2.2.2.2.2.1
          refine ew_sub (τ := [(2, _), (3, _), (4, _), (5, _), (6, _), (7, _), (8, _), (28, _), (177, .bool false)]) ⟨rfl, rfl, rfl, rfl, rfl, rfl, rfl, rfl, congrArg some e15, trivial⟩ ?_
          clear AL AF AA LE AO OY e15 k15
          refine ew_next ?_
          refine cw_else rfl ?_
          refine cw_skip ?_
          refine ew_block_normal ?_
          refine ew_next ?_
          refine cw_region ?_
          refine rs_op rfl (ow_move rfl ?_)
          refine rs_op rfl (ow_add rfl rfl (wrap_i64 (by omega)) ?_)
          refine rs_op rfl (ow_assign rfl ?_)
          refine rs_nil ?_
          exact ew_round (ι := Nat) (s := fun i => [(2, .pointer (some ⟨gb1, 0, none⟩)), (3, .pointer (some ⟨gb3, 0, none⟩)), (4, .bool false), (5, .pointer (some ⟨gb7, 0, none⟩)), (6, .pointer (some ⟨gb9, 0, none⟩)), (7, .slice (some ⟨gl, 0, none⟩) 16 c7), (8, .slice (some ⟨gw, 0, none⟩) 16 c8), (28, .int .i64 (i : Int))]) (R := fun i w' => Ext (No) w61 w' ∧ (True)) (m := fun i => 16 - i) (i := i) (i + 1) (by show 16 - (i + 1) < 16 - i; omega) ⟨rfl, rfl, rfl, rfl, rfl, rfl, rfl, rfl, trivial⟩ ⟨M62.step E XM62, trivial⟩
        · have _way := True.intro
          obtain ⟨V9, E9, hV9, h9⟩ := two_add n1 n2 th ys (by omega) (by omega)
          have h9' : ∀ (w : World) (A : Option Addr) (c : Nat) (B : Option Addr) (d : Nat), Nums w A th → Nums w B ys → Calls Tryd.prog 27 #[.agg #[.bool n1, .slice A xs.length c], .agg #[.bool n2, .slice B ys.length d]] w (RetBigErr w V9 E9) := by
            intro w A c B d hA hB
            have h := h9 w A c B d hA hB
            rw [hthl] at h
            exact h
          have hcp : ∀ (w : World) (A : Option Addr) (c : Nat), Nums w A th → Calls Tryd.prog 41 #[.agg #[.bool n1, .slice A xs.length c]] w fun e w' => ∃ A1 c1, e = .returned (.agg #[.bool n1, .slice A1 xs.length c1]) ∧ Own w' w.heap.size A1 c1 th ∧ Below w.heap.size w w' := by
            intro w A c hA
            have h := rcopy_any A c th w n1 hA (by omega)
            rw [hthl] at h
            exact h
          refine cw_exit ?_
          refine ew_then_exit ?_
          refine ew_then_exit ?_
          refine ew_block_here ?_
          refine ew_next ?_
          refine cw_seq ?_
          refine cw_region ?_
          refine rs_op rfl (ow_loadB Tryd.underlying24 rfl sz24 rfl (HF.on E).here.1.1.1.1.1.1.1.1.1.1.2 rfl ?_)
          refine rs_op rfl (ow_enter en41 rfl ((hcp _ (some ⟨ga, 0, none⟩) (xs.length + 6) (HF.on E).here.1.1.1.1.1.2).mono ?_))
          rintro e w65 ⟨A31, c31, rfl, o31, hb⟩
          refine ⟨_, rfl, ?_⟩
          have XC : ∀ q9, (No) q9 → q9 < w63.heap.size := Mut.none_
          have SC := Nat.le_trans LW.size E.size
          have SE := E.size
          have Ec := Ext.of_below hb No
          replace E := E.trans Ec.no
          clear hb Ec
          replace HF := HF.on E
          replace LW := LW.step E XLW
          replace M62 := M62.step E XM62
          replace E := Ext.refl (No) w65
          replace HF := HF.and (Per.ownX o31 XC)
          refine rs_op rfl (ow_allocB zr24 ?_)
          intro gb66 w67 Bb66 Eb66 Gb66
          have Gb66 : _ ≤ gb66 := Nat.le_trans E.size Gb66
          have GLb66 := Nat.le_trans LW.size Gb66
          replace E := E.trans Eb66.no
          clear Eb66
          replace HF := HF.cons (some_ge Gb66)
          replace E := E.cons (some gb66)
          replace XLW := Mut.grow XLW (fun k e => Or.inr (Nat.le_trans LW.size ((some_ge Gb66) k e)))
          replace XM62 := Mut.grow XM62 (fun k e => Or.inr (Nat.le_trans M62.size ((some_ge Gb66) k e)))
          refine rs_op0 (ow_storeM sz24 rfl rfl Bb66 rfl rfl (Nat.le_of_ble_eq_true rfl) ?_)
          intro w68 Bx Eb66
          replace Bb66 := Bx
          clear Bx
          replace E := E.step1 Eb66 Mut.head
          clear Eb66
          replace HF := HF.on E
          replace LW := LW.step E XLW
          replace M62 := M62.step E XM62
          have SB : ∀ q9, No q9 → Mut [(some gb66)] q9 := (Mut.skip Mut.nil_)
          replace HF := HF.less SB
          replace XLW := fun k h => XLW k (SB k h)
          replace XM62 := fun k h => XM62 k (SB k h)
          clear SB
          replace E := Ext.refl (No) w68
          replace HF := HF.and (Per.blkN Bb66 NotIn.nil)
          clear Bb66
          refine rs_nil ?_
          refine ew_next ?_
          refine cw_seq ?_
          refine cw_region ?_
          refine rs_op rfl (ow_loadB Tryd.underlying24 rfl sz24 rfl (HF.on E).here.1.1.1.1.1.1.1.1.1.1.1.1.2 rfl ?_)
          refine rs_op rfl (ow_loadB Tryd.underlying24 rfl sz24 rfl (HF.on E).here.1.1.1.1.1.1.1.1.1.1.1.2 rfl ?_)
          have L1 := lts_ans (HF.on E).here.1.1.1.1.1.1.1.1.1.1.2 (HF.on E).here.1.1.1.1.1.1.2
          refine rs_op rfl (ow_enter en27 rfl ((h9' _ (some ⟨ga, 0, none⟩) (xs.length + 6) (some ⟨gb, 0, none⟩) (ys.length + 6) (HF.on E).here.1.1.1.1.1.1.1.2 (Roomy.nums (HF.on E).here.1.1.1.1.1.2 hym)).mono ?_))
          rintro e w69 ⟨A32, c32, rfl, o32, hb⟩
          refine ⟨_, rfl, ?_⟩
          have XC : ∀ q9, (No) q9 → q9 < w68.heap.size := Mut.none_
          have SC := Nat.le_trans LW.size E.size
          have SE := E.size
          have Ec := Ext.of_below hb No
          replace E := E.trans Ec.no
          clear hb Ec
          have p32 := hsep0.new L1 o32
          have S32 := SC
          replace HF := HF.on E
          replace LW := LW.step E XLW
          replace M62 := M62.step E XM62
          replace E := Ext.refl (No) w69
          replace HF := HF.and (Per.ownX o32 XC)
          refine rs_op rfl (ow_move rfl ?_)
          refine rs_op rfl (ow_extract rfl rfl ?_)
          refine rs_op rfl (ow_extract rfl rfl ?_)
          refine rs_op rfl (ow_allocB zr24 ?_)
          intro gb70 w71 Bb70 Eb70 Gb70
          have Gb70 : _ ≤ gb70 := Nat.le_trans E.size Gb70
          have GLb70 := Nat.le_trans LW.size Gb70
          replace E := E.trans Eb70.no
          clear Eb70
          replace HF := HF.cons (some_ge Gb70)
          replace E := E.cons (some gb70)
          replace XLW := Mut.grow XLW (fun k e => Or.inr (Nat.le_trans LW.size ((some_ge Gb70) k e)))
          replace XM62 := Mut.grow XM62 (fun k e => Or.inr (Nat.le_trans M62.size ((some_ge Gb70) k e)))
          refine rs_op0 (ow_storeM sz24 rfl rfl Bb70 rfl rfl (Nat.le_of_ble_eq_true rfl) ?_)
          intro w72 Bx Eb70
          replace Bb70 := Bx
          clear Bx
          replace E := E.step1 Eb70 Mut.head
          clear Eb70
          replace HF := HF.on E
          replace LW := LW.step E XLW
          replace M62 := M62.step E XM62
          have SB : ∀ q9, No q9 → Mut [(some gb70)] q9 := (Mut.skip Mut.nil_)
          replace HF := HF.less SB
          replace XLW := fun k h => XLW k (SB k h)
          replace XM62 := fun k h => XM62 k (SB k h)
          clear SB
          replace E := Ext.refl (No) w72
          replace HF := HF.and (Per.blkN Bb70 NotIn.nil)
          clear Bb70
          refine rs_op rfl (ow_assign rfl ?_)
          refine rs_nil ?_
          refine ew_next ?_
          refine cw_seq ?_
          refine cw_region ?_
          refine rs_op rfl (ow_loadB Tryd.underlying24 rfl sz24 rfl (HF.on E).here.1.1.2 rfl ?_)
          refine rs_op rfl (ow_loadB Tryd.underlying24 rfl sz24 rfl (HF.on E).here.1.1.1.1.1.1.1.1.1.1.1.1.1.1.1.2 rfl ?_)
          have L2 := lts_app (lts_ans (HF.on E).here.1.1.1.1.1.1.1.1.1.1.1.1.2 (HF.on E).here.1.1.1.1.1.1.1.1.2) (HF.on E).here.1.2
          refine rs_op rfl (ow_enter en27 rfl ((h9' _ A31 c31 B d ((HF.on E).here.1.1.1.2).nums (HF.on E).here.1.1.1.1.1.1.1.1.1.1.2).mono ?_))
          rintro e w73 ⟨A33, c33, rfl, o33, hb⟩
          refine ⟨_, rfl, ?_⟩
          have XC : ∀ q9, (No) q9 → q9 < w72.heap.size := Mut.none_
          have SC := Nat.le_trans LW.size E.size
          have SE := E.size
          have Ec := Ext.of_below hb No
          replace E := E.trans Ec.no
          clear hb Ec
          have p33 := p32.new L2 o33
          have S33 := SC
          replace HF := HF.on E
          replace LW := LW.step E XLW
          replace M62 := M62.step E XM62
          replace E := Ext.refl (No) w73
          replace HF := HF.and (Per.ownX o33 XC)
          refine rs_op rfl (ow_move rfl ?_)
          refine rs_op rfl (ow_extract rfl rfl ?_)
          refine rs_op rfl (ow_extract rfl rfl ?_)
          refine rs_op rfl (ow_allocB zr24 ?_)
          intro gb74 w75 Bb74 Eb74 Gb74
          have Gb74 : _ ≤ gb74 := Nat.le_trans E.size Gb74
          have GLb74 := Nat.le_trans LW.size Gb74
          replace E := E.trans Eb74.no
          clear Eb74
          replace HF := HF.cons (some_ge Gb74)
          replace E := E.cons (some gb74)
          replace XLW := Mut.grow XLW (fun k e => Or.inr (Nat.le_trans LW.size ((some_ge Gb74) k e)))
          replace XM62 := Mut.grow XM62 (fun k e => Or.inr (Nat.le_trans M62.size ((some_ge Gb74) k e)))
          refine rs_op0 (ow_storeM sz24 rfl rfl Bb74 rfl rfl (Nat.le_of_ble_eq_true rfl) ?_)
          intro w76 Bx Eb74
          replace Bb74 := Bx
          clear Bx
          replace E := E.step1 Eb74 Mut.head
          clear Eb74
          replace HF := HF.on E
          replace LW := LW.step E XLW
          replace M62 := M62.step E XM62
          have SB : ∀ q9, No q9 → Mut [(some gb74)] q9 := (Mut.skip Mut.nil_)
          replace HF := HF.less SB
          replace XLW := fun k h => XLW k (SB k h)
          replace XM62 := fun k h => XM62 k (SB k h)
          clear SB
          replace E := Ext.refl (No) w76
          replace HF := HF.and (Per.blkN Bb74 NotIn.nil)
          clear Bb74
          refine rs_op rfl (ow_assign rfl ?_)
          refine rs_nil ?_
          refine ew_next ?_
          refine cw_seq ?_
          refine cw_region ?_
          refine rs_op rfl (ow_move rfl ?_)
          refine rs_op rfl (ow_move rfl ?_)
          refine rs_op rfl (ow_eql rfl rfl ?_)
          refine rs_op rfl (ow_move rfl ?_)
          refine rs_set 195 (.bool true) rfl ((by rw [beq_self_eq_true] : (.bool (E9 == E9) : Value) = _)) ?_
          refine rs_op rfl (ow_on rfl (ow_loadB Tryd.underlying24 rfl sz24 rfl (HF.on E).here.1.1.2 rfl ?_))
          refine rs_op rfl (ow_on rfl (ow_loadB Tryd.underlying24 rfl sz24 rfl (HF.on E).here.2 rfl ?_))
          refine rs_op rfl (ow_on rfl (ow_enter en21 rfl ((sameI A32 A33 c32 c33 _ hV9 hV9 ((HF.on E).here.1.1.1.2).nums ((HF.on E).here.1.2).nums rfl).mono ?_)))
          rintro e w77 ⟨rfl, hb⟩
          refine ⟨_, rfl, ?_⟩
          have XC : ∀ q9, (No) q9 → q9 < w76.heap.size := Mut.none_
          have SC := Nat.le_trans LW.size E.size
          have SE := E.size
          have Ec := Ext.of_below hb No
          replace E := E.trans Ec.no
          clear hb Ec
          obtain ⟨zz, hzz⟩ : ∃ zz : List Ans, zz = zs ++ [(V9, A32, c32), (V9, A33, c33)] := ⟨_, rfl⟩
          have hzzl : zz.length = 18 := by rw [hzz, List.length_append, hzl]; rfl
          have hall : OwnsAll w.heap.size zz w77 := owns_all hzz (HF.on E).here.1.1.1.1.1.1.1.1.1.1.1.1.1.1.2 (((HF.on E).here.1.1.1.2).mono S32) (((HF.on E).here.1.2).mono S33)
          have hsepz : Sep (some ga :: zz.map blkOf) := by rw [hzz, List.map_append]; have e := p33; rw [List.append_assoc] at e; exact e
          have hz30 : ∀ a ∈ zz, (limbs a.1).length ≤ 30 := fun a ha => by
            rw [hzz] at ha
            rcases List.mem_append.1 ha with ha | ha
            · obtain ⟨j, hj⟩ := List.getElem?_of_mem ha
              exact limbs_length (hZ30 _ _ (((HF.on E).here.1.1.1.1.1.1.1.1.1.1.1.1.1.1.2) j a hj).1)
            · simp at ha; rcases ha with rfl | rfl <;> exact limbs_length hV9
          have hOl := (HF.on E).here.1.1.1.1.1.1.1.2
          have hLX2 := (LW.step E XLW)
          have R_b70 := (HF.on E).here.1.1.2
          have R_b74 := (HF.on E).here.2
          have Ols : World.ownsRow w77 w.heap.size 22 1 (.slice (some ⟨gl, 0, none⟩) 16 c7) 16 (zs.map ansS) := hOl
          have LWn : Ext No w w77 := hLX2
          clear HF E LW XLW
          have HF : Per (Mut [((Value.slice (some ⟨gl, 0, none⟩) 16 c7).ownBlock)]) w77 (fun _ => True) := Per.true_
          have LW := LWn
          clear LWn
          have XLW : ∀ q9, (Mut [((Value.slice (some ⟨gl, 0, none⟩) 16 c7).ownBlock)]) q9 → (No) q9 ∨ w.heap.size ≤ q9 := (Mut.grow Mut.none_ (fun k e => Or.inr (owns_ge Ols k e)))
          have E := Ext.refl (Mut [((Value.slice (some ⟨gl, 0, none⟩) 16 c7).ownBlock)]) w77
          replace HF := HF.on E
          replace LW := LW.step E XLW
          replace E := Ext.refl (Mut [((Value.slice (some ⟨gl, 0, none⟩) 16 c7).ownBlock)]) w77
          replace HF := HF.and (Per.blk R_b70 (not_mut1 (own_blk_ne Ols R_b70 (by decide))))
          replace HF := HF.on E
          replace LW := LW.step E XLW
          replace E := Ext.refl (Mut [((Value.slice (some ⟨gl, 0, none⟩) 16 c7).ownBlock)]) w77
          replace HF := HF.and (Per.blk R_b74 (not_mut1 (own_blk_ne Ols R_b74 (by decide))))
          replace HF := HF.on E
          replace LW := LW.step E XLW
          replace E := Ext.refl (Mut [((Value.slice (some ⟨gl, 0, none⟩) 16 c7).ownBlock)]) w77
          replace HF := HF.and (Per.all hall (blk_not Ols (by decide)))
          refine rs_op rfl (ow_pickT rfl rfl ?_)
          refine rs_op rfl (ow_move rfl ?_)
          refine rs_op rfl (ow_on rfl (ow_move rfl ?_))
          refine rs_op rfl (ow_on rfl (ow_fieldAddr Tryd.underlying24 rfl sz22 (by decide) rfl ?_))
          refine rs_op rfl (ow_on rfl (ow_loadF Tryd.underlying22 rfl rfl (HF.on E).here.1.1.2 rfl ?_))
          refine rs_op rfl (ow_on rfl (ow_fieldAddr Tryd.underlying24 rfl sz22 (by decide) rfl ?_))
          refine rs_op rfl (ow_on rfl (ow_loadF Tryd.underlying22 rfl rfl (HF.on E).here.1.2 rfl ?_))
          refine rs_op rfl (ow_on rfl (ow_buildSlice (cs := #[.slice A32 (limbs V9).length c32, .slice A33 (limbs V9).length c33]) Tryd.underlying60 sz22 zr22 (by decide) rfl (by rw [map_range_]; rfl) ?_))
          intro gb78 w79 Bb78 Eb78 Gb78
          have Db78_ls : Apart (some gb78) ((Value.slice (some ⟨gl, 0, none⟩) 16 c7).ownBlock) := Apart.of_lt (owns_lt Ols) Gb78
          have Dls_b78 := Db78_ls.symm
          have Gb78 : _ ≤ gb78 := Nat.le_trans E.size Gb78
          have GLb78 := Nat.le_trans LW.size Gb78
          replace Ols := owns_extN Ols Eb78 NotIn.nil
          replace E := E.trans Eb78.no
          clear Eb78
          replace HF := HF.cons (some_ge Gb78)
          replace E := E.cons (some gb78)
          replace XLW := Mut.grow XLW (fun k e => Or.inr (Nat.le_trans LW.size ((some_ge Gb78) k e)))
          replace HF := HF.on E
          replace LW := LW.step E XLW
          have SB : ∀ q9, Mut [((Value.slice (some ⟨gl, 0, none⟩) 16 c7).ownBlock)] q9 → Mut [(some gb78), ((Value.slice (some ⟨gl, 0, none⟩) 16 c7).ownBlock)] q9 := (Mut.skip (Mut.keep Mut.nil_))
          replace HF := HF.less SB
          replace XLW := fun k h => XLW k (SB k h)
          clear SB
          replace E := Ext.refl (Mut [((Value.slice (some ⟨gl, 0, none⟩) 16 c7).ownBlock)]) w79
          replace HF := HF.and (Per.blkN Bb78 (NotIn.cons Db78_ls NotIn.nil))
          clear Bb78
          refine rs_op rfl (ow_on rfl (ow_append (news := [.slice A32 (limbs V9).length c32, .slice A33 (limbs V9).length c33]) Tryd.underlying60 inf22 rfl (by decide) rfl Ols rfl (reads_row (HF.on E).here.2 ((HF.on E).here.2).lt rfl) (by simp [Value.oneCell']) (by unfold maxLen; omega) (by omega) (by exact Nat.le_trans LW.size E.size) ?_))
          intro v0 w80 On En KN
          obtain ⟨A40, c40, rfl⟩ := owns_shape On
          replace KN : ∀ q9, ((Value.slice A40 18 c40).ownBlock) = some q9 → ((Value.slice (some ⟨gl, 0, none⟩) 16 c7).ownBlock) = some q9 ∨ w79.heap.size ≤ q9 := KN
          have HY : ∀ q9, (Mut [((Value.slice A40 18 c40).ownBlock)]) q9 → (Mut [((Value.slice (some ⟨gl, 0, none⟩) 16 c7).ownBlock)]) q9 ∨ w79.heap.size ≤ q9 := (Mut.grow Mut.none_ (fun k e => (KN k e).elim (fun e => Or.inl (Mut.head k e)) (fun h => Or.inr (Nat.le_trans E.size h))))
          replace E := E.step1 En Mut.head
          replace HF := HF.turn E HY
          have XT := fun q9 (h : (Mut [((Value.slice A40 18 c40).ownBlock)]) q9) => (HY q9 h).elim (XLW q9) (fun h => Or.inr (Nat.le_trans LW.size h))
          replace LW := LW.step E XLW
          replace XLW := XT
          clear XT
          replace E := Ext.refl (Mut [((Value.slice A40 18 c40).ownBlock)]) w80
          clear HY
          replace Ols : World.ownsRow w80 w.heap.size 22 1 (.slice A40 18 c40) 18 (zz.map ansS) := by
            have e : ((zs.map ansS) : List Value) ++ ([.slice A32 (limbs V9).length c32, .slice A33 (limbs V9).length c33] : List Value) = zz.map ansS := by rw [hzz, List.map_append]; rfl
            rw [← e]
            exact On
          clear On KN En
          have hall9 := (HF.on E).here.1.2
          have hLX9' := (LW.step E XLW)
          obtain ⟨gl9, rfl, hgl91, hgl92, hlc9⟩ := owns_cellsN Ols (by decide)
          obtain ⟨cs9, hcs9⟩ := owns_blk Ols
          refine rs_op rfl (ow_on rfl (ow_enter en43 rfl ((apart_len (zz.map slOf) gl9 0 c40 _ 18 (by rw [List.length_map, hzzl]) (bank_all hall9) (single_all hsepz) (not_bank hcs9 (by decide) (bank_all hall9)) (row_all hlc9) (by omega) (bound_all hz30)).mono ?_)))
          rintro e w50 ⟨rfl, hE50⟩
          refine ⟨_, rfl, ?_⟩
          refine rs_op rfl (ow_pickT rfl rfl ?_)
          refine rs_op rfl (ow_assign rfl ?_)
          refine rs_nil ?_
          refine ew_next ?_
          refine cw_ret ?_
          refine ew_ret (rs := [.tmp 4]) (vs := [_]) rfl ⟨rfl, trivial⟩ ?_
          exact ⟨rfl, keep_end hLX9' hE50 hall9⟩
end
end Go.Proofs.YteggjfmcpodepaaDoor
