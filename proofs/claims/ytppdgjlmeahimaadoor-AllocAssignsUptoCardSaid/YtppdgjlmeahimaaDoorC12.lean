/- Texts of this claim. -/
import Derived.Test.YtppdgjlmeahimaaDoorC11
namespace Go.Proofs.YtppdgjlmeahimaaDoor
open Go.RowKit
set_option maxRecDepth 100000
attribute [local irreducible] OW RS
def LB (rowsB : List (GR BE)) : List BRow := rowsB.map fun r => r.2.2.map (·.1)
def LD (rowsD : List (GR Nat)) : List (List Nat) := rowsD.map (·.2.2)
theorem LB_get {rowsB : List (GR BE)} {t : Nat} {r : GR BE} (h : rowsB[t]? = some r) : (LB rowsB).getD t [] = r.2.2.map (·.1) := by
 unfold LB; rw [List.getD_eq_getElem?_getD, List.getElem?_map, h]; rfl
theorem zmv {rowsD : List (GR Nat)} {t : Nat} {r : GR Nat} (h : rowsD[t]? = some r) : (LD rowsD).getD t [] = r.2.2 := by
 unfold LD; rw [List.getD_eq_getElem?_getD, List.getElem?_map, h]; rfl
theorem LB_set {rowsB : List (GR BE)} {t : Nat} {r r' : GR BE} {x : BE} (h : rowsB[t]? = some r) (h' : r'.2.2 = r.2.2 ++ [x]) : LB (rowsB.set t r') = (LB rowsB).set t ((LB rowsB).getD t [] ++ [x.1]) := by
 rw [LB_get h];unfold LB;rw [List.map_set, h', List.map_append]; rfl
theorem zmk {rowsD : List (GR Nat)} {t : Nat} {r r' : GR Nat} {x : Nat} (h : rowsD[t]? = some r) (h' : r'.2.2 = r.2.2 ++ [x]) : LD (rowsD.set t r') = (LD rowsD).set t ((LD rowsD).getD t [] ++ [x]) := by
 rw [zmv h];unfold LD;rw [List.map_set, h']
theorem LB_nil (N : Nat) : LB (List.replicate N (none, 0, [])) = List.replicate N [] := by unfold LB; rw [List.map_replicate]; rfl
theorem LD_nil (N : Nat) : LD (List.replicate N (none, 0, [])) = List.replicate N [] := by unfold LD; rw [List.map_replicate]
theorem ycv {α : Type} {en : α → List Value} {s : Nat} (hs : ∀ x, (en x).length = s) : ∀ {xs : List α} {j i : Nat} {y : α} {v : Value}, xs[j]? = some y → (en y)[i]? = some v → (xs.flatMap en)[j * s + i]? = some v
 | [], _, _, _, _, h, _ => by cases h
 | z :: xs, 0, i, y, v, h, hv => by
  obtain rfl := Option.some.inj h;have hi := (List.getElem?_eq_some_iff.1 hv).1;rw [List.flatMap_cons, List.getElem?_append_left (by omega), Nat.zero_mul, Nat.zero_add, hv]
 | z :: xs, j + 1, i, y, v, h, hv => by
  have hz := hs z;rw [List.flatMap_cons, List.getElem?_append_right (by rw [hz, Nat.succ_mul]; omega), hz, show (j + 1) * s + i - s = j * s + i by rw [Nat.succ_mul]; omega];exact ycv hs (by simpa using h) hv
theorem BackA.up {n m : Nat} {w : World} {A : Option Addr} {row : BRow} (h : BackA n w A row) (hm : n ≤ m) : BackA m w A row := RowS.up h hm fun g o x hc => by
 obtain ⟨C, c, h1, h2⟩ := hc;exact ⟨C, c, h1.up hm, h2⟩
theorem BacksA.up {n m : Nat} {w : World} {A : Option Addr} {B : List BRow} (h : BacksA n w A B) (hm : n ≤ m) : BacksA m w A B := RowS.up h hm fun g o x hc => by
 obtain ⟨C, c, h1, h2⟩ := hc;exact ⟨C, c, h1.up hm, h2⟩
theorem DM.backs {bz go gb gd g1 N n : Nat} {fv : Array Value} {gs : List Nat} {Q : List (List Nat)} {rowsB : List (GR BE)} {rowsD : List (GR Nat)} {w : World} (h : DM bz go gb gd g1 N n fv gs Q rowsB rowsD w) : BacksA w.heap.size w (some ⟨gb, 0, none⟩) (LB rowsB) := fun _ => by
 refine ⟨gb, 0, rfl, h.bk.out.lt, fun j row hj => ?_⟩;unfold LB at hj;rw [List.getElem?_map] at hj;obtain ⟨r, hr, rfl⟩ := Option.map_eq_some_iff.1 hj;have hc := h.bk.cell hr;refine ⟨r.1, r.2.1, fun h0 => ?_, ?_⟩
 · have h0' : 0 < r.2.2.length := by
    cases he : r.2.2 with
    | nil => rw [he] at h0; exact absurd rfl h0
    | cons => simp
   obtain ⟨g, hA, _, hg, hcs⟩ := yaz (h.bk.own r (List.mem_of_getElem? hr)) h0';refine ⟨g, 0, hA, hg, fun i x hx => ?_⟩;rw [List.getElem?_map] at hx;obtain ⟨y, hy, rfl⟩ := Option.map_eq_some_iff.1 hx;refine ⟨y.2.1, y.2.2, h.ent r (List.mem_of_getElem? hr) y (List.mem_of_getElem? hy), fun k v hv => ?_⟩;rw [Nat.zero_add];exact hcs _ _ (ycv (s := 2) (fun _ => rfl) hy hv)
 · rw [Nat.zero_add, Nat.mul_one, List.length_map];exact hc
theorem DM.reads {bz go gb gd g1 N n r : Nat} {fv : Array Value} {gs : List Nat} {Q : List (List Nat)} {rowsB : List (GR BE)} {rowsD : List (GR Nat)} {w : World} {d : GR Nat} (h : DM bz go gb gd g1 N n fv gs Q rowsB rowsD w) (hd : rowsD[r]? = some d) (hl : d.2.2.length ≤ 2097152) (hi : ∀ a ∈ d.2.2, a < 1048576) : IntsA w.heap.size w d.1 (d.2.2.map fun (a : Nat) => (a : Int)) := by
 refine ⟨by rw [List.length_map]; omega, fun x hx => ?_, fun h0 => ?_⟩
 · obtain ⟨a, ha, rfl⟩ := List.mem_map.1 hx;have := hi a ha;unfold I64; omega
 · have h0' : 0 < d.2.2.length := by
    cases he : d.2.2 with
    | nil => rw [he] at h0; exact absurd rfl h0
    | cons => simp
   obtain ⟨g, hA, _, hg, hcs⟩ := js (h.rd.own d (List.mem_of_getElem? hd)) h0';refine ⟨g, 0, hA, hg, fun i x hx => ?_⟩;rw [List.getElem?_map] at hx;obtain ⟨y, hy, rfl⟩ := Option.map_eq_some_iff.1 hx;rw [Nat.zero_add, Nat.mul_one];exact hcs i _ (by have := ycv (en := enD) (s := 1) (i := 0) (fun _ => rfl) hy rfl; rwa [Nat.mul_one, Nat.add_zero] at this)
theorem spr_blk {b0 go N n g : Nat} {gs : List Nat} {W : List (List Nat)} {w z : World} {t : TypeId} {cs : Array Value} (h : RowsB 55 35 b0 w go N n gs W) (hb : Blk w g t cs) (ht : t ≠ 35) (k : Ext (SprX gs w.heap.size) w z) : Blk z g t cs :=
 hb.ext k fun hx => by
  rcases hx with hx | hx
  · obtain ⟨i, hi⟩ := List.mem_iff_getElem?.1 hx;obtain ⟨x, _, hb', _⟩ := h.at hi;exact ht (gn hb hb')
  · have := hb.lt;have hx : w.heap.size ≤ g := hx;omega
theorem bitW_none (N n a q : Nat) : qy (List.replicate N (List.replicate n 0)) a q = false := by
 unfold qy;rw [List.getD_eq_getElem?_getD, List.getElem?_replicate];split
 · rw [Option.getD_some, zzq]
 · simp [jn]
section
variable (w : World) (p : Pl) (f : LFn) (n0 : Nat) (hF : FnA n0 w p f) (hs : qq f = true) (hbk : (f.ins.map fun x => x.l.length + 1).sum ≤ 1048576)
include hF hs hbk
theorem rlive_any : Calls Tryd.prog 22 #[fnV p f] w fun e w' => ∃ A c W, e = .returned (.slice A f.ins.length c) ∧ Rows64 W f.ins.length (jr f) ∧ (∀ a r, qy W a r = true ↔ Liv f a r) ∧ RowsW w'.heap.size w' A W ∧ Below w.heap.size w w' := by
 obtain ⟨hr0, hr1, hp0, hp1, hne⟩ := jl hs;obtain ⟨R, hRr⟩ : ∃ R : Nat, f.regs = (R : Int) := ⟨f.regs.toNat, by omega⟩;obtain ⟨n, hwn⟩ : ∃ n, n = jr f := ⟨_, rfl⟩;obtain ⟨N, hN⟩ : ∃ N, N = f.ins.length := ⟨_, rfl⟩;obtain ⟨bz, hb0⟩ : ∃ bz, bz = w.heap.size := ⟨_, rfl⟩
 have hnr : (f.regs + 63).tdiv 64 = (n : Int) := by rw [hwn]; unfold jr; rw [Int.tdiv_eq_ediv_of_nonneg (by omega)]; omega
 have hn1 : n ≤ 1024 := by rw [hwn]; unfold jr; omega
 have hRn : R ≤ 64 * n := by rw [hwn]; unfold jr; omega
 have hNb : N ≤ 1048576 := by rw [hN]; exact Nat.le_trans (ins_le f) hbk
 have hn0 := hF.size;refine qo Tryd.func22 rfl Tryd.ntmps22 rfl (srx (za rfl (vn rfl ?_)));rintro g1 wA B1 E1 G1
 refine anx rfl (srx (za rfl (zb Tryd.underlying27 rfl sz3 (by decide) rfl (za rfl (zi Tryd.underlying3 rfl rfl B1 rfl (za rfl (qd rfl rfl (yg (by omega)) (za rfl (xb rfl rfl (by decide) (show IntKind.i64.wrap ((f.regs + 63).tdiv 64) = ((n : Nat) : Int) from by rw [hnr]; exact yg (by omega)) (anx rfl (srx (za rfl (zb Tryd.underlying27 rfl ox (by decide) rfl (za rfl (zi Tryd.underlying24 rfl rfl B1 rfl (za rfl (qf Tryd.underlying24 rfl (za rfl (xy (n := N) Tryd.underlying52 inf55 rfl rfl rfl (by rw [hN]) (by rw [hN]) (by omega) (by omega) ?_)))))))))))))))))))
 rintro go wB Bo E2 Go;have B1b := B1.ext E2 (fun h => h.elim);refine anx rfl (srx (za rfl (zb Tryd.underlying27 rfl ox (by decide) rfl (za rfl (zi Tryd.underlying24 rfl rfl B1b rfl (za rfl (qf Tryd.underlying24 rfl (za rfl (xy (n := N) Tryd.underlying75 inf78 rfl rfl rfl (by rw [hN]) (by rw [hN]) (by omega) (by omega) ?_)))))))));rintro gb wC Bb E3 Gb
 have B1c := B1b.ext E3 (fun h => h.elim);refine anx rfl (srx (za rfl (zb Tryd.underlying27 rfl sz3 (by decide) rfl (za rfl (zi Tryd.underlying3 rfl rfl B1c rfl (za rfl (xy (n := R) Tryd.underlying59 inf28 rfl rfl rfl hRr hRr (by omega) (by omega) ?_)))))));rintro gd wD Bd E4 Gd;have B1d := B1c.ext E4 (fun h => h.elim);have hs1 := E1.size;have hs2 := E2.size
 have hs3 := E3.size;have hs4 := E4.size;obtain ⟨fv, hfv⟩ : ∃ fv : Array Value, fv = #[.string f.name, .int .i64 f.params, .int .i64 f.regs, .int .i64 f.frees, .bool f.gen, .int .i64 f.bound, .slice p.an f.names.length p.cn, .slice p.ac f.consts.length p.cc, .slice p.ai f.ins.length p.ci, .slice p.ar f.rgs.length p.cr] := ⟨_, rfl⟩;have B1d : Blk wD g1 27 fv := by rw [hfv]; exact B1d
 have M0 : DM bz go gb gd g1 N n fv [] [] (List.replicate N (none, 0, [])) (List.replicate R (none, 0, [])) wD :=
  ⟨RowsB.nil ((Bo.ext E3 (fun h => h.elim)).ext E4 (fun h => h.elim)) (by omega), GrowB.nil N (Bb.ext E4 (fun h => h.elim)), GrowB.nil R Bd, B1d, fun rb hr x hx => (by rw [List.eq_of_mem_replicate hr] at hx; cases hx), fun k _ rb hr x hx => (by rw [List.eq_of_mem_replicate hr] at hx; cases hx)⟩
 have hED : Ext (fun q => bz ≤ q) w wD := (((E1.mono (Y := fun q => bz ≤ q) (fun _ h _ => h.elim)).step E2 (fun _ h => h.elim)).step E3 (fun _ h => h.elim)).step E4 (fun _ h => h.elim)
 refine anx rfl (zv (srx (anx rfl (yf (qx (ι := Nat × List Nat × List (List Nat) × List (GR BE) × List (GR Nat)) (fun (a, gs, Q, rowsB, rowsD) => [(1, .pointer (some ⟨g1, 0, none⟩)), (3, .int .i64 ((n : Nat) : Int)), (4, .slice (some ⟨go, 0, none⟩) N N), (5, .slice (some ⟨gb, 0, none⟩) N N), (6, .slice (some ⟨gd, 0, none⟩) R R), (7, .int .i64 ((a : Nat) : Int))]) (fun (a, gs, Q, rowsB, rowsD) w' => a ≤ N ∧ Ext (fun q => bz ≤ q) w w' ∧ DM bz go gb gd g1 N n fv gs Q rowsB rowsD w' ∧ Q = List.replicate a (List.replicate n 0) ∧ rowsB.length = N ∧ rowsD.length = R ∧ Prog (itB f) a 0 (LB rowsB) ∧ Prog (itD f) a 0 (LD rowsD) ∧ gz ((LB rowsB).map List.length) ≤ cnt (itB f) a ∧ gz ((LD rowsD).map List.length) ≤ cnt (itD f) a) (fun (a, _) => N - a) (0, [], [], List.replicate N (none, 0, []), List.replicate R (none, 0, [])) ⟨rfl, rfl, rfl, rfl, rfl, rfl, trivial⟩ (⟨Nat.zero_le _, hED, M0, rfl, List.length_replicate, List.length_replicate, by rw [LB_nil]; exact Prog.start N, by rw [LD_nil]; exact Prog.start R, by rw [LB_nil, sum_zero]; exact Nat.zero_le _, by rw [LD_nil, sum_zero]; exact Nat.zero_le _⟩) ?_)))))
 rintro ⟨a, gs, Q, rowsB, rowsD⟩ w2 ⟨haN, hEa, Ma, hQ, hlB, hlD, hPB, hPD, hSB, hSD⟩;have hQl : Q.length = a := by rw [hQ, List.length_replicate]
 refine zv (srx (mvx rfl (za rfl (zb Tryd.underlying27 rfl ox (by decide) rfl (za rfl (zi Tryd.underlying24 rfl rfl Ma.fb (by rw [hfv]; rfl) (za rfl (qf Tryd.underlying24 rfl (za rfl (yy rfl rfl (rnx (zr rfl (fun hi => ?_) (fun hi => ?_)))))))))))))
 ·
  have hi := of_decide_eq_true hi;have hal : a < N := by omega
  have hal' : a < f.ins.length := by omega
  obtain ⟨x, hx⟩ : ∃ x, f.ins[a]? = some x := ⟨_, List.getElem?_eq_getElem hal'⟩;have hsb := hEa.size;refine zt (zg (zv (yf (srx (mvx rfl (mvx rfl (mvx rfl (za rfl (xy (n := n) Tryd.underlying55 inf35 rfl rfl rfl rfl rfl (by omega) (by omega) ?_)))))))));rintro gr wE Br E5 Gr;refine za rfl (zm (j := a) Tryd.underlying52 zex rfl rfl rfl hal ?_)
  have Boa := Ma.q.out.ext E5 (fun h => h.elim);refine zy (vq zex rfl rfl Boa rfl rfl (by rw [List.size_toArray, outV_len (by rw [Ma.q.len]; omega)]; omega) (show _ = ((outV gs n N).set Q.length (rwV n gr)).toArray from by rw [hQl, Nat.zero_add, List.setIfInBounds_toArray]; rfl) ?_);rintro wF Bs E6;have M6 := Ma.addQ (by omega) Br E5 Gr (by omega) Bs E6
  have hE6 := (hEa.step E5 (fun _ h => h.elim)).step E6 (fun q hq => Or.inl (show bz ≤ q by have := va hq; have := Ma.q.geo; omega));have hF6 : FnA n0 wF p f := hF.low (X := fun q => bz ≤ q) ⟨hE6, fun q h => by have h : bz ≤ q := h; omega⟩
  refine rnx (srx (za rfl (zn Tryd.underlying27 rfl xg rfl M6.fb (by rw [hfv]; rfl) (qs 40 (.agg #[.string f.name, .int .i64 f.params, .int .i64 f.regs, .int .i64 f.frees, .bool f.gen, .int .i64 f.bound, .slice p.an f.names.length p.cn, .slice p.ac f.consts.length p.cc, .slice p.ai f.ins.length p.ci, .slice p.ar f.rgs.length p.cr]) rfl ((by rw [hfv] : (.agg fv : Value) = _)) (mvx rfl (za rfl (yc en42 rfl ((rways_any _ p f n0 hF6 a x hx).mono ?_))))))))
  rintro e w3 ⟨A8, c8, rfl, hW8, hb⟩;refine ⟨_, rfl, ?_⟩;have E7 := Ext.of_below hb No;have M7 := M6.no E7;have hE7 := hE6.step E7 (fun _ h => h.elim);obtain ⟨lo, hlo⟩ : ∃ lo, lo = wF.heap.size := ⟨_, rfl⟩;obtain ⟨n8, hn8⟩ : ∃ n8, n8 = w3.heap.size := ⟨_, rfl⟩;rw [← hlo, ← hn8] at hW8
  have hwr7 : ∀ q, Wr go gb gd rowsB rowsD q → q < lo ∨ n8 ≤ q := fun q hq => Or.inl (by rw [hlo]; exact M6.wlt hq);have hlen8 := zwq f a x;obtain ⟨ws8, hws8⟩ : ∃ ws8, ws8 = qu f a x := ⟨_, rfl⟩;rw [← hws8] at hW8 hlen8;have hit : itB f a = ws8.map fun p => (p.1, (a, p.2)) := by rw [ztv hx, hws8]
  refine anx rfl (zv (srx (anx rfl (yf (zx 8 (.slice A8 ws8.length c8) rfl ((by rw [hws8] : (.slice A8 (qu f a x).length c8 : Value) = _)) (qx (ι := Nat × List (GR BE)) (fun (k, rowsB) => [(1, .pointer (some ⟨g1, 0, none⟩)), (3, .int .i64 ((n : Nat) : Int)), (4, .slice (some ⟨go, 0, none⟩) N N), (5, .slice (some ⟨gb, 0, none⟩) N N), (6, .slice (some ⟨gd, 0, none⟩) R R), (7, .int .i64 ((a : Nat) : Int)), (8, .slice A8 ws8.length c8), (9, .int .i64 ((k : Nat) : Int))]) (fun (k, rowsB) w' => k ≤ ws8.length ∧ Ext (fun q => bz ≤ q) w w' ∧ n8 ≤ w'.heap.size ∧ DM bz go gb gd g1 N n fv (gs ++ [gr]) (Q ++ [List.replicate n 0]) rowsB rowsD w' ∧ WaysA lo n8 w' A8 ws8 ∧ (∀ q, Wr go gb gd rowsB rowsD q → q < lo ∨ n8 ≤ q) ∧ rowsB.length = N ∧ Prog (itB f) a k (LB rowsB) ∧ gz ((LB rowsB).map List.length) ≤ cnt (itB f) a + k) (fun (k, _) => ws8.length - k) (0, rowsB) ⟨rfl, rfl, rfl, rfl, rfl, rfl, rfl, rfl, trivial⟩ (⟨Nat.zero_le _, hE7, by rw [hn8]; exact Nat.le_refl _, M7, hW8, hwr7, hlB, hPB, hSB⟩) ?_))))))
  rintro ⟨k, rowsB⟩ w5 ⟨hk8, hEk, hsk, Mk, hWk, hwrk, hlBk, hPBk, hSBk⟩;refine zv (srx (mvx rfl (mvx rfl (za rfl (qf Tryd.underlying76 rfl (za rfl (yy rfl rfl (rnx (zr rfl (fun hk => ?_) (fun hk => ?_))))))))))
  ·
   have hk := of_decide_eq_true hk;have hkl : k < ws8.length := by omega
   obtain ⟨y, hy⟩ : ∃ y, ws8[k]? = some y := ⟨_, List.getElem?_eq_getElem hkl⟩;have hyw : y ∈ qu f a x := by rw [← hws8]; exact List.mem_of_getElem? hy
   have hyin := (ybk hs hx hyw).1;obtain ⟨t, ht⟩ : ∃ t : Nat, y.1 = (t : Int) := ⟨y.1.toNat, by omega⟩;have htN : t < N := by omega
   obtain ⟨g8, o8, hA8, hg8, C, cC, hI8, hq8, hc8⟩ := RowS.at hWk.row hy;obtain ⟨r, hr⟩ : ∃ r, rowsB[t]? = some r := ⟨_, List.getElem?_eq_getElem (by omega)⟩;have hcr := Mk.bk.cell hr;rw [ht] at hc8;have hrm := List.mem_of_getElem? hr;have hro := Mk.bk.own r hrm
   have hZw : ∀ q, Mut [(grV r).ownBlock] q → Wr go gb gd rowsB rowsD q := fun q hq => Or.inr (Or.inr (Or.inr (Or.inl ⟨r, hrm, jh hq⟩)));have hlo8 := hWk.lo_ g8 o8 hA8;have hZ8 : ¬ Mut [(grV r).ownBlock] g8 := fun hq => by have := hwrk g8 (hZw g8 hq); omega
   have hZb : ¬ Mut [(grV r).ownBlock] gb := fun hq => by
    obtain ⟨cu, hcu⟩ := oe hro (jh hq);exact absurd (gn hcu Mk.bk.out) (by decide)
   obtain ⟨x9, hx9⟩ : ∃ x9 : BE, x9 = ((a, y.2), (C, cC)) := ⟨_, rfl⟩;obtain ⟨szK, hszK⟩ : ∃ szK, szK = w5.heap.size := ⟨_, rfl⟩;have hcnt : cnt (itB f) a + k ≤ 3 * N := by
    have h1 := cnt_le (itB f) (a := a + 1) (N := N) (by omega);have h2 := cnt_B f N;have h3 : cnt (itB f) (a + 1) = cnt (itB f) a + (itB f a).length := rfl;rw [hit, List.length_map] at h3;omega
   have hrl : r.2.2.length ≤ 3 * N := by
    have h1 := zav (L := LB rowsB) t;rw [LB_get hr, List.length_map] at h1;omega
   have hrl9 : (r.2.2 ++ [x9]).length = r.2.2.length + 1 := by rw [List.length_append]; rfl
   refine zt (zg (zv (yf (kj jj (kl 24 rfl ?_)))));refine aw_one 22 (Mut [(grV r).ownBlock]) (fun k hk => vd hro k (jh hk)) (kv [Fx.of (.slice (some ⟨gb, 0, none⟩) N N),
    Fx.of (.slice A8 ws8.length c8),
    Fx.of (.int .i64 ((k : Nat) : Int)),
    Fx.of (.pointer (some ⟨g8, o8 + k * 2, none⟩)),
    Fx.of (.pointer (some ⟨g8, o8 + k * 2, none⟩)),
    Fx.of (.int .i64 ((t : Nat) : Int)),
    Fx.of (.slice (some ⟨gb, 0, none⟩) N N),
    Fx.of (.slice A8 ws8.length c8),
    Fx.of (.int .i64 ((k : Nat) : Int)),
    Fx.of (.pointer (some ⟨g8, o8 + k * 2, none⟩)),
    Fx.of (.pointer (some ⟨g8, o8 + k * 2, none⟩)),
    Fx.of (.int .i64 ((t : Nat) : Int)),
    Fx.of (.pointer (some ⟨gb, 0 + t, none⟩)),
    Fx.of (.slice r.1 r.2.2.length r.2.1),
    Fx.of (.int .i64 ((a : Nat) : Int)),
    Fx.of (.slice A8 ws8.length c8),
    Fx.of (.int .i64 ((k : Nat) : Int)),
    Fx.of (.pointer (some ⟨g8, o8 + k * 2, none⟩)),
    Fx.of (.pointer (some ⟨g8, o8 + k * 2 + 1, none⟩)),
    Fx.of (.slice C y.2.length cC),
    Fx.of (.agg #[.int .i64 ((a : Nat) : Int), .slice C y.2.length cC]),
    ⟨Nat, fun gx => .slice (some ⟨gx, 0, none⟩) 1 1, fun gx b => (Blk b gx 82 #[.int .i64 ((a : Nat) : Int), .slice C y.2.length cC])⟩,
    ⟨(Option Addr × Nat), fun (A9, c9) => .slice A9 (r.2.2 ++ [x9]).length c9, fun (A9, c9) b => ((b.ownsRow bz 82 2 (.slice A9 (r.2.2 ++ [x9]).length c9) (r.2.2 ++ [x9]).length ((r.2.2 ++ [x9]).flatMap enB) ∧ ∀ k, (Value.slice A9 (r.2.2 ++ [x9]).length c9).ownBlock = some k → (grV r).ownBlock = some k ∨ szK ≤ k))⟩,
    Fx.of (.pointer (some ⟨gb, 0 + t, none⟩))]) rfl ?_ ?_
   · refine ⟨?_, ?_, ?_, ?_, ?_, ?_, ?_, ?_, ?_, ?_, ?_, ?_, ?_, ?_, ?_, ?_, ?_, ?_, ?_, ?_, ?_, ?_, ?_, ?_, trivial⟩
     · intro vs X wq K KQ;exact zk rfl ⟨Below.refl _ _, Left.of rfl⟩
     · intro vs X wq K KQ;exact zk rfl ⟨Below.refl _ _, Left.of rfl⟩
     · intro vs X wq K KQ;exact zk rfl ⟨Below.refl _ _, Left.of rfl⟩
     · intro vs X wq K KQ;obtain ⟨_, e1, k1⟩ := K.dep 1 rfl rfl rfl;refine zd 50 (.slice A8 ws8.length c8) rfl e1 ?_;obtain ⟨_, e2, k2⟩ := K.dep 2 rfl rfl rfl;refine zd 51 (.int .i64 ((k : Nat) : Int)) rfl e2 ?_;exact yo (j := k) Tryd.underlying76 xp (congrArg (fun z ↦ some (Value.slice z ws8.length c8)) hA8) rfl rfl hkl ⟨Below.refl _ _, Left.of rfl⟩
     · intro vs X wq K KQ;obtain ⟨_, e3, k3⟩ := K.dep 3 rfl rfl rfl;refine zd 52 (.pointer (some ⟨g8, o8 + k * 2, none⟩)) rfl e3 ?_;exact zb Tryd.underlying80 rfl sz3 (by decide) rfl ⟨Below.refl _ _, Left.of rfl⟩
     · intro vs X wq K KQ;have LE := K.1;obtain ⟨_, e4, k4⟩ := K.dep 4 rfl rfl rfl;refine zd 53 (.pointer (some ⟨g8, o8 + k * 2, none⟩)) rfl e4 ?_;exact zw Tryd.underlying3 rfl rfl (zqv LE hZ8 (hc8 0 _ rfl)) ⟨Below.refl _ _, Left.of rfl⟩
     · intro vs X wq K KQ;exact zk rfl ⟨Below.refl _ _, Left.of rfl⟩
     · intro vs X wq K KQ;exact zk rfl ⟨Below.refl _ _, Left.of rfl⟩
     · intro vs X wq K KQ;exact zk rfl ⟨Below.refl _ _, Left.of rfl⟩
     · intro vs X wq K KQ;obtain ⟨_, e7, k7⟩ := K.dep 7 rfl rfl rfl;refine zd 56 (.slice A8 ws8.length c8) rfl e7 ?_;obtain ⟨_, e8, k8⟩ := K.dep 8 rfl rfl rfl;refine zd 57 (.int .i64 ((k : Nat) : Int)) rfl e8 ?_;exact yo (j := k) Tryd.underlying76 xp (congrArg (fun z ↦ some (Value.slice z ws8.length c8)) hA8) rfl rfl hkl ⟨Below.refl _ _, Left.of rfl⟩
     · intro vs X wq K KQ;obtain ⟨_, e9, k9⟩ := K.dep 9 rfl rfl rfl;refine zd 58 (.pointer (some ⟨g8, o8 + k * 2, none⟩)) rfl e9 ?_;exact zb Tryd.underlying80 rfl sz3 (by decide) rfl ⟨Below.refl _ _, Left.of rfl⟩
     · intro vs X wq K KQ;have LE := K.1;obtain ⟨_, e10, k10⟩ := K.dep 10 rfl rfl rfl;refine zd 59 (.pointer (some ⟨g8, o8 + k * 2, none⟩)) rfl e10 ?_;exact zw Tryd.underlying3 rfl rfl (zqv LE hZ8 (hc8 0 _ rfl)) ⟨Below.refl _ _, Left.of rfl⟩
     · intro vs X wq K KQ;obtain ⟨_, e6, k6⟩ := K.dep 6 rfl rfl rfl;refine zd 55 (.slice (some ⟨gb, 0, none⟩) N N) rfl e6 ?_;obtain ⟨_, e11, k11⟩ := K.dep 11 rfl rfl rfl;refine zd 60 (.int .i64 ((t : Nat) : Int)) rfl e11 ?_;exact zm (j := t) Tryd.underlying75 sz78 rfl rfl rfl htN ⟨Below.refl _ _, Left.of rfl⟩
     · intro vs X wq K KQ;have LE := K.1;obtain ⟨_, e12, k12⟩ := K.dep 12 rfl rfl rfl;refine zd 61 (.pointer (some ⟨gb, 0 + t, none⟩)) rfl e12 ?_;exact zw Tryd.underlying78 rfl rfl (by rw [Nat.zero_add]; exact zqv LE hZb hcr) ⟨Below.refl _ _, Left.of rfl⟩
     · intro vs X wq K KQ;exact zk rfl ⟨Below.refl _ _, Left.of rfl⟩
     · intro vs X wq K KQ;exact zk rfl ⟨Below.refl _ _, Left.of rfl⟩
     · intro vs X wq K KQ;exact zk rfl ⟨Below.refl _ _, Left.of rfl⟩
     · intro vs X wq K KQ;obtain ⟨_, e15, k15⟩ := K.dep 15 rfl rfl rfl;refine zd 64 (.slice A8 ws8.length c8) rfl e15 ?_;obtain ⟨_, e16, k16⟩ := K.dep 16 rfl rfl rfl;refine zd 65 (.int .i64 ((k : Nat) : Int)) rfl e16 ?_;exact yo (j := k) Tryd.underlying76 xp (congrArg (fun z ↦ some (Value.slice z ws8.length c8)) hA8) rfl rfl hkl ⟨Below.refl _ _, Left.of rfl⟩
     · intro vs X wq K KQ;obtain ⟨_, e17, k17⟩ := K.dep 17 rfl rfl rfl;refine zd 66 (.pointer (some ⟨g8, o8 + k * 2, none⟩)) rfl e17 ?_;exact zb Tryd.underlying80 rfl km (by decide) rfl ⟨Below.refl _ _, Left.of rfl⟩
     · intro vs X wq K KQ;have LE := K.1;obtain ⟨_, e18, k18⟩ := K.dep 18 rfl rfl rfl;refine zd 67 (.pointer (some ⟨g8, o8 + k * 2 + 1, none⟩)) rfl e18 ?_;exact zw Tryd.underlying28 rfl rfl (zqv LE hZ8 (hc8 1 _ rfl)) ⟨Below.refl _ _, Left.of rfl⟩
     · intro vs X wq K KQ;obtain ⟨_, e14, k14⟩ := K.dep 14 rfl rfl rfl;refine zd 63 (.int .i64 ((a : Nat) : Int)) rfl e14 ?_;obtain ⟨_, e19, k19⟩ := K.dep 19 rfl rfl rfl;refine zd 68 (.slice C y.2.length cC) rfl e19 ?_;exact vj (cs := #[.int .i64 ((a : Nat) : Int), .slice C y.2.length cC]) pl82 zr82 rfl rfl ⟨Below.refl _ _, Left.of rfl⟩
     · intro vs X wq K KQ;have XN := K.2.1;obtain ⟨_, e20, k20⟩ := K.dep 20 rfl rfl rfl;refine zd 69 (.agg #[.int .i64 ((a : Nat) : Int), .slice C y.2.length cC]) rfl e20 (qk (cs := #[.int .i64 ((a : Nat) : Int), .slice C y.2.length cC]) Tryd.underlying78 sz82 zr82 (by decide) rfl (by rw [ym]; rfl) ?_);intro gx w5 Bx hb Gx
       exact ⟨hb, ⟨gx, rfl, Per.blk Bx (fun hx => by have := XN gx hx; omega)⟩⟩
     · intro vs X wq K KQ;have LQ := KQ rfl;obtain ⟨_, e13, k13⟩ := K.dep 13 rfl rfl rfl;refine zd 62 (.slice r.1 r.2.2.length r.2.1) rfl e13 ?_;obtain ⟨gx, e21, k21⟩ := K.dep 21 rfl rfl rfl
       refine zd 70 (.slice (some ⟨gx, 0, none⟩) 1 1) rfl e21 (xu (n' := (r.2.2 ++ [x9]).length) (xs' := (r.2.2 ++ [x9]).flatMap enB) Tryd.underlying78 inf82 rfl (by decide) rfl (owns_no LQ hro) rfl (vg (k21.here) (k21.here).lt rfl) (by simp [Value.oneCell']) hrl9.symm (by rw [List.flatMap_append, hx9]; rfl) (by rw [hrl9]; unfold maxLen; omega) (by rw [hrl9]; omega) (by rw [hb0]; exact Nat.le_trans hEk.size LQ.size) ?_)
       intro A9 c9 w6 O9 hb N9;exact ⟨hb, ⟨(A9, c9), rfl, (fun z hz => ⟨vz O9 hz (fun _ _ h => h.elim), fun k hk => (N9 k hk).imp id fun h => by rw [hszK]; exact Nat.le_trans LQ.size h⟩)⟩⟩
     · intro vs X wq K KQ;obtain ⟨_, e0, k0⟩ := K.dep 0 rfl rfl rfl;refine zd 49 (.slice (some ⟨gb, 0, none⟩) N N) rfl e0 ?_;obtain ⟨_, e5, k5⟩ := K.dep 5 rfl rfl rfl;refine zd 54 (.int .i64 ((t : Nat) : Int)) rfl e5 ?_;exact zm (j := t) Tryd.underlying75 sz78 rfl rfl rfl htN ⟨Below.refl _ _, Left.of rfl⟩
   intro vs w6 LE AO AL AF AA;have hxd : Ext (Mut [(grV r).ownBlock]) (w5) w6 := ((Ext.refl _ (w5)).drew).trans LE;obtain ⟨⟨A9, c9⟩, e22, k22⟩ := AL.2.2.2.2.2.2.2.2.2.2.2.2.2.2.2.2.2.2.2.2.2.2.1;obtain ⟨_, e23, k23⟩ := AL.2.2.2.2.2.2.2.2.2.2.2.2.2.2.2.2.2.2.2.2.2.2.2.1;have Wc22 := k22.here
   refine vm (τ := [(1, _), (3, _), (4, _), (5, _), (6, _), (7, _), (8, _), (9, _), (71, .slice A9 (r.2.2 ++ [x9]).length c9), (72, .pointer (some ⟨gb, 0 + t, none⟩))]) ⟨rfl, rfl, rfl, rfl, rfl, rfl, rfl, rfl, congrArg some e22, congrArg some e23, trivial⟩ ?_;clear AL AF AA AO;refine oq (jd (by kernel_rfl) (fun _ _ d_ _ _ h => by cases d_ <;> exact h) ?_);have hO9 := Wc22.1
   have hN9 := Wc22.2;obtain ⟨r', hr'⟩ : ∃ r' : GR BE, r' = (A9, c9, r.2.2 ++ [x9]) := ⟨_, rfl⟩;have hr'2 : r'.2.2 = r.2.2 ++ [x9] := by rw [hr']
   have hro' : w6.ownsRow bz 82 2 (grV r') r'.2.2.length (r'.2.2.flatMap enB) := by rw [hr']; exact hO9
   have hNn : ∀ k, (grV r').ownBlock = some k → (grV r).ownBlock = some k ∨ szK ≤ k := by rw [hr']; exact hN9
   have Bb9 := vk Mk.bk.out hro (by decide) hxd;have hs9 := hxd.size;rw [← hszK] at hs9;refine zy (vq (cs' := ((rowsB.set t r').map grV).toArray) sz78 rfl rfl Bb9 rfl rfl (by rw [List.size_toArray, List.length_map]; omega) (by rw [Nat.zero_add, ← gr_set, hr']; rfl) ?_);rintro wM Bs Es
   have M9 := Mk.putB hr hr'2 hro' hxd (by rw [← hszK]; exact hNn) Bs Es (by rw [hx9]; exact hI8.up hsk) (by
    rw [hx9];intro h0 q q' e hw;obtain ⟨g', o', e', hg', _⟩ := hI8.row h0;rw [show C = some ⟨q, q', none⟩ from e] at e';cases e'
    have h1 := hq8 q q' e;have h2 := hwrk q hw;omega)
   have hown : ∀ q, Mut [(grV r).ownBlock] q → bz ≤ q := own_ge hro;have hgbz : bz ≤ gb := by omega
   have hE9 := (hEk.step hxd (fun q hq => Or.inl (hown q hq))).step Es (fun q hq => Or.inl (show bz ≤ q by have := va hq; omega));have hW9 := (hWk.mid hxd (fun q hq => hwrk q (hZw q hq))).mid Es (fun q hq => hwrk q (Or.inr (Or.inl (va hq))));have hwr9 : ∀ q, Wr go gb gd (rowsB.set t r') rowsD q → q < lo ∨ n8 ≤ q := fun q hq => by
    rcases Wr_setB hq with h | h
    · exact hwrk q h
    · rcases hNn q h with h | h
      · exact hwrk q (hZw q (Or.inl h.symm))
      · right; omega
   have hitk : (itB f a)[k]? = some (((t : Nat) : Int), x9.1) := by rw [hit, List.getElem?_map, hy, hx9, ← ht]; rfl
   have hLl : t < (LB rowsB).length := by unfold LB; rw [List.length_map]; omega
   refine ye (zf (zg (zl (mvx rfl (za rfl (qd rfl rfl (yg (by omega)) (avx rfl (ye ?_))))))))
   exact yw (k + 1, rowsB.set t r') (by show ws8.length - (k + 1) < ws8.length - k; omega) ⟨rfl, rfl, rfl, rfl, rfl, rfl, rfl, rfl, trivial⟩ (⟨hkl, hE9, by have := Es.size; omega, M9, hW9, hwr9, by rw [List.length_set]; exact hlBk, by rw [LB_set hr hr'2]; exact hPBk.step hitk hLl, by rw [LB_set hr hr'2, zrk hLl]; omega⟩)
  ·
   have hk := of_decide_eq_false hk;have hke : k = ws8.length := by omega
   have hitl : (itB f a).length = k := by rw [hit, List.length_map, hke]
   have hPB1 := hPBk.next (Nat.le_of_eq hitl);have hSB1 : gz ((LB rowsB).map List.length) ≤ cnt (itB f) (a + 1) := by
    have : cnt (itB f) (a + 1) = cnt (itB f) a + (itB f a).length := rfl;omega
   have hFk : FnA n0 w5 p f := hF.low (X := fun q => bz ≤ q) ⟨hEk, fun q h => by have h : bz ≤ q := h; omega⟩;refine qi (zo (zo (yd (zg (srx (za rfl (zb Tryd.underlying27 rfl ox (by decide) rfl (za rfl (zi Tryd.underlying24 rfl rfl Mk.fb (by rw [hfv]; rfl) ?_)))))))));obtain ⟨gi, oi, hAi, hgi, hcx⟩ := hFk.ins.row.at hx
   obtain ⟨hI, B, cB, hcB, hl, hcells⟩ := hcx;refine mvx rfl (za rfl (yo (j := a) Tryd.underlying24 jg (congrArg (fun z ↦ some (Value.slice z f.ins.length p.ci)) hAi) rfl rfl hal' (za rfl (ke (cs := (zeq x B cB).toArray) Tryd.underlying41 rfl jg rfl rfl (fun j v hj ↦ hcells j v (by simpa using hj)) ?_))));obtain ⟨lo2, hlo2⟩ : ∃ lo2, lo2 = w5.heap.size := ⟨_, rfl⟩
   have hloz : bz ≤ lo2 := by rw [hlo2, hb0]; exact hEk.size
   refine za rfl (yc en28 rfl ((zbv _ x B cB n0 hl hFk.size).mono ?_));rintro e w7 ⟨A10, c10, rfl, hO10, hb⟩;refine ⟨_, rfl, ?_⟩;have E10 := Ext.of_below hb No;have M10 := Mk.no E10;have hE10 := hEk.step E10 (fun _ h => h.elim);rw [← hlo2] at hO10;obtain ⟨n10, hn10⟩ : ∃ n10, n10 = w7.heap.size := ⟨_, rfl⟩
   have hlt10 : ∀ q, (Value.slice A10 (yu x).length c10).ownBlock = some q → lo2 ≤ q ∧ q < n10 := fun q hq => ⟨jy hO10 q hq, by rw [hn10]; exact vd hO10 q hq⟩;have hwr10 : ∀ q, Wr go gb gd rowsB rowsD q → q < lo2 ∨ n10 ≤ q := fun q hq => Or.inl (by rw [hlo2]; exact Mk.wlt hq);obtain ⟨rs, hrs⟩ : ∃ rs, rs = yu x := ⟨_, rfl⟩;rw [← hrs] at hO10 hlt10
   have hitd : itD f a = rs.map fun q => (q, a) := by rw [ztk hx, hrs]
   refine anx rfl (srx (anx rfl (yf (zx 10 (.slice A10 rs.length c10) rfl ((by rw [hrs] : (.slice A10 (yu x).length c10 : Value) = _)) (qx (ι := Nat × List (GR Nat)) (fun (k, rowsD) => [(1, .pointer (some ⟨g1, 0, none⟩)), (3, .int .i64 ((n : Nat) : Int)), (4, .slice (some ⟨go, 0, none⟩) N N), (5, .slice (some ⟨gb, 0, none⟩) N N), (6, .slice (some ⟨gd, 0, none⟩) R R), (7, .int .i64 ((a : Nat) : Int)), (10, .slice A10 rs.length c10), (11, .int .i64 ((k : Nat) : Int))]) (fun (k, rowsD) w' => k ≤ rs.length ∧ Ext (fun q => bz ≤ q) w w' ∧ n10 ≤ w'.heap.size ∧ DM bz go gb gd g1 N n fv (gs ++ [gr]) (Q ++ [List.replicate n 0]) rowsB rowsD w' ∧ w'.ownsRow lo2 3 1 (.slice A10 rs.length c10) rs.length (yz rs) ∧ (∀ q, Wr go gb gd rowsB rowsD q → q < lo2 ∨ n10 ≤ q) ∧ rowsD.length = R ∧ Prog (itD f) a k (LD rowsD) ∧ gz ((LD rowsD).map List.length) ≤ cnt (itD f) a + k) (fun (k, _) => rs.length - k) (0, rowsD) ⟨rfl, rfl, rfl, rfl, rfl, rfl, rfl, rfl, trivial⟩ (⟨Nat.zero_le _, hE10, by rw [hn10]; exact Nat.le_refl _, M10, hO10, hwr10, hlD, hPD, hSD⟩) ?_)))))
   rintro ⟨k, rowsD⟩ w9 ⟨hk10, hEk2, hsk2, Mk2, hOk2, hwrk2, hlDk, hPDk, hSDk⟩;refine zv (srx (mvx rfl (mvx rfl (za rfl (qf Tryd.underlying28 rfl (za rfl (yy rfl rfl (rnx (zr rfl (fun hk2 => ?_) (fun hk2 => ?_))))))))))
   ·
    have hk2 := of_decide_eq_true hk2;have hkl2 : k < rs.length := by omega
    obtain ⟨y, hy⟩ : ∃ y, rs[k]? = some y := ⟨_, List.getElem?_eq_getElem hkl2⟩;have hyin := (znz hs hx).1 y (by rw [← hrs]; exact List.mem_of_getElem? hy);obtain ⟨t, ht⟩ : ∃ t : Nat, y = (t : Int) := ⟨y.toNat, by omega⟩;have htR : t < R := by omega
    obtain ⟨g8, hA8, hg8a, hg8b, hc8⟩ := js hOk2 (by omega);have hcy := hc8 k (.int .i64 ((t : Nat) : Int)) (by unfold yz; rw [List.getElem?_map, hy, ht]; rfl);obtain ⟨r, hr⟩ : ∃ r, rowsD[t]? = some r := ⟨_, List.getElem?_eq_getElem (by omega)⟩;have hcr := Mk2.rd.cell hr;have hrm := List.mem_of_getElem? hr;have hro := Mk2.rd.own r hrm
    have hZw : ∀ q, Mut [(grV r).ownBlock] q → Wr go gb gd rowsB rowsD q := fun q hq => Or.inr (Or.inr (Or.inr (Or.inr ⟨r, hrm, jh hq⟩)));have hl8 := hlt10 g8 (by rw [hA8]; rfl);have hZ8 : ¬ Mut [(grV r).ownBlock] g8 := fun hq => by have := hwrk2 g8 (hZw g8 hq); omega
    have hZd : ¬ Mut [(grV r).ownBlock] gd := fun hq => by
     obtain ⟨cu, hcu⟩ := oe hro (jh hq);exact absurd (gn hcu Mk2.rd.out) (by decide)
    obtain ⟨szK, hszK⟩ : ∃ szK, szK = w9.heap.size := ⟨_, rfl⟩;have hcnt : cnt (itD f) a + k ≤ 2097152 := by
     have h1 := cnt_le (itD f) (a := a + 1) (N := f.ins.length) (by omega);have h2 := zzz f;have h3 : cnt (itD f) (a + 1) = cnt (itD f) a + (itD f a).length := rfl;rw [hitd, List.length_map] at h3;omega
    have hrl : r.2.2.length ≤ 2097152 := by
     have h1 := zav (L := LD rowsD) t;rw [zmv hr] at h1;omega
    have hrl9 : (r.2.2 ++ [a]).length = r.2.2.length + 1 := by rw [List.length_append]; rfl
    refine zt (zg (zv (yf (kj jj (kl 16 rfl ?_)))));refine aw_one 14 (Mut [(grV r).ownBlock]) (fun k hk => vd hro k (jh hk)) (kv [Fx.of (.slice (some ⟨gd, 0, none⟩) R R),
     Fx.of (.slice A10 rs.length c10),
     Fx.of (.int .i64 ((k : Nat) : Int)),
     Fx.of (.pointer (some ⟨g8, 0 + k, none⟩)),
     Fx.of (.int .i64 ((t : Nat) : Int)),
     Fx.of (.slice (some ⟨gd, 0, none⟩) R R),
     Fx.of (.slice A10 rs.length c10),
     Fx.of (.int .i64 ((k : Nat) : Int)),
     Fx.of (.pointer (some ⟨g8, 0 + k, none⟩)),
     Fx.of (.int .i64 ((t : Nat) : Int)),
     Fx.of (.pointer (some ⟨gd, 0 + t, none⟩)),
     Fx.of (.slice r.1 r.2.2.length r.2.1),
     Fx.of (.int .i64 ((a : Nat) : Int)),
     ⟨Nat, fun gx => .slice (some ⟨gx, 0, none⟩) 1 1, fun gx b => (Blk b gx 3 #[.int .i64 ((a : Nat) : Int)])⟩,
     ⟨(Option Addr × Nat), fun (A9, c9) => .slice A9 (r.2.2 ++ [a]).length c9, fun (A9, c9) b => ((b.ownsRow bz 3 1 (.slice A9 (r.2.2 ++ [a]).length c9) (r.2.2 ++ [a]).length ((r.2.2 ++ [a]).flatMap enD) ∧ ∀ k, (Value.slice A9 (r.2.2 ++ [a]).length c9).ownBlock = some k → (grV r).ownBlock = some k ∨ szK ≤ k))⟩,
     Fx.of (.pointer (some ⟨gd, 0 + t, none⟩))]) rfl ?_ ?_
    · refine ⟨?_, ?_, ?_, ?_, ?_, ?_, ?_, ?_, ?_, ?_, ?_, ?_, ?_, ?_, ?_, ?_, trivial⟩
      · intro vs X wq K KQ;exact zk rfl ⟨Below.refl _ _, Left.of rfl⟩
      · intro vs X wq K KQ;exact zk rfl ⟨Below.refl _ _, Left.of rfl⟩
      · intro vs X wq K KQ;exact zk rfl ⟨Below.refl _ _, Left.of rfl⟩
      · intro vs X wq K KQ;obtain ⟨_, e1, k1⟩ := K.dep 1 rfl rfl rfl;refine zd 86 (.slice A10 rs.length c10) rfl e1 ?_;obtain ⟨_, e2, k2⟩ := K.dep 2 rfl rfl rfl;refine zd 87 (.int .i64 ((k : Nat) : Int)) rfl e2 ?_;exact zm (j := k) Tryd.underlying28 sz3 (congrArg (fun z ↦ some (Value.slice z rs.length c10)) hA8) rfl rfl hkl2 ⟨Below.refl _ _, Left.of rfl⟩
      · intro vs X wq K KQ;have LE := K.1;obtain ⟨_, e3, k3⟩ := K.dep 3 rfl rfl rfl;refine zd 88 (.pointer (some ⟨g8, 0 + k, none⟩)) rfl e3 ?_;exact zw Tryd.underlying3 rfl rfl (by rw [Nat.zero_add]; exact zqv LE hZ8 hcy) ⟨Below.refl _ _, Left.of rfl⟩
      · intro vs X wq K KQ;exact zk rfl ⟨Below.refl _ _, Left.of rfl⟩
      · intro vs X wq K KQ;exact zk rfl ⟨Below.refl _ _, Left.of rfl⟩
      · intro vs X wq K KQ;exact zk rfl ⟨Below.refl _ _, Left.of rfl⟩
      · intro vs X wq K KQ;obtain ⟨_, e6, k6⟩ := K.dep 6 rfl rfl rfl;refine zd 91 (.slice A10 rs.length c10) rfl e6 ?_;obtain ⟨_, e7, k7⟩ := K.dep 7 rfl rfl rfl;refine zd 92 (.int .i64 ((k : Nat) : Int)) rfl e7 ?_;exact zm (j := k) Tryd.underlying28 sz3 (congrArg (fun z ↦ some (Value.slice z rs.length c10)) hA8) rfl rfl hkl2 ⟨Below.refl _ _, Left.of rfl⟩
      · intro vs X wq K KQ;have LE := K.1;obtain ⟨_, e8, k8⟩ := K.dep 8 rfl rfl rfl;refine zd 93 (.pointer (some ⟨g8, 0 + k, none⟩)) rfl e8 ?_;exact zw Tryd.underlying3 rfl rfl (by rw [Nat.zero_add]; exact zqv LE hZ8 hcy) ⟨Below.refl _ _, Left.of rfl⟩
      · intro vs X wq K KQ;obtain ⟨_, e5, k5⟩ := K.dep 5 rfl rfl rfl;refine zd 90 (.slice (some ⟨gd, 0, none⟩) R R) rfl e5 ?_;obtain ⟨_, e9, k9⟩ := K.dep 9 rfl rfl rfl;refine zd 94 (.int .i64 ((t : Nat) : Int)) rfl e9 ?_;exact zm (j := t) Tryd.underlying59 km rfl rfl rfl htR ⟨Below.refl _ _, Left.of rfl⟩
      · intro vs X wq K KQ;have LE := K.1;obtain ⟨_, e10, k10⟩ := K.dep 10 rfl rfl rfl;refine zd 95 (.pointer (some ⟨gd, 0 + t, none⟩)) rfl e10 ?_;exact zw Tryd.underlying28 rfl rfl (by rw [Nat.zero_add]; exact zqv LE hZd hcr) ⟨Below.refl _ _, Left.of rfl⟩
      · intro vs X wq K KQ;exact zk rfl ⟨Below.refl _ _, Left.of rfl⟩
      · intro vs X wq K KQ;have XN := K.2.1;obtain ⟨_, e12, k12⟩ := K.dep 12 rfl rfl rfl;refine zd 97 (.int .i64 ((a : Nat) : Int)) rfl e12 (qk (cs := #[.int .i64 ((a : Nat) : Int)]) Tryd.underlying28 sz3 zr3 (by decide) rfl (by rw [ym]; rfl) ?_);intro gx w5 Bx hb Gx;exact ⟨hb, ⟨gx, rfl, Per.blk Bx (fun hx => by have := XN gx hx; omega)⟩⟩
      · intro vs X wq K KQ;have LQ := KQ rfl;obtain ⟨_, e11, k11⟩ := K.dep 11 rfl rfl rfl;refine zd 96 (.slice r.1 r.2.2.length r.2.1) rfl e11 ?_;obtain ⟨gx, e13, k13⟩ := K.dep 13 rfl rfl rfl
        refine zd 98 (.slice (some ⟨gx, 0, none⟩) 1 1) rfl e13 (xu (n' := (r.2.2 ++ [a]).length) (xs' := (r.2.2 ++ [a]).flatMap enD) Tryd.underlying28 oj rfl (by decide) rfl (owns_no LQ hro) rfl (vg (k13.here) (k13.here).lt rfl) (by simp [Value.oneCell']) hrl9.symm (by rw [List.flatMap_append]; rfl) (by rw [hrl9]; unfold maxLen; omega) (by rw [hrl9]; omega) (by rw [hb0]; exact Nat.le_trans hEk2.size LQ.size) ?_)
        intro A9 c9 w6 O9 hb N9;exact ⟨hb, ⟨(A9, c9), rfl, (fun z hz => ⟨vz O9 hz (fun _ _ h => h.elim), fun k hk => (N9 k hk).imp id fun h => by rw [hszK]; exact Nat.le_trans LQ.size h⟩)⟩⟩
      · intro vs X wq K KQ;obtain ⟨_, e0, k0⟩ := K.dep 0 rfl rfl rfl;refine zd 85 (.slice (some ⟨gd, 0, none⟩) R R) rfl e0 ?_;obtain ⟨_, e4, k4⟩ := K.dep 4 rfl rfl rfl;refine zd 89 (.int .i64 ((t : Nat) : Int)) rfl e4 ?_;exact zm (j := t) Tryd.underlying59 km rfl rfl rfl htR ⟨Below.refl _ _, Left.of rfl⟩
    intro vs w10 LE AO AL AF AA;have hxd : Ext (Mut [(grV r).ownBlock]) (w9) w10 := ((Ext.refl _ (w9)).drew).trans LE;obtain ⟨⟨A9, c9⟩, e14, k14⟩ := AL.2.2.2.2.2.2.2.2.2.2.2.2.2.2.1;obtain ⟨_, e15, k15⟩ := AL.2.2.2.2.2.2.2.2.2.2.2.2.2.2.2.1;have Wc14 := k14.here
    refine vm (τ := [(1, _), (3, _), (4, _), (5, _), (6, _), (7, _), (10, _), (11, _), (99, .slice A9 (r.2.2 ++ [a]).length c9), (100, .pointer (some ⟨gd, 0 + t, none⟩))]) ⟨rfl, rfl, rfl, rfl, rfl, rfl, rfl, rfl, congrArg some e14, congrArg some e15, trivial⟩ ?_;clear AL AF AA AO;refine oq (jd (by kernel_rfl) (fun _ _ d_ _ _ h => by cases d_ <;> exact h) ?_);have hO9 := Wc14.1
    have hN9 := Wc14.2;obtain ⟨r', hr'⟩ : ∃ r' : GR Nat, r' = (A9, c9, r.2.2 ++ [a]) := ⟨_, rfl⟩;have hr'2 : r'.2.2 = r.2.2 ++ [a] := by rw [hr']
    have hro' : w10.ownsRow bz 3 1 (grV r') r'.2.2.length (r'.2.2.flatMap enD) := by rw [hr']; exact hO9
    have hNn : ∀ k, (grV r').ownBlock = some k → (grV r).ownBlock = some k ∨ szK ≤ k := by rw [hr']; exact hN9
    have Bb9 := vk Mk2.rd.out hro (by decide) hxd;have hs9 := hxd.size;rw [← hszK] at hs9;refine zy (vq (cs' := ((rowsD.set t r').map grV).toArray) km rfl rfl Bb9 rfl rfl (by rw [List.size_toArray, List.length_map]; omega) (by rw [Nat.zero_add, ← gr_set, hr']; rfl) ?_);rintro wM Bs Es;have M9 := Mk2.putD hr hro' hxd (by rw [← hszK]; exact hNn) Bs Es
    have hgdz : bz ≤ gd := by omega
    have hE9 := (hEk2.step hxd (fun q hq => Or.inl (own_ge hro q hq))).step Es (fun q hq => Or.inl (show bz ≤ q by have := va hq; omega));have hO10k := vz (vz hOk2 hxd (fun q hq hm => by have h1 := hlt10 q hq; have h2 := hwrk2 q (hZw q hm); omega)) Es (fun q hq hm => by have h1 := hlt10 q hq; have h2 := hwrk2 q (Or.inr (Or.inr (Or.inl (va hm)))); omega)
    have hwr9 : ∀ q, Wr go gb gd rowsB (rowsD.set t r') q → q < lo2 ∨ n10 ≤ q := fun q hq => by
     rcases Wr_setD hq with h | h
     · exact hwrk2 q h
     · rcases hNn q h with h | h
       · exact hwrk2 q (hZw q (Or.inl h.symm))
       · right; omega
    have hitk : (itD f a)[k]? = some (((t : Nat) : Int), a) := by rw [hitd, List.getElem?_map, hy, ht]; rfl
    have hLl : t < (LD rowsD).length := by unfold LD; rw [List.length_map]; omega
    refine ye (zf (zg (zl (mvx rfl (za rfl (qd rfl rfl (yg (by omega)) (avx rfl (ye ?_))))))))
    exact yw (k + 1, rowsD.set t r') (by show rs.length - (k + 1) < rs.length - k; omega) ⟨rfl, rfl, rfl, rfl, rfl, rfl, rfl, rfl, trivial⟩ (⟨hkl2, hE9, by have := Es.size; omega, M9, hO10k, hwr9, by rw [List.length_set]; exact hlDk, by rw [zmk hr hr'2]; exact hPDk.step hitk hLl, by rw [zmk hr hr'2, zrk hLl]; omega⟩)
   ·
    have hk2 := of_decide_eq_false hk2;have hke2 : k = rs.length := by omega
    have hitl2 : (itD f a).length = k := by rw [hitd, List.length_map, hke2]
    have hPD1 := hPDk.next (Nat.le_of_eq hitl2);have hSD1 : gz ((LD rowsD).map List.length) ≤ cnt (itD f) (a + 1) := by
     have : cnt (itD f) (a + 1) = cnt (itD f) a + (itD f a).length := rfl;omega
    refine qi (zo (zo (yd (zf (zg (zl (mvx rfl (za rfl (qd rfl rfl (yg (by omega)) (avx rfl (ye ?_)))))))))))
    exact yw (a + 1, gs ++ [gr], Q ++ [List.replicate n 0], rowsB, rowsD) (by show N - (a + 1) < N - a; omega) ⟨rfl, rfl, rfl, rfl, rfl, rfl, trivial⟩ (⟨hal, hEk2, Mk2, by rw [hQ, ← List.replicate_succ'], hlBk, hlDk, hPB1, hPD1, hSB1, hSD1⟩)
 ·
  have hi := of_decide_eq_false hi;have hae : a = N := by omega
  rw [hae] at hPB hPD hQ;have hBok := prog_B (by rw [← hN]; exact hPB);have hDok := fun r => prog_D (f := f) (L := LD rowsD) (by rw [← hN]; exact hPD) r;obtain ⟨wS, hwS⟩ : ∃ wS, wS = w2 := ⟨_, rfl⟩;rw [← hwS] at Ma hEa;have hBS := Ma.backs;have hLBl : (LB rowsB).length = N := by unfold LB; rw [List.length_map]; exact hlB
  have hK : ∀ r W, ((LD rowsD).getD r []).length + kr N (LB rowsB) W r ≤ 8796093022208 := fun r W => by
   have h1 := zav (L := LD rowsD) r;have h2 := zzz f;have h3 : cnt (itD f) a ≤ cnt (itD f) f.ins.length := cnt_le _ (by omega);have h4 := unset_le (N := N) (r := r) (B := LB rowsB) (W := W) (M := 3145728) (fun q => by
    have h1 := zav (L := LB rowsB) q;have h2 := cnt_B f a;omega)
   have h5 : N * 3145728 ≤ 1048576 * 3145728 := Nat.mul_le_mul_right _ hNb;omega
  refine qi (zo (zo (yd (zg (zv (srx (anx rfl (yf (qx (ι := Nat × List (List Nat)) (fun (r, W) => [(1, .pointer (some ⟨g1, 0, none⟩)), (4, .slice (some ⟨go, 0, none⟩) N N), (5, .slice (some ⟨gb, 0, none⟩) N N), (6, .slice (some ⟨gd, 0, none⟩) R R), (12, .int .i64 ((r : Nat) : Int))]) (fun (r, W) w' => r ≤ R ∧ Ext (SprX gs wS.heap.size) wS w' ∧ RowsB 55 35 bz w' go N n gs W ∧ W.length = N ∧ (∀ a q, q < r → (qy W a q = true ↔ Liv f a q)) ∧ ∀ a q, r ≤ q → qy W a q = false) (fun (r, _) => R - r) (0, Q) ⟨rfl, rfl, rfl, rfl, rfl, trivial⟩ (⟨Nat.zero_le _, by rw [hwS]; exact Ext.refl _ _, by rw [← hwS]; exact Ma.q, by rw [hQ, List.length_replicate], fun a q h => absurd h (Nat.not_lt_zero _), fun a q _ => by rw [hQ]; exact bitW_none _ _ _ _⟩) ?_)))))))))
  rintro ⟨r, W⟩ w12 ⟨hrR, hEr, hRW, hWl, hbit, hzero⟩;have hfr := spr_blk Ma.q Ma.fb (by decide) hEr
  refine zv (srx (mvx rfl (za rfl (zb Tryd.underlying27 rfl sz3 (by decide) rfl (za rfl (zi Tryd.underlying3 rfl rfl hfr (by rw [hfv]; rfl) (qs 103 (.int .i64 ((R : Nat) : Int)) rfl ((by rw [hRr] : (.int .i64 f.regs : Value) = _)) (za rfl (yy rfl rfl (rnx (zr rfl (fun hi2 => ?_) (fun hi2 => ?_))))))))))))
  ·
   have hi2 := of_decide_eq_true hi2;have hrl : r < R := by omega
   obtain ⟨d, hd⟩ : ∃ d, rowsD[r]? = some d := ⟨_, List.getElem?_eq_getElem (by omega)⟩;have hbd := spr_blk Ma.q Ma.rd.out (by decide) hEr;have hcd : w12.cell? ⟨gd, r, none⟩ = some (grV d) := by rw [hbd.cell, List.getElem?_toArray, List.getElem?_map, hd]; rfl
   have hdo := hDok r;have hKr := hK r W;rw [zmv hd] at hdo hKr;have hDA := Ma.reads hd (by have h1 := zav (L := LD rowsD) r; rw [zmv hd] at h1; have h2 := zzz f; have h3 : cnt (itD f) a ≤ cnt (itD f) f.ins.length := cnt_le _ (by omega); omega) (fun q hq => by
    obtain ⟨i, hi, _⟩ := (hdo q).1 hq;have := (List.getElem?_eq_some_iff.1 hi).1;omega)
   have hDA2 := (hDA.lowU (Ma.q.lowU hEr)).up hEr.size;have hBA2 := (hBS.lowU (Ma.q.lowU hEr)).up hEr.size
   refine zt (zg (zv (yf (zl (mvx rfl (mvx rfl (mvx rfl (mvx rfl (za rfl (zm (j := r) Tryd.underlying59 km rfl rfl rfl hrl (za rfl (zw Tryd.underlying28 rfl rfl (by rw [Nat.zero_add]; exact hcd) (mvx rfl (za rfl (yc en43 rfl ((spread_any f _ bz go gb N n gs W (LB rowsB) hRW hWl hN.symm hn1 (by rw [hb0]; exact Nat.le_trans hEa.size hEr.size) hBA2 hLBl hBok hs r (by omega) (fun a => hzero a r (Nat.le_refl _)) d.2.2 d.1 d.2.1 hDA2 hdo hKr N).mono ?_))))))))))))))))
   rintro e w13 ⟨rfl, W', hR2, hl2, hlv, hoth, hX2⟩;refine ⟨_, rfl, ?_⟩;have hb1 : ∀ a q, q < r + 1 → (qy W' a q = true ↔ Liv f a q) := fun a q hq => by
    rcases Nat.lt_or_ge q r with h | h
    · rw [hoth a q (by omega)]; exact hbit a q h
    · obtain rfl : q = r := by omega
      exact hlv a
   have hb2 : ∀ a q, r + 1 ≤ q → qy W' a q = false := fun a q hq => by rw [hoth a q (by omega)]; exact hzero a q (by omega)
   have hE2 := hEr.step hX2 (fun q hq => by
    rcases hq with hq | hq
    · exact Or.inl (Or.inl hq)
    · exact Or.inr (Nat.le_trans hEr.size hq))
   refine ye (zf (zg (zl (mvx rfl (za rfl (qd rfl rfl (yg (by omega)) (avx rfl (ye ?_))))))));exact yw (r + 1, W') (by show R - (r + 1) < R - r; omega) ⟨rfl, rfl, rfl, rfl, rfl, trivial⟩ (⟨hrl, hE2, hR2, hl2, hb1, hb2⟩)
  ·
   have hi2 := of_decide_eq_false hi2;have hre : r = R := by omega
   have hfin : Ext (fun q => bz ≤ q) w w12 := hEa.step hEr (fun q hq => Or.inl (show bz ≤ q by
    rcases hq with hq | hq
    · exact Ma.q.ge q hq
    · have := hEa.size; have hq : wS.heap.size ≤ q := hq; omega))
   have hbits : ∀ a q, qy W a q = true ↔ Liv f a q := fun a q => by
    rcases Nat.lt_or_ge q r with h | h
    · exact hbit a q h
    · rw [hzero a q h];exact ⟨fun h => (by cases h), fun hl => by have := (liv_in hs hl).2; omega⟩
   refine qi (zo (zo (yd (zg (srx (mvx rfl (anx rfl (zq (zp (rs := [.tmp 2]) (vs := [_]) rfl ⟨rfl, trivial⟩ ?_)))))))));exact ⟨some ⟨go, 0, none⟩, N, W, by rw [← hN]; rfl, by rw [← hN, ← hwn]; exact zev hRW hWl, hbits, hRW.rows (by omega), hfin.below (fun q h => by rw [hb0] at h; exact h)⟩
end
end Go.Proofs.YtppdgjlmeahimaaDoor
namespace Go.Proofs.YtppdgjlmeahimaaDoor
open Go.RowKit
set_option maxRecDepth 100000
def okP (f : LFn) (i : LIns) (k t w o : Nat) : Prop := Liv f t o ∧ o ≠ w ∧ ¬ (i.op = 4 ∧ k = 0 ∧ ((o : Nat) : Int) = i.a)
def IP (f : LFn) (a0 k0 n0 o0 : Nat) (L : List (List Nat)) : Prop := ∀ w o, o ∈ L.getD w [] ↔ ∃ (a : Nat) (i : LIns) (k t : Nat) (ws : List Int) (nn : Nat), f.ins[a]? = some i ∧ (qu f a i)[k]? = some (((t : Nat) : Int), ws) ∧ ws[nn]? = some ((w : Nat) : Int) ∧ okP f i k t w o ∧ (a < a0 ∨ (a = a0 ∧ (k < k0 ∨ (k = k0 ∧ (nn < n0 ∨ (nn = n0 ∧ o < o0))))))
section
variable {f : LFn} {a0 k0 n0 o0 : Nat} {L : List (List Nat)}
theorem IP.start (R : Nat) : IP f 0 0 0 0 (List.replicate R []) := fun w o => by
 constructor
 · intro h;rw [List.getD_eq_getElem?_getD, List.getElem?_replicate] at h;split at h <;> cases h
 · rintro ⟨a, i, k, t, ws, nn, _, _, _, _, h⟩;omega
theorem IP.yes {i : LIns} {t w : Nat} {ws : List Int} (h : IP f a0 k0 n0 o0 L) (hi : f.ins[a0]? = some i) (hk : (qu f a0 i)[k0]? = some (((t : Nat) : Int), ws)) (hn : ws[n0]? = some ((w : Nat) : Int)) (hw : w < L.length) (hok : okP f i k0 t w o0) : IP f a0 k0 n0 (o0 + 1) (L.set w (L.getD w [] ++ [o0])) := fun w' o => by
 have hg : (L.set w (L.getD w [] ++ [o0])).getD w' [] = if w' = w then L.getD w [] ++ [o0] else L.getD w' [] := by
  rw [List.getD_eq_getElem?_getD, List.getD_eq_getElem?_getD (i := w'), List.getElem?_set];by_cases e : w = w'
  · subst e; simp [hw]
  · have : ¬ w' = w := fun h => e h.symm;simp [e, this]
 rw [hg];constructor
 · intro hm;by_cases e : w' = w
   · subst e;rw [if_pos rfl] at hm;rcases List.mem_append.1 hm with hm | hm
     · obtain ⟨a, i', k, t', ws', nn, h1, h2, h3, h4, h5⟩ := (h w' o).1 hm;exact ⟨a, i', k, t', ws', nn, h1, h2, h3, h4, by omega⟩
     · rw [List.mem_singleton.1 hm];exact ⟨a0, i, k0, t, ws, n0, hi, hk, hn, hok, by omega⟩
   · rw [if_neg e] at hm;obtain ⟨a, i', k, t', ws', nn, h1, h2, h3, h4, h5⟩ := (h w' o).1 hm;exact ⟨a, i', k, t', ws', nn, h1, h2, h3, h4, by omega⟩
 · rintro ⟨a, i', k, t', ws', nn, h1, h2, h3, h4, h5⟩;by_cases e : a = a0 ∧ k = k0 ∧ nn = n0 ∧ o = o0
   · obtain ⟨rfl, rfl, rfl, rfl⟩ := e;rw [hi] at h1;obtain rfl := Option.some.inj h1;rw [hk] at h2;have h2 := Option.some.inj h2;have e2 : ws = ws' := congrArg Prod.snd h2;subst e2;rw [hn] at h3;have e3 : w' = w := by have := Option.some.inj h3; omega
     rw [if_pos e3];simp
   · have h6 := (h w' o).2 ⟨a, i', k, t', ws', nn, h1, h2, h3, h4, by omega⟩;split
     · rename_i e1
       subst e1;exact List.mem_append_left _ h6
     · exact h6
theorem IP.no {i : LIns} {t w : Nat} {ws : List Int} (h : IP f a0 k0 n0 o0 L) (hi : f.ins[a0]? = some i) (hk : (qu f a0 i)[k0]? = some (((t : Nat) : Int), ws)) (hn : ws[n0]? = some ((w : Nat) : Int)) (hok : ¬ okP f i k0 t w o0) : IP f a0 k0 n0 (o0 + 1) L := fun w' o => by
 rw [h w' o];constructor
 · rintro ⟨a, i', k, t', ws', nn, h1, h2, h3, h4, h5⟩;exact ⟨a, i', k, t', ws', nn, h1, h2, h3, h4, by omega⟩
 · rintro ⟨a, i', k, t', ws', nn, h1, h2, h3, h4, h5⟩;refine ⟨a, i', k, t', ws', nn, h1, h2, h3, h4, ?_⟩;by_cases e : a = a0 ∧ k = k0 ∧ nn = n0 ∧ o = o0
   · exfalso
     obtain ⟨rfl, rfl, rfl, rfl⟩ := e;rw [hi] at h1;obtain rfl := Option.some.inj h1;rw [hk] at h2;have h2 := Option.some.inj h2;have e1 : ((t : Nat) : Int) = ((t' : Nat) : Int) := congrArg Prod.fst h2;have e2 : ws = ws' := congrArg Prod.snd h2;subst e2;rw [hn] at h3;have e3 : w = w' := by have := Option.some.inj h3; omega
     have e4 : t = t' := by omega
     subst e3; subst e4;exact hok h4
   · omega
theorem IP.nextN (hs : qq f = true) {R : Nat} (hR : f.regs = ((R : Nat) : Int)) (h : IP f a0 k0 n0 o0 L) (ho : R ≤ o0) : IP f a0 k0 (n0 + 1) 0 L := fun w' o => by
 rw [h w' o];constructor
 · rintro ⟨a, i', k, t', ws', nn, h1, h2, h3, h4, h5⟩;exact ⟨a, i', k, t', ws', nn, h1, h2, h3, h4, by omega⟩
 · rintro ⟨a, i', k, t', ws', nn, h1, h2, h3, h4, h5⟩;have := (liv_in hs h4.1).2;exact ⟨a, i', k, t', ws', nn, h1, h2, h3, h4, by omega⟩
theorem IP.nextK {i : LIns} {t : Nat} {ws : List Int} (h : IP f a0 k0 n0 0 L) (hi : f.ins[a0]? = some i) (hk : (qu f a0 i)[k0]? = some (((t : Nat) : Int), ws)) (hn : ws.length ≤ n0) : IP f a0 (k0 + 1) 0 0 L := fun w' o => by
 rw [h w' o];constructor
 · rintro ⟨a, i', k, t', ws', nn, h1, h2, h3, h4, h5⟩;exact ⟨a, i', k, t', ws', nn, h1, h2, h3, h4, by omega⟩
 · rintro ⟨a, i', k, t', ws', nn, h1, h2, h3, h4, h5⟩;refine ⟨a, i', k, t', ws', nn, h1, h2, h3, h4, ?_⟩;by_cases e : a = a0 ∧ k = k0
   · obtain ⟨rfl, rfl⟩ := e;rw [hi] at h1;obtain rfl := Option.some.inj h1;rw [hk] at h2;have e2 : ws = ws' := congrArg Prod.snd (Option.some.inj h2);subst e2;have := (List.getElem?_eq_some_iff.1 h3).1;omega
   · omega
theorem IP.nextK' {i : LIns} {t : Nat} {ws : List Int} (h : IP f a0 k0 n0 0 L) (hi : f.ins[a0]? = some i) (hk : (qu f a0 i)[k0]? = some (((t : Nat) : Int), ws)) (hn : ws.length ≤ n0) : IP f a0 (k0 + 1) 0 0 L := IP.nextK h hi hk hn
theorem IP.nextA {i : LIns} (h : IP f a0 k0 0 0 L) (hi : f.ins[a0]? = some i) (hk : (qu f a0 i).length ≤ k0) : IP f (a0 + 1) 0 0 0 L := fun w' o => by
 rw [h w' o];constructor
 · rintro ⟨a, i', k, t', ws', nn, h1, h2, h3, h4, h5⟩;exact ⟨a, i', k, t', ws', nn, h1, h2, h3, h4, by omega⟩
 · rintro ⟨a, i', k, t', ws', nn, h1, h2, h3, h4, h5⟩;refine ⟨a, i', k, t', ws', nn, h1, h2, h3, h4, ?_⟩;by_cases e : a = a0
   · subst e;rw [hi] at h1;obtain rfl := Option.some.inj h1;have := (List.getElem?_eq_some_iff.1 h2).1;omega
   · omega
theorem IP.fin (h : IP f f.ins.length 0 0 0 L) (w o : Nat) : o ∈ L.getD w [] ↔ Met f w o := by
 rw [h w o];constructor
 · rintro ⟨a, i, k, t, ws, nn, h1, h2, h3, h4, _⟩;exact ⟨a, i, k, t, ws, h1, h2, List.mem_of_getElem? h3, h4.1, h4.2.1, h4.2.2⟩
 · rintro ⟨a, i, k, t, ws, h1, h2, h3, h4, h5, h6⟩;obtain ⟨nn, hn⟩ := List.mem_iff_getElem?.1 h3;exact ⟨a, i, k, t, ws, nn, h1, h2, hn, ⟨h4, h5, h6⟩, Or.inl (List.getElem?_eq_some_iff.1 h1).1⟩
end
/-! ### how many -/
def itW (f : LFn) (a : Nat) : List (Int × Unit) := match f.ins[a]? with
 | some i => (qu f a i).flatMap fun p => p.2.map fun q => (q, ())
 | none => []
theorem itW_some {f : LFn} {a : Nat} {i : LIns} (h : f.ins[a]? = some i) : itW f a = (qu f a i).flatMap fun p => p.2.map fun q => (q, ()) := by unfold itW; rw [h]
def preW (ws : List (Int × List Int)) (k : Nat) : Nat := ((ws.take k).flatMap fun p => p.2.map fun (q : Int) => (q, ())).length
theorem preW_succ {ws : List (Int × List Int)} {k : Nat} {y : Int × List Int} (h : ws[k]? = some y) : preW ws (k + 1) = preW ws k + y.2.length := by
 unfold preW;rw [List.take_add_one, h, Option.toList_some, List.flatMap_append, List.length_append];simp
theorem preW_all {ws : List (Int × List Int)} {k : Nat} (h : ws.length ≤ k) : preW ws k = (ws.flatMap fun p => p.2.map fun (q : Int) => (q, ())).length := by
 unfold preW; rw [List.take_of_length_le h]
theorem preW_le {ws : List (Int × List Int)} {k : Nat} : preW ws k ≤ (ws.flatMap fun p => p.2.map fun (q : Int) => (q, ())).length := by
 have e : ws = ws.take k ++ ws.drop k := (List.take_append_drop k ws).symm;have h : (ws.flatMap fun p => p.2.map fun (q : Int) => (q, ())) = ((ws.take k).flatMap fun p => p.2.map fun (q : Int) => (q, ())) ++ ((ws.drop k).flatMap fun p => p.2.map fun (q : Int) => (q, ())) := by
  rw [← List.flatMap_append, List.take_append_drop]
 unfold preW;rw [h, List.length_append];omega
theorem writes_len2 (i : LIns) : (yi i).length ≤ 1 + i.l.length := by
 unfold yi;split
 · omega
 · split <;> simp <;> omega
theorem waysW_len (f : LFn) (a : Nat) (i : LIns) : ((qu f a i).flatMap fun p => p.2.map fun (q : Int) => (q, ())).length ≤ 2 + i.l.length := by
 unfold qu;rw [List.flatMap_append, List.length_append];have h1 : ((vp i (yj i (a : Int))).flatMap fun p => p.2.map fun (q : Int) => (q, ())).length ≤ 1 + i.l.length := by
  have hw := writes_len2 i;cases yj i (a : Int) with
  | nil => simp [vp]
  | cons t l =>
   have hz : ((l.map fun t => ((t, []) : Int × List Int)).flatMap fun p => p.2.map fun (q : Int) => (q, ())).length = 0 := by
    induction l with
    | nil => rfl
    | cons x l ih => simpa using ih
   show ((((t, if i.op = 18 then [] else yi i) : Int × List Int) :: l.map fun t => (t, [])).flatMap fun p => p.2.map fun (q : Int) => (q, ())).length ≤ _
   rw [List.flatMap_cons, List.length_append, hz, List.length_map];show (if i.op = 18 then [] else yi i).length + 0 ≤ _
   split
   · simp
   · omega
 have h2 : ((zgk f a i).flatMap fun p => p.2.map fun (q : Int) => (q, ())).length ≤ 1 := by
  unfold zgk;split
  · simp
  · split <;> simp
 omega
theorem cnt_W (f : LFn) : ∀ a, cnt (itW f) a ≤ 2 * ((f.ins.take a).map fun x => x.l.length + 1).sum
 | 0 => Nat.le_refl _
 | a + 1 => by
  have := cnt_W f a;unfold cnt;cases hi : f.ins[a]? with
  | none =>
   have h : itW f a = [] := by unfold itW; rw [hi]
   have hl : f.ins.length ≤ a := by
    rcases Nat.lt_or_ge a f.ins.length with h1 | h1
    · rw [List.getElem?_eq_getElem h1] at hi; cases hi
    · exact h1
   rw [h, List.take_of_length_le (by omega)];rw [List.take_of_length_le hl] at this;simpa using this
  | some i =>
   have h1 := waysW_len f a i;rw [itW_some hi];have e : f.ins.take (a + 1) = f.ins.take a ++ [i] := by rw [List.take_add_one, hi]; rfl
   rw [e, List.map_append, List.sum_append, List.map_cons, List.map_nil, List.sum_cons, List.sum_nil];omega
theorem cnt_W_all (f : LFn) : cnt (itW f) f.ins.length ≤ 2 * (f.ins.map fun x => x.l.length + 1).sum := by
 have := cnt_W f f.ins.length;rwa [List.take_length] at this
end Go.Proofs.YtppdgjlmeahimaaDoor
namespace Go.Proofs.YtppdgjlmeahimaaDoor
open Go.RowKit
set_option maxRecDepth 100000
attribute [local irreducible] OW RS
structure IM (nL go g1 n0 : Nat) (fv : Array Value) (rows : List (GR Nat)) (AL : Option Addr) (W : List (List Nat)) (p : Pl) (f : LFn) (w : World) : Prop where
 g : GrowB enD 28 3 1 nL go rows w
 fb : Blk w g1 27 fv
 live : RowsW nL w AL W
 fn : FnA n0 w p f
 h1 : g1 < nL
 h0 : n0 ≤ nL
 hg : nL ≤ go
def Wi (go : Nat) (rows : List (GR Nat)) (k : Nat) : Prop := k = go ∨ ∃ r ∈ rows, (grV r).ownBlock = some k
section
variable {nL go g1 n0 : Nat} {fv : Array Value} {rows : List (GR Nat)} {AL : Option Addr} {W : List (List Nat)} {p : Pl} {f : LFn} {w w1 w2 : World}
theorem IM.no (h : IM nL go g1 n0 fv rows AL W p f w) (k : Ext No w w1) : IM nL go g1 n0 fv rows AL W p f w1 :=
 ⟨h.g.no k, h.fb.ext k (fun h => h.elim), h.live.low (X := No) ⟨k, fun _ h => h.elim⟩, h.fn.low (X := No) ⟨k, fun _ h => h.elim⟩, h.h1, h.h0, h.hg⟩
theorem IM.wge (h : IM nL go g1 n0 fv rows AL W p f w) {q : Nat} (hq : Wi go rows q) : nL ≤ q := by
 rcases hq with rfl | ⟨r, hr, hq⟩
 · exact h.hg
 · exact jy (h.g.own r hr) q hq
theorem IM.wlt (h : IM nL go g1 n0 fv rows AL W p f w) {q : Nat} (hq : Wi go rows q) : q < w.heap.size := by
 rcases hq with rfl | ⟨r, hr, hq⟩
 · exact h.g.out.lt
 · exact h.g.lt hr hq
theorem IM.put (h : IM nL go g1 n0 fv rows AL W p f w) {i : Nat} {r r' : GR Nat} (hi : rows[i]? = some r)
 (h1 : w1.ownsRow nL 3 1 (grV r') r'.2.2.length (r'.2.2.flatMap enD)) (k1 : Ext (Mut [(grV r).ownBlock]) w w1) (hnew : ∀ k, (grV r').ownBlock = some k → (grV r).ownBlock = some k ∨ w.heap.size ≤ k)
 (h2 : Blk w2 go 28 ((rows.set i r').map grV).toArray) (k2 : Ext (Mut [some go]) w1 w2) : IM nL go g1 n0 fv (rows.set i r') AL W p f w2 := by
 have hrm := List.mem_of_getElem? hi;have g1' : ∀ q, Mut [(grV r).ownBlock] q → nL ≤ q := fun q hq => h.wge (Or.inr ⟨r, hrm, jh hq⟩);have g2' : ∀ q, Mut [some go] q → nL ≤ q := fun q hq => h.wge (Or.inl (va hq));have := h.h1;have := h.h0;exact ⟨h.g.put hi (by decide) h1 k1 hnew h2 k2, (h.fb.ext k1 fun hq => by have := g1' _ hq; omega).ext k2 fun hq => by have := g2' _ hq; omega,
  (h.live.low ⟨k1, g1'⟩).low ⟨k2, g2'⟩, (h.fn.low ⟨k1, fun q hq => by have := g1' q hq; omega⟩).low ⟨k2, fun q hq => by have := g2' q hq; omega⟩, h.h1, h.h0, h.hg⟩
theorem Wi_set {i k : Nat} {r' : GR Nat} (h : Wi go (rows.set i r') k) : Wi go rows k ∨ (grV r').ownBlock = some k := by
 rcases h with h | ⟨r, hr, h⟩
 · exact Or.inl (Or.inl h)
 · rcases List.mem_or_eq_of_mem_set hr with hr | rfl
   · exact Or.inl (Or.inr ⟨r, hr, h⟩)
   · exact Or.inr h
end
section
variable (w : World) (p : Pl) (f : LFn) (n0 : Nat) (hF : FnA n0 w p f) (hs : qq f = true) (hbk : (f.ins.map fun x => x.l.length + 1).sum ≤ 1048576)
include hF hs hbk
theorem interfere_any (R : Nat) (hRr : f.regs = (R : Int)) : Calls Tryd.prog 24 #[fnV p f] w fun e w' => ∃ go rows, e = .returned (.slice (some ⟨go, 0, none⟩) R R) ∧ rows.length = R ∧ (∀ r o, o ∈ (LD rows).getD r [] ↔ Met f r o) ∧ (∃ nL, GrowB enD 28 3 1 nL go rows w') ∧ Below w.heap.size w w' := by
 obtain ⟨hr0, hr1, hp0, hp1, hne⟩ := jl hs;obtain ⟨N, hN⟩ : ∃ N, N = f.ins.length := ⟨_, rfl⟩;obtain ⟨bz, hb0⟩ : ∃ bz, bz = w.heap.size := ⟨_, rfl⟩;have hNb : N ≤ 1048576 := by rw [hN]; exact Nat.le_trans (ins_le f) hbk
 have hn0 := hF.size;have hR6 : R ≤ 65536 := by omega
 have hmul : ∀ c, c ≤ 2097152 → R * c ≤ 137438953472 := fun c hc => Nat.le_trans (Nat.mul_le_mul hR6 hc) (by decide);refine qo Tryd.func24 rfl Tryd.ntmps24 rfl (srx (za rfl (vn rfl ?_)));rintro g1 wA B1 E1 G1;have hFA : FnA n0 wA p f := hF.low (X := No) ⟨E1, fun _ h => h.elim⟩
 refine anx rfl (srx (za rfl (zn Tryd.underlying27 rfl xg rfl B1 rfl (za rfl (yc en22 rfl ((rlive_any _ p f n0 hFA hs hbk).mono ?_))))));rintro e w1 ⟨AL, cL, W, rfl, hW64, hbit, hA, hb⟩;refine ⟨_, rfl, ?_⟩;have E2 := Ext.of_below hb No;obtain ⟨nL, hnL⟩ : ∃ nL, nL = w1.heap.size := ⟨_, rfl⟩;rw [← hnL] at hA;have hFB := hFA.low (X := No) ⟨E2, fun _ h => h.elim⟩
 have B1b := B1.ext E2 (fun h => h.elim);have h1L : g1 < nL := by rw [hnL]; exact B1b.lt
 have h0L : n0 ≤ nL := by have := E1.size; have := E2.size; omega
 refine anx rfl (srx (za rfl (zb Tryd.underlying27 rfl sz3 (by decide) rfl (za rfl (zi Tryd.underlying3 rfl rfl B1b rfl (za rfl (xy (n := R) Tryd.underlying59 inf28 rfl rfl rfl hRr hRr (by omega) (by omega) ?_)))))));rintro go wC Bo E3 Go;have hs1 := E1.size;have hs2 := E2.size;have hs3 := E3.size
 obtain ⟨fv, hfv⟩ : ∃ fv : Array Value, fv = #[.string f.name, .int .i64 f.params, .int .i64 f.regs, .int .i64 f.frees, .bool f.gen, .int .i64 f.bound, .slice p.an f.names.length p.cn, .slice p.ac f.consts.length p.cc, .slice p.ai f.ins.length p.ci, .slice p.ar f.rgs.length p.cr] := ⟨_, rfl⟩;have M0 : IM nL go g1 n0 fv (List.replicate R (none, 0, [])) AL W p f wC :=
  ⟨GrowB.nil R Bo, by rw [hfv]; exact B1b.ext E3 (fun h => h.elim), hA.low (X := No) ⟨E3, fun _ h => h.elim⟩, hFB.low (X := No) ⟨E3, fun _ h => h.elim⟩, h1L, h0L, by omega⟩
 have hEC : Ext (fun q => bz ≤ q) w wC := ((E1.mono (Y := fun q => bz ≤ q) (fun _ h _ => h.elim)).step E2 (fun _ h => h.elim)).step E3 (fun _ h => h.elim)
 refine anx rfl (zv (srx (anx rfl (yf (qx (ι := Nat × List (GR Nat)) (fun (a, rows) => [(1, .pointer (some ⟨g1, 0, none⟩)), (3, .slice AL f.ins.length cL), (4, .slice (some ⟨go, 0, none⟩) R R), (5, .int .i64 ((a : Nat) : Int))]) (fun (a, rows) w' => a ≤ N ∧ Ext (fun q => bz ≤ q) w w' ∧ IM nL go g1 n0 fv rows AL W p f w' ∧ rows.length = R ∧ IP f a 0 0 0 (LD rows) ∧ gz ((LD rows).map List.length) ≤ R * cnt (itW f) a) (fun (a, _) => N - a) (0, List.replicate R (none, 0, [])) ⟨rfl, rfl, rfl, rfl, trivial⟩ (⟨Nat.zero_le _, hEC, M0, List.length_replicate, by rw [LD_nil]; exact IP.start R, by rw [LD_nil, sum_zero]; exact Nat.zero_le _⟩) ?_)))))
 rintro ⟨a, rows⟩ w3 ⟨haN, hEa, Ma, hla, hPa, hSa⟩;refine zv (srx (mvx rfl (za rfl (zb Tryd.underlying27 rfl ox (by decide) rfl (za rfl (zi Tryd.underlying24 rfl rfl Ma.fb (by rw [hfv]; rfl) (za rfl (qf Tryd.underlying24 rfl (za rfl (yy rfl rfl (rnx (zr rfl (fun hi => ?_) (fun hi => ?_)))))))))))))
 ·
  have hi := of_decide_eq_true hi;have hal : a < N := by omega
  have hal' : a < f.ins.length := by omega
  obtain ⟨x, hx⟩ : ∃ x, f.ins[a]? = some x := ⟨_, List.getElem?_eq_getElem hal'⟩;obtain ⟨gi, oi, hAi, hgi, hcx⟩ := Ma.fn.ins.row.at hx;obtain ⟨hI, B, cB, hcB, hl, hcells⟩ := hcx
  refine zt (zg (zv (yf (srx (za rfl (zb Tryd.underlying27 rfl ox (by decide) rfl (za rfl (zi Tryd.underlying24 rfl rfl Ma.fb (by rw [hfv]; rfl) (mvx rfl (za rfl (yo (j := a) Tryd.underlying24 jg (congrArg (fun z ↦ some (Value.slice z f.ins.length p.ci)) hAi) rfl rfl hal' (za rfl (ke (cs := (zeq x B cB).toArray) Tryd.underlying41 rfl jg rfl rfl (fun j v hj ↦ hcells j v (by simpa using hj)) (za rfl (qh zr41 ?_)))))))))))))))
  rintro g6 wE B60 E5 G6;refine zy (vw jg rfl rfl B60 rfl rfl rfl ?_);rintro wF B6 E6;have Me := Ma.no E5;have hg6 : nL ≤ g6 := by have := Ma.g.out.lt; have := Ma.hg; omega
  have M6 : IM nL go g1 n0 fv rows AL W p f wF := ⟨Me.g.blk B60 (by decide) (by decide) E6, zfq Me.fb B60 (by decide) E6, Me.live.low ⟨E6, fun q hq => by have := va hq; omega⟩, Me.fn.low ⟨E6, fun q hq => by have := va hq; have := Me.h0; omega⟩, Me.h1, Me.h0, Me.hg⟩;have hE6 := (hEa.step E5 (fun _ h => h.elim)).step E6 (fun q hq => Or.inl (show bz ≤ q by have := va hq; omega))
  refine rnx (srx (za rfl (zn Tryd.underlying27 rfl xg rfl M6.fb (by rw [hfv]; rfl) (qs 29 (.agg #[.string f.name, .int .i64 f.params, .int .i64 f.regs, .int .i64 f.frees, .bool f.gen, .int .i64 f.bound, .slice p.an f.names.length p.cn, .slice p.ac f.consts.length p.cc, .slice p.ai f.ins.length p.ci, .slice p.ar f.rgs.length p.cr]) rfl ((by rw [hfv] : (.agg fv : Value) = _)) (mvx rfl (za rfl (yc en42 rfl ((rways_any _ p f n0 M6.fn a x hx).mono ?_))))))))
  rintro e w4 ⟨A8, c8, rfl, hW8, hb⟩;refine ⟨_, rfl, ?_⟩;have E7 := Ext.of_below hb No;have M7 := M6.no E7;have hE7 := hE6.step E7 (fun _ h => h.elim);have B67 := B6.ext E7 (fun h => h.elim);obtain ⟨lo, hlo⟩ : ∃ lo, lo = wF.heap.size := ⟨_, rfl⟩;obtain ⟨n8, hn8⟩ : ∃ n8, n8 = w4.heap.size := ⟨_, rfl⟩;rw [← hlo, ← hn8] at hW8
  have hwr7 : ∀ q, Wi go rows q → q < lo ∨ n8 ≤ q := fun q hq => Or.inl (by rw [hlo]; exact M6.wlt hq);have hlen8 := zwq f a x;have hct1 : cnt (itW f) (a + 1) = cnt (itW f) a + (itW f a).length := rfl;have hct2 := cnt_le (itW f) (a := a + 1) (N := f.ins.length) (by omega);have hct3 := cnt_W_all f;obtain ⟨ws8, hws8⟩ : ∃ ws8, ws8 = qu f a x := ⟨_, rfl⟩;have hitw := itW_some hx
  rw [← hws8] at hW8 hlen8 hitw
  refine anx rfl (srx (anx rfl (yf (zx 7 (.slice A8 ws8.length c8) rfl ((by rw [hws8] : (.slice A8 (qu f a x).length c8 : Value) = _)) (qx (ι := Nat × List (GR Nat)) (fun (k, rows) => [(1, .pointer (some ⟨g1, 0, none⟩)), (3, .slice AL f.ins.length cL), (4, .slice (some ⟨go, 0, none⟩) R R), (5, .int .i64 ((a : Nat) : Int)), (6, .pointer (some ⟨g6, 0, none⟩)), (7, .slice A8 ws8.length c8), (8, .int .i64 ((k : Nat) : Int))]) (fun (k, rows) w' => k ≤ ws8.length ∧ Ext (fun q => bz ≤ q) w w' ∧ n8 ≤ w'.heap.size ∧ IM nL go g1 n0 fv rows AL W p f w' ∧ Blk w' g6 41 (zeq x B cB).toArray ∧ WaysA lo n8 w' A8 ws8 ∧ (∀ q, Wi go rows q → q < lo ∨ n8 ≤ q) ∧ rows.length = R ∧ IP f a k 0 0 (LD rows) ∧ gz ((LD rows).map List.length) ≤ R * (cnt (itW f) a + preW ws8 k)) (fun (k, _) => ws8.length - k) (0, rows) ⟨rfl, rfl, rfl, rfl, rfl, rfl, rfl, trivial⟩ (⟨Nat.zero_le _, hE7, by rw [hn8]; exact Nat.le_refl _, M7, B67, hW8, hwr7, hla, hPa, hSa⟩) ?_)))))
  rintro ⟨k, rows⟩ w6 ⟨hkl, hEk, hsk, Mk, B6k, hWk, hwrk, hlk, hPk, hSk⟩;refine zv (srx (mvx rfl (mvx rfl (za rfl (qf Tryd.underlying76 rfl (za rfl (yy rfl rfl (rnx (zr rfl (fun hk => ?_) (fun hk => ?_))))))))))
  ·
   have hk := of_decide_eq_true hk;have hkl2 : k < ws8.length := by omega
   obtain ⟨y, hy⟩ : ∃ y, ws8[k]? = some y := ⟨_, List.getElem?_eq_getElem hkl2⟩;have hyw : y ∈ qu f a x := by rw [← hws8]; exact List.mem_of_getElem? hy
   have hyin := ybk hs hx hyw;obtain ⟨t, ht⟩ : ∃ t : Nat, y.1 = (t : Int) := ⟨y.1.toNat, by omega⟩;have htN : t < f.ins.length := by omega
   have hyt : (qu f a x)[k]? = some (((t : Nat) : Int), y.2) := by rw [← hws8, hy, ← ht]
   have hpre := preW_succ hy;have hprel := preW_le (ws := ws8) (k := k + 1);have hcap : cnt (itW f) a + preW ws8 k + y.2.length ≤ 2097152 := by rw [hitw] at hct1; omega
   refine zt (zg (zv (yf (srx (anx rfl (yf (qx (ι := Nat × List (GR Nat)) (fun (nn, rows) => [(1, .pointer (some ⟨g1, 0, none⟩)), (3, .slice AL f.ins.length cL), (4, .slice (some ⟨go, 0, none⟩) R R), (5, .int .i64 ((a : Nat) : Int)), (6, .pointer (some ⟨g6, 0, none⟩)), (7, .slice A8 ws8.length c8), (8, .int .i64 ((k : Nat) : Int)), (9, .int .i64 ((nn : Nat) : Int))]) (fun (nn, rows) w' => nn ≤ y.2.length ∧ Ext (fun q => bz ≤ q) w w' ∧ n8 ≤ w'.heap.size ∧ IM nL go g1 n0 fv rows AL W p f w' ∧ Blk w' g6 41 (zeq x B cB).toArray ∧ WaysA lo n8 w' A8 ws8 ∧ (∀ q, Wi go rows q → q < lo ∨ n8 ≤ q) ∧ rows.length = R ∧ IP f a k nn 0 (LD rows) ∧ gz ((LD rows).map List.length) ≤ R * (cnt (itW f) a + preW ws8 k + nn)) (fun (nn, _) => y.2.length - nn) (0, rows) ⟨rfl, rfl, rfl, rfl, rfl, rfl, rfl, rfl, trivial⟩ (⟨Nat.zero_le _, hEk, hsk, Mk, B6k, hWk, hwrk, hlk, hPk, hSk⟩) ?_)))))))
   rintro ⟨nn, rows⟩ w8 ⟨hnl, hEn, hsn, Mn, B6n, hWn, hwrn, hln, hPn, hSn⟩;obtain ⟨g8, o8, hA8, hg8, C, cC, hI8, hq8, hc8⟩ := RowS.at hWn.row hy
   refine zv (srx (mvx rfl (mvx rfl (mvx rfl (za rfl (yo (j := k) Tryd.underlying76 xp (congrArg (fun z ↦ some (Value.slice z ws8.length c8)) hA8) rfl rfl hkl2 (za rfl (zb Tryd.underlying80 rfl km (by decide) rfl (za rfl (zw Tryd.underlying28 rfl rfl (hc8 1 _ rfl) (za rfl (qf Tryd.underlying28 rfl (za rfl (yy rfl rfl (rnx (zr rfl (fun hn => ?_) (fun hn => ?_)))))))))))))))))
   ·
    have hn := of_decide_eq_true hn;have hnl2 : nn < y.2.length := by omega
    obtain ⟨wz, hwz⟩ : ∃ wz, y.2[nn]? = some wz := ⟨_, List.getElem?_eq_getElem hnl2⟩;have hwin := hyin.2 wz (List.mem_of_getElem? hwz);obtain ⟨wn, hwn⟩ : ∃ wn : Nat, wz = (wn : Int) := ⟨wz.toNat, by omega⟩;have hwt : y.2[nn]? = some ((wn : Nat) : Int) := by rw [hwz, hwn]
    have hwR : wn < R := by omega
    obtain ⟨gC, oC, hAC, hgC, hcC⟩ := hI8.cell hwt
    refine zt (zg (zv (yf (srx (mvx rfl (mvx rfl (za rfl (yo (j := k) Tryd.underlying76 xp (congrArg (fun z ↦ some (Value.slice z ws8.length c8)) hA8) rfl rfl hkl2 (za rfl (zb Tryd.underlying80 rfl km (by decide) rfl (za rfl (zw Tryd.underlying28 rfl rfl (hc8 1 _ rfl) (mvx rfl (za rfl (zm (j := nn) Tryd.underlying28 sz3 (congrArg (fun z ↦ some (Value.slice z y.2.length cC)) hAC) rfl rfl hnl2 (za rfl (zw Tryd.underlying3 rfl rfl hcC (anx rfl (srx (anx rfl (yf (qx (ι := Nat × List (GR Nat)) (fun (o, rows) => [(1, .pointer (some ⟨g1, 0, none⟩)), (3, .slice AL f.ins.length cL), (4, .slice (some ⟨go, 0, none⟩) R R), (5, .int .i64 ((a : Nat) : Int)), (6, .pointer (some ⟨g6, 0, none⟩)), (7, .slice A8 ws8.length c8), (8, .int .i64 ((k : Nat) : Int)), (9, .int .i64 ((nn : Nat) : Int)), (10, .int .i64 ((wn : Nat) : Int)), (11, .int .i64 ((o : Nat) : Int))]) (fun (o, rows) w' => o ≤ R ∧ Ext (fun q => bz ≤ q) w w' ∧ n8 ≤ w'.heap.size ∧ IM nL go g1 n0 fv rows AL W p f w' ∧ Blk w' g6 41 (zeq x B cB).toArray ∧ WaysA lo n8 w' A8 ws8 ∧ (∀ q, Wi go rows q → q < lo ∨ n8 ≤ q) ∧ rows.length = R ∧ IP f a k nn o (LD rows) ∧ gz ((LD rows).map List.length) ≤ R * (cnt (itW f) a + preW ws8 k + nn) + o) (fun (o, _) => R - o) (0, rows) ⟨rfl, rfl, rfl, rfl, rfl, rfl, rfl, rfl, rfl, rfl, trivial⟩ (⟨Nat.zero_le _, hEn, hsn, Mn, B6n, hWn, hwrn, hln, hPn, hSn⟩) ?_))))))))))))))))))))))
    rintro ⟨o, rows⟩ w10 ⟨hoR, hEo, hso, Mo, B6o, hWo, hwro, hlo, hPo, hSo⟩;have hmulo := hmul (cnt (itW f) a + preW ws8 k + nn) (by omega)
    refine zv (srx (mvx rfl (za rfl (zb Tryd.underlying27 rfl sz3 (by decide) rfl (za rfl (zi Tryd.underlying3 rfl rfl Mo.fb (by rw [hfv]; rfl) (qs 58 (.int .i64 ((R : Nat) : Int)) rfl ((by rw [hRr] : (.int .i64 f.regs : Value) = _)) (za rfl (yy rfl rfl (rnx (zr rfl (fun ho => ?_) (fun ho => ?_))))))))))))
    ·
     have ho := of_decide_eq_true ho;have hoR : o < R := by omega
     have e0 : Ext No w10 w10 := Ext.refl _ _;refine zt (zg (zv (yf (zv (srx (mvx rfl (mvx rfl (za rfl (yl rfl rfl (mvx rfl (yv 65 rfl (fun h64 => ?_) (fun h64 => ?_))))))))))))
     ·
      have h64 : o = wn := by have := eq_of_beq h64; omega
      refine za rfl (zc rfl (za rfl (zc rfl (za rfl (zc rfl (za rfl (zc rfl (za rfl (zc rfl (za rfl (zc rfl (za rfl (zc rfl (za rfl (zc rfl (za rfl (zc rfl (za rfl (zc rfl (za rfl (zc rfl (za rfl (zu rfl rfl (mvx rfl (za rfl (zc rfl (za rfl (zc rfl (za rfl (zc rfl (za rfl (zc rfl (za rfl (yk rfl rfl (za rfl (yk rfl rfl (za rfl (zc rfl (za rfl (zc rfl (za rfl (yk rfl rfl (za rfl (yk rfl rfl (za rfl (yk rfl rfl (za rfl (yk rfl rfl (za rfl (zc rfl (za rfl (zu rfl rfl (rnx (yp rfl (qi (zo (yd (zg (zl (mvx rfl (za rfl (qd rfl rfl (yg (by omega)) (avx rfl (ye ?_))))))))))))))))))))))))))))))))))))))))))))))))))))))))))))))))
      exact yw (o + 1, rows) (by show R - (o + 1) < R - o; omega) ⟨rfl, rfl, rfl, rfl, rfl, rfl, rfl, rfl, rfl, rfl, trivial⟩ (⟨hoR, hEo.step e0 (fun _ h => h.elim), by have := e0.size; omega, Mo.no e0, B6o.ext e0 (fun h => h.elim), hWo.mid e0 (fun _ h => h.elim), hwro, hlo, IP.no hPo hx hyt hwt (fun h => h.2.1 h64), by omega⟩)
     ·
      have h64 : o ≠ wn := fun e => by subst e; simp at h64
      obtain ⟨g8, o8, hA8, hg8, C, cC, hI8, hq8, hc8⟩ := RowS.at hWo.row hy;rw [ht] at hc8;obtain ⟨row, hrow⟩ : ∃ row, W[t]? = some row := ⟨_, List.getElem?_eq_getElem (by rw [hW64.1]; exact htN)⟩;obtain ⟨gL, oL, hAL, hgL, BL, cBL, hU, hcL⟩ := RowS.at Mo.live hrow;rw [Nat.mul_one] at hcL;have hbw : jn row o = qy W t o := by unfold qy; rw [List.getD_eq_getElem?_getD, hrow]; rfl
      refine onx rfl (zk rfl (onx rfl (zk rfl (onx rfl (zk rfl (onx rfl (yo (j := k) Tryd.underlying76 xp (congrArg (fun z ↦ some (Value.slice z ws8.length c8)) hA8) rfl rfl hkl2 (onx rfl (zb Tryd.underlying80 rfl sz3 (by decide) rfl (onx rfl (zw Tryd.underlying3 rfl rfl (hc8 0 _ rfl) (onx rfl (zm (j := t) Tryd.underlying52 zex (congrArg (fun z ↦ some (Value.slice z f.ins.length cL)) hAL) rfl rfl htN (onx rfl (zw Tryd.underlying55 rfl rfl hcL (onx rfl (zk rfl (onx rfl (yc en23 rfl ((is_any _ BL cBL nL row hU o (by omega)).mono ?_))))))))))))))))))))
      rintro e w11 ⟨rfl, hb⟩;refine ⟨_, rfl, ?_⟩;have eI := Ext.of_below hb No;refine onx rfl (jc rfl (za rfl (ya rfl rfl (mvx rfl (yv 78 rfl (fun h75 => ?_) (fun h75 => ?_))))))
      ·
       have h75 : jn row o = false := by simpa using h75
       rw [hbw] at h75
       refine za rfl (zc rfl (za rfl (zc rfl (za rfl (zc rfl (za rfl (zc rfl (za rfl (yk rfl rfl (za rfl (yk rfl rfl (za rfl (zc rfl (za rfl (zc rfl (za rfl (yk rfl rfl (za rfl (yk rfl rfl (za rfl (yk rfl rfl (za rfl (yk rfl rfl (za rfl (zc rfl (za rfl (zu rfl rfl (rnx (yp rfl (qi (zo (yd (zg (zl (mvx rfl (za rfl (qd rfl rfl (yg (by omega)) (avx rfl (ye ?_)))))))))))))))))))))))))))))))))))))))
       exact yw (o + 1, rows) (by show R - (o + 1) < R - o; omega) ⟨rfl, rfl, rfl, rfl, rfl, rfl, rfl, rfl, rfl, rfl, trivial⟩ (⟨hoR, hEo.step eI (fun _ h => h.elim), by have := eI.size; omega, Mo.no eI, B6o.ext eI (fun h => h.elim), hWo.mid eI (fun _ h => h.elim), hwro, hlo, IP.no hPo hx hyt hwt (fun h => by have := (hbit t o).2 h.1; rw [this] at h75; cases h75), by omega⟩)
      ·
       have h75 : jn row o = true := by simpa using h75
       rw [hbw] at h75;refine onx rfl (zb Tryd.underlying41 rfl sz3 (by decide) rfl (onx rfl (zi Tryd.underlying3 rfl rfl (B6o.ext eI (fun h ↦ h.elim)) rfl (onx rfl (yl rfl rfl (onx rfl (zk rfl (yv 82 rfl (fun h81 => ?_) (fun h81 => ?_)))))))))
       ·
        have h81 : x.op = 4 := eq_of_beq h81;refine onx rfl (zk rfl (onx rfl (yl rfl rfl (onx rfl (zu rfl rfl (onx rfl (zk rfl (yv 86 rfl (fun h84 => ?_) (fun h84 => ?_)))))))))
        ·
         have h84 : k = 0 := by have := eq_of_beq h84; omega
         refine onx rfl (zk rfl (onx rfl (zb Tryd.underlying41 rfl sz3 (by decide) rfl (onx rfl (zi Tryd.underlying3 rfl rfl (B6o.ext eI (fun h ↦ h.elim)) rfl (onx rfl (yl rfl rfl (onx rfl (zu rfl rfl (za rfl (ya rfl rfl (rnx (zr rfl (fun h90 => ?_) (fun h90 => ?_))))))))))))))
         ·
          have h90 : ((o : Nat) : Int) = x.a := eq_of_beq h90;refine qi (zo (yd (zg (zl (mvx rfl (za rfl (qd rfl rfl (yg (by omega)) (avx rfl (ye ?_)))))))))
          exact yw (o + 1, rows) (by show R - (o + 1) < R - o; omega) ⟨rfl, rfl, rfl, rfl, rfl, rfl, rfl, rfl, rfl, rfl, trivial⟩ (⟨hoR, hEo.step eI (fun _ h => h.elim), by have := eI.size; omega, Mo.no eI, B6o.ext eI (fun h => h.elim), hWo.mid eI (fun _ h => h.elim), hwro, hlo, IP.no hPo hx hyt hwt (fun h => h.2.2 ⟨h81, h84, h90⟩), by omega⟩)
         ·
          have h90 : ((o : Nat) : Int) ≠ x.a := by simpa using h90
          have hok : okP f x k t wn o := ⟨(hbit t o).1 h75, h64, (fun h => h90 h.2.2)⟩;have Mz := Mo.no eI;obtain ⟨r, hr⟩ : ∃ r, rows[wn]? = some r := ⟨_, List.getElem?_eq_getElem (by omega)⟩;have hcr := Mz.g.cell hr;have hrm := List.mem_of_getElem? hr;have hro := Mz.g.own r hrm;have hrl : r.2.2.length ≤ 274877906944 := by
           have h1 := zav (L := LD rows) wn;rw [zmv hr] at h1;omega
          have hrl9 : (r.2.2 ++ [o]).length = r.2.2.length + 1 := by rw [List.length_append]; rfl
          refine zt (zg (zl (mvx rfl (mvx rfl (mvx rfl (mvx rfl (za rfl (zm (j := wn) Tryd.underlying59 km rfl rfl rfl hwR (za rfl (zw Tryd.underlying28 rfl rfl (by rw [Nat.zero_add]; exact hcr) (mvx rfl (za rfl (yq (cs := #[.int .i64 ((o : Nat) : Int)]) Tryd.underlying28 sz3 zr3 (by decide) rfl (by rw [ym]; rfl) ?_)))))))))))))
          rintro gy wY By E5 Gy;have My := Mz.no E5;have hroy := My.g.own r hrm;have hs5 := E5.size;have hs4 := eI.size;have hsz := hEo.size
          refine za rfl (xu (n' := (r.2.2 ++ [o]).length) (xs' := (r.2.2 ++ [o]).flatMap enD) Tryd.underlying28 oj rfl (by decide) rfl hroy rfl (vg By By.lt rfl) (by simp [Value.oneCell']) hrl9.symm (by rw [List.flatMap_append]; rfl) (by rw [hrl9]; unfold maxLen; omega) (by rw [hrl9]; omega) (by have := My.g.out.lt; have := My.hg; omega) ?_);rintro A9 c9 wZ O9 E6 N9
          obtain ⟨r', hr'⟩ : ∃ r' : GR Nat, r' = (A9, c9, r.2.2 ++ [o]) := ⟨_, rfl⟩;have hr'2 : r'.2.2 = r.2.2 ++ [o] := by rw [hr']
          have hro' : wZ.ownsRow nL 3 1 (grV r') r'.2.2.length (r'.2.2.flatMap enD) := by rw [hr']; exact O9
          have hNn : ∀ k, (grV r').ownBlock = some k → (grV r).ownBlock = some k ∨ wY.heap.size ≤ k := by rw [hr']; exact N9
          have Bg := vk My.g.out hroy (by decide) E6;have hs6 := E6.size;refine za rfl (zm (j := wn) Tryd.underlying59 km rfl rfl rfl hwR (zy (vq (cs' := ((rows.set wn r').map grV).toArray) km rfl rfl Bg rfl rfl (by rw [List.size_toArray, List.length_map]; omega) (by rw [Nat.zero_add, ← gr_set, hr']; rfl) ?_)));rintro wX Bs E7
          have M9 := My.put hr hro' E6 hNn Bs E7;have hZw : ∀ q, Mut [(grV r).ownBlock] q → Wi go rows q := fun q hq => Or.inr ⟨r, hrm, jh hq⟩
          have hE9 := (((hEo.step eI (fun _ h => h.elim)).step E5 (fun _ h => h.elim)).step E6 (fun q hq => Or.inl (show bz ≤ q by have := My.wge (hZw q hq); omega))).step E7 (fun q hq => Or.inl (show bz ≤ q by have := My.wge (Or.inl (va hq)); omega))
          have hW9 := (((hWo.mid eI (fun _ h => h.elim)).mid E5 (fun _ h => h.elim)).mid E6 (fun q hq => hwro q (hZw q hq))).mid E7 (fun q hq => hwro q (Or.inl (va hq)));have B69 := zfq (vk ((B6o.ext eI (fun h => h.elim)).ext E5 (fun h => h.elim)) hroy (by decide) E6) Bg (by decide) E7;have hwr9 : ∀ q, Wi go (rows.set wn r') q → q < lo ∨ n8 ≤ q := fun q hq => by
           rcases Wi_set hq with h | h
           · exact hwro q h
           · rcases hNn q h with h | h
             · exact hwro q (hZw q (Or.inl h.symm))
             · right; omega
          have hLl : wn < (LD rows).length := by unfold LD; rw [List.length_map]; omega
          refine ye (zf (zg (zl (mvx rfl (za rfl (qd rfl rfl (yg (by omega)) (avx rfl (ye ?_))))))))
          exact yw (o + 1, rows.set wn r') (by show R - (o + 1) < R - o; omega) ⟨rfl, rfl, rfl, rfl, rfl, rfl, rfl, rfl, rfl, rfl, trivial⟩ (⟨hoR, hE9, by have := E7.size; omega, M9, B69, hW9, hwr9, by rw [List.length_set]; exact hlo, by rw [zmk hr hr'2]; exact IP.yes hPo hx hyt hwt hLl hok, by rw [zmk hr hr'2, zrk hLl]; omega⟩)
        ·
         have h84 : k ≠ 0 := fun e => by subst e; simp at h84
         have hok : okP f x k t wn o := ⟨(hbit t o).1 h75, h64, (fun h => h84 h.2.1)⟩;have Mz := Mo.no eI;obtain ⟨r, hr⟩ : ∃ r, rows[wn]? = some r := ⟨_, List.getElem?_eq_getElem (by omega)⟩;have hcr := Mz.g.cell hr;have hrm := List.mem_of_getElem? hr;have hro := Mz.g.own r hrm;have hrl : r.2.2.length ≤ 274877906944 := by
          have h1 := zav (L := LD rows) wn;rw [zmv hr] at h1;omega
         have hrl9 : (r.2.2 ++ [o]).length = r.2.2.length + 1 := by rw [List.length_append]; rfl
         refine za rfl (zc rfl (za rfl (zc rfl (za rfl (zc rfl (za rfl (zc rfl (onx rfl (ya rfl rfl (za rfl (ya rfl rfl (rnx (qn rfl (zt (zg (zl (mvx rfl (mvx rfl (mvx rfl (mvx rfl (za rfl (zm (j := wn) Tryd.underlying59 km rfl rfl rfl hwR (za rfl (zw Tryd.underlying28 rfl rfl (by rw [Nat.zero_add]; exact hcr) (mvx rfl (za rfl (yq (cs := #[.int .i64 ((o : Nat) : Int)]) Tryd.underlying28 sz3 zr3 (by decide) rfl (by rw [ym]; rfl) ?_)))))))))))))))))))))))))))
         rintro gy wY By E5 Gy;have My := Mz.no E5;have hroy := My.g.own r hrm;have hs5 := E5.size;have hs4 := eI.size;have hsz := hEo.size
         refine za rfl (xu (n' := (r.2.2 ++ [o]).length) (xs' := (r.2.2 ++ [o]).flatMap enD) Tryd.underlying28 oj rfl (by decide) rfl hroy rfl (vg By By.lt rfl) (by simp [Value.oneCell']) hrl9.symm (by rw [List.flatMap_append]; rfl) (by rw [hrl9]; unfold maxLen; omega) (by rw [hrl9]; omega) (by have := My.g.out.lt; have := My.hg; omega) ?_);rintro A9 c9 wZ O9 E6 N9
         obtain ⟨r', hr'⟩ : ∃ r' : GR Nat, r' = (A9, c9, r.2.2 ++ [o]) := ⟨_, rfl⟩;have hr'2 : r'.2.2 = r.2.2 ++ [o] := by rw [hr']
         have hro' : wZ.ownsRow nL 3 1 (grV r') r'.2.2.length (r'.2.2.flatMap enD) := by rw [hr']; exact O9
         have hNn : ∀ k, (grV r').ownBlock = some k → (grV r).ownBlock = some k ∨ wY.heap.size ≤ k := by rw [hr']; exact N9
         have Bg := vk My.g.out hroy (by decide) E6;have hs6 := E6.size;refine za rfl (zm (j := wn) Tryd.underlying59 km rfl rfl rfl hwR (zy (vq (cs' := ((rows.set wn r').map grV).toArray) km rfl rfl Bg rfl rfl (by rw [List.size_toArray, List.length_map]; omega) (by rw [Nat.zero_add, ← gr_set, hr']; rfl) ?_)));rintro wX Bs E7
         have M9 := My.put hr hro' E6 hNn Bs E7;have hZw : ∀ q, Mut [(grV r).ownBlock] q → Wi go rows q := fun q hq => Or.inr ⟨r, hrm, jh hq⟩;have hE9 := (((hEo.step eI (fun _ h => h.elim)).step E5 (fun _ h => h.elim)).step E6 (fun q hq => Or.inl (show bz ≤ q by have := My.wge (hZw q hq); omega))).step E7 (fun q hq => Or.inl (show bz ≤ q by have := My.wge (Or.inl (va hq)); omega))
         have hW9 := (((hWo.mid eI (fun _ h => h.elim)).mid E5 (fun _ h => h.elim)).mid E6 (fun q hq => hwro q (hZw q hq))).mid E7 (fun q hq => hwro q (Or.inl (va hq)));have B69 := zfq (vk ((B6o.ext eI (fun h => h.elim)).ext E5 (fun h => h.elim)) hroy (by decide) E6) Bg (by decide) E7;have hwr9 : ∀ q, Wi go (rows.set wn r') q → q < lo ∨ n8 ≤ q := fun q hq => by
          rcases Wi_set hq with h | h
          · exact hwro q h
          · rcases hNn q h with h | h
            · exact hwro q (hZw q (Or.inl h.symm))
            · right; omega
         have hLl : wn < (LD rows).length := by unfold LD; rw [List.length_map]; omega
         refine ye (zf (zg (zl (mvx rfl (za rfl (qd rfl rfl (yg (by omega)) (avx rfl (ye ?_))))))))
         exact yw (o + 1, rows.set wn r') (by show R - (o + 1) < R - o; omega) ⟨rfl, rfl, rfl, rfl, rfl, rfl, rfl, rfl, rfl, rfl, trivial⟩ (⟨hoR, hE9, by have := E7.size; omega, M9, B69, hW9, hwr9, by rw [List.length_set]; exact hlo, by rw [zmk hr hr'2]; exact IP.yes hPo hx hyt hwt hLl hok, by rw [zmk hr hr'2, zrk hLl]; omega⟩)
       ·
        have h81 : x.op ≠ 4 := by simpa using h81
        have hok : okP f x k t wn o := ⟨(hbit t o).1 h75, h64, (fun h => h81 h.1)⟩;have Mz := Mo.no eI;obtain ⟨r, hr⟩ : ∃ r, rows[wn]? = some r := ⟨_, List.getElem?_eq_getElem (by omega)⟩;have hcr := Mz.g.cell hr;have hrm := List.mem_of_getElem? hr;have hro := Mz.g.own r hrm;have hrl : r.2.2.length ≤ 274877906944 := by
         have h1 := zav (L := LD rows) wn;rw [zmv hr] at h1;omega
        have hrl9 : (r.2.2 ++ [o]).length = r.2.2.length + 1 := by rw [List.length_append]; rfl
        refine za rfl (zc rfl (za rfl (zc rfl (onx rfl (ya rfl rfl (onx rfl (zk rfl (za rfl (zc rfl (za rfl (zc rfl (za rfl (zc rfl (za rfl (zc rfl (onx rfl (ya rfl rfl (za rfl (ya rfl rfl (rnx (qn rfl (zt (zg (zl (mvx rfl (mvx rfl (mvx rfl (mvx rfl (za rfl (zm (j := wn) Tryd.underlying59 km rfl rfl rfl hwR (za rfl (zw Tryd.underlying28 rfl rfl (by rw [Nat.zero_add]; exact hcr) (mvx rfl (za rfl (yq (cs := #[.int .i64 ((o : Nat) : Int)]) Tryd.underlying28 sz3 zr3 (by decide) rfl (by rw [ym]; rfl) ?_)))))))))))))))))))))))))))))))))))
        rintro gy wY By E5 Gy;have My := Mz.no E5;have hroy := My.g.own r hrm;have hs5 := E5.size;have hs4 := eI.size;have hsz := hEo.size
        refine za rfl (xu (n' := (r.2.2 ++ [o]).length) (xs' := (r.2.2 ++ [o]).flatMap enD) Tryd.underlying28 oj rfl (by decide) rfl hroy rfl (vg By By.lt rfl) (by simp [Value.oneCell']) hrl9.symm (by rw [List.flatMap_append]; rfl) (by rw [hrl9]; unfold maxLen; omega) (by rw [hrl9]; omega) (by have := My.g.out.lt; have := My.hg; omega) ?_);rintro A9 c9 wZ O9 E6 N9
        obtain ⟨r', hr'⟩ : ∃ r' : GR Nat, r' = (A9, c9, r.2.2 ++ [o]) := ⟨_, rfl⟩;have hr'2 : r'.2.2 = r.2.2 ++ [o] := by rw [hr']
        have hro' : wZ.ownsRow nL 3 1 (grV r') r'.2.2.length (r'.2.2.flatMap enD) := by rw [hr']; exact O9
        have hNn : ∀ k, (grV r').ownBlock = some k → (grV r).ownBlock = some k ∨ wY.heap.size ≤ k := by rw [hr']; exact N9
        have Bg := vk My.g.out hroy (by decide) E6;have hs6 := E6.size;refine za rfl (zm (j := wn) Tryd.underlying59 km rfl rfl rfl hwR (zy (vq (cs' := ((rows.set wn r').map grV).toArray) km rfl rfl Bg rfl rfl (by rw [List.size_toArray, List.length_map]; omega) (by rw [Nat.zero_add, ← gr_set, hr']; rfl) ?_)));rintro wX Bs E7
        have M9 := My.put hr hro' E6 hNn Bs E7;have hZw : ∀ q, Mut [(grV r).ownBlock] q → Wi go rows q := fun q hq => Or.inr ⟨r, hrm, jh hq⟩;have hE9 := (((hEo.step eI (fun _ h => h.elim)).step E5 (fun _ h => h.elim)).step E6 (fun q hq => Or.inl (show bz ≤ q by have := My.wge (hZw q hq); omega))).step E7 (fun q hq => Or.inl (show bz ≤ q by have := My.wge (Or.inl (va hq)); omega))
        have hW9 := (((hWo.mid eI (fun _ h => h.elim)).mid E5 (fun _ h => h.elim)).mid E6 (fun q hq => hwro q (hZw q hq))).mid E7 (fun q hq => hwro q (Or.inl (va hq)));have B69 := zfq (vk ((B6o.ext eI (fun h => h.elim)).ext E5 (fun h => h.elim)) hroy (by decide) E6) Bg (by decide) E7;have hwr9 : ∀ q, Wi go (rows.set wn r') q → q < lo ∨ n8 ≤ q := fun q hq => by
         rcases Wi_set hq with h | h
         · exact hwro q h
         · rcases hNn q h with h | h
           · exact hwro q (hZw q (Or.inl h.symm))
           · right; omega
        have hLl : wn < (LD rows).length := by unfold LD; rw [List.length_map]; omega
        refine ye (zf (zg (zl (mvx rfl (za rfl (qd rfl rfl (yg (by omega)) (avx rfl (ye ?_))))))))
        exact yw (o + 1, rows.set wn r') (by show R - (o + 1) < R - o; omega) ⟨rfl, rfl, rfl, rfl, rfl, rfl, rfl, rfl, rfl, rfl, trivial⟩ (⟨hoR, hE9, by have := E7.size; omega, M9, B69, hW9, hwr9, by rw [List.length_set]; exact hlo, by rw [zmk hr hr'2]; exact IP.yes hPo hx hyt hwt hLl hok, by rw [zmk hr hr'2, zrk hLl]; omega⟩)
    ·
     have ho := of_decide_eq_false ho;have hoe : o = R := by omega
     refine qi (zo (zo (yd (zf (zg (zl (mvx rfl (za rfl (qd rfl rfl (yg (by omega)) (avx rfl (ye ?_)))))))))))
     exact yw (nn + 1, rows) (by show y.2.length - (nn + 1) < y.2.length - nn; omega) ⟨rfl, rfl, rfl, rfl, rfl, rfl, rfl, rfl, trivial⟩ (⟨hnl2, hEo, hso, Mo, B6o, hWo, hwro, hlo, IP.nextN hs hRr hPo (by omega), by rw [← Nat.add_assoc, Nat.mul_succ]; omega⟩)
   ·
    have hn := of_decide_eq_false hn;have hne2 : nn = y.2.length := by omega
    refine qi (zo (zo (yd (zf (zg (zl (mvx rfl (za rfl (qd rfl rfl (yg (by omega)) (avx rfl (ye ?_)))))))))))
    exact yw (k + 1, rows) (by show ws8.length - (k + 1) < ws8.length - k; omega) ⟨rfl, rfl, rfl, rfl, rfl, rfl, rfl, trivial⟩ (⟨hkl2, hEn, hsn, Mn, B6n, hWn, hwrn, hln, hPn.nextK' hx hyt (Nat.le_of_eq hne2.symm), by rw [hpre, ← Nat.add_assoc, ← hne2]; exact hSn⟩)
  ·
   have hk := of_decide_eq_false hk;have hke : k = ws8.length := by omega
   have hall := preW_all (ws := ws8) (k := k) (by omega);refine qi (zo (zo (yd (zf (zg (zl (mvx rfl (za rfl (qd rfl rfl (yg (by omega)) (avx rfl (ye ?_)))))))))))
   exact yw (a + 1, rows) (by show N - (a + 1) < N - a; omega) ⟨rfl, rfl, rfl, rfl, trivial⟩ (⟨hal, hEk, Mk, hlk, IP.nextA hPk hx (by rw [← hws8]; omega), by rw [hct1, hitw, ← hall]; exact hSk⟩)
 ·
  have hi := of_decide_eq_false hi;have hae : a = f.ins.length := by omega
  rw [hae] at hPa;refine qi (zo (zo (yd (zg (srx (mvx rfl (anx rfl (zq (zp (rs := [.tmp 2]) (vs := [_]) rfl ⟨rfl, trivial⟩ ?_)))))))));exact ⟨go, rows, rfl, hla, fun r o => hPa.fin r o, ⟨nL, Ma.g⟩, hEa.below (fun q h => by rw [hb0] at h; exact h)⟩
end
end Go.Proofs.YtppdgjlmeahimaaDoor
namespace Go.Proofs.YtppdgjlmeahimaaDoor
open Go.RowKit
set_option maxRecDepth 100000
attribute [local irreducible] OW RS
theorem owns_max {w : World} {base s n c : Nat} {e : TypeId} {A : Option Addr} {xs : List Value} (h : w.ownsRow base e s (.slice A n c) n xs) : n ≤ 9223372036854775807 := by
 rcases h.2 with ⟨_, h0⟩ | ⟨g, cap, cur, hv, hb, hh, hn, hm, _⟩
 · rw [h0]; decide
 · unfold maxLen at hm; omega
section
variable (w : World) (p : Pl) (f : LFn) (n0 : Nat) (hF : FnA n0 w p f) (hbk : (f.ins.map fun x => x.l.length + 1).sum ≤ 1048576) (A : Option Addr) (c n1 : Nat) (m : List Int) (hm : IntsA n1 w A m) (n : Int) (hn1 : n1 ≤ w.heap.size)
include hF hbk hm hn1
theorem rright_any : Calls Tryd.prog 10 #[fnV p f, .slice A m.length c, .int .i64 n] w fun e w' => ∃ b, e = .returned (.bool b) ∧ (b = true ↔ xn f m n) ∧ Below w.heap.size w w' := by
 obtain ⟨bz, hb0⟩ : ∃ bz, bz = w.heap.size := ⟨_, rfl⟩;have hml := hm.len;have _ := hn1;have hn0 := hF.size;refine qo Tryd.func10 rfl Tryd.ntmps10 rfl (srx (za rfl (vn rfl ?_)));rintro g1 wA B1 E1 G1;have hFA : FnA n0 wA p f := hF.low (X := No) ⟨E1, fun _ h => h.elim⟩
 refine anx rfl (zv (srx (za rfl (zn Tryd.underlying27 rfl xg rfl B1 rfl (za rfl (yc en12 rfl ((zqx _ p f n0 hFA).mono ?_)))))));rintro e w1 ⟨rfl, hb⟩;refine ⟨_, rfl, ?_⟩;have E2 := Ext.of_below hb No;have B2 := B1.ext E2 (fun h => h.elim);have hF2 := hFA.low (X := No) ⟨E2, fun _ h => h.elim⟩;have hE2 : Ext No w w1 := E1.trans E2;by_cases hs : qq f = true
 ·
  obtain ⟨hr0, hr1, hp0, hp1, hne⟩ := jl hs;obtain ⟨R, hRr⟩ : ∃ R : Nat, f.regs = (R : Int) := ⟨f.regs.toNat, by omega⟩;have hN0 : 0 < f.ins.length := List.length_pos_iff.2 hne
  refine qs 13 (.bool true) rfl ((by rw [hs] : (.bool (qq f) : Value) = _)) (za rfl (jc rfl (mvx rfl (onx rfl (zk rfl (onx rfl (qf Tryd.underlying28 rfl (onx rfl (zb Tryd.underlying27 rfl sz3 (by decide) rfl (onx rfl (zi Tryd.underlying3 rfl rfl B2 rfl (onx rfl (vc rfl rfl (za rfl (ya rfl rfl (mvx rfl (yv 22 rfl (fun h1 => ?_) (fun h1 => ?_))))))))))))))))))
  ·
   have h1 : (m.length : Int) ≠ f.regs := by simpa using h1
   refine za rfl (zc rfl (za rfl (zc rfl (za rfl (zc rfl (za rfl (zc rfl (za rfl (zu rfl rfl (mvx rfl (za rfl (zc rfl (za rfl (zc rfl (za rfl (zc rfl (za rfl (zc rfl (za rfl (zu rfl rfl (rnx (yp rfl (srx (anx rfl (zq (ze (zp (rs := [.tmp 6]) (vs := [_]) rfl ⟨rfl, trivial⟩ ?_)))))))))))))))))))))))))))
   exact ⟨false, rfl, ⟨fun h => (by cases h), fun h => absurd h (fun h => h1 h.2.1)⟩, hE2.toBelow⟩
  ·
   have h1 : (m.length : Int) = f.regs := by simpa using h1
   have hmR : m.length = R := by omega
   refine onx rfl (zk rfl (onx rfl (zb Tryd.underlying27 rfl sz3 (by decide) rfl (onx rfl (zi Tryd.underlying3 rfl rfl B2 rfl (onx rfl (yy rfl rfl (za rfl (ya rfl rfl (mvx rfl (yv 28 rfl (fun h2 => ?_) (fun h2 => ?_))))))))))))
   ·
    have h2 := of_decide_eq_true h2;refine za rfl (zc rfl (za rfl (zc rfl (za rfl (zc rfl (za rfl (zc rfl (za rfl (zu rfl rfl (rnx (yp rfl (srx (anx rfl (zq (ze (zp (rs := [.tmp 6]) (vs := [_]) rfl ⟨rfl, trivial⟩ ?_))))))))))))))))
    exact ⟨false, rfl, ⟨fun h => (by cases h), fun h => absurd h (fun h => absurd h.2.2.1 (by omega))⟩, hE2.toBelow⟩
   ·
    have h2 := of_decide_eq_false h2;refine onx rfl (zk rfl (onx rfl (zb Tryd.underlying27 rfl sz3 (by decide) rfl (onx rfl (zi Tryd.underlying3 rfl rfl B2 rfl (onx rfl (xi rfl rfl (za rfl (ya rfl rfl (rnx (zr rfl (fun h3 => ?_) (fun h3 => ?_))))))))))))
    ·
     have h3 := of_decide_eq_true h3;refine srx (anx rfl (zq (ze (zp (rs := [.tmp 6]) (vs := [_]) rfl ⟨rfl, trivial⟩ ?_))));exact ⟨false, rfl, ⟨fun h => (by cases h), fun h => absurd h (fun h => absurd h.2.2.2.1 (by omega))⟩, hE2.toBelow⟩
    ·
     have h3 := of_decide_eq_false h3;refine zt (zg (srx (za rfl (zn Tryd.underlying27 rfl xg rfl B2 rfl (za rfl (yc en22 rfl ((rlive_any _ p f n0 hF2 hs hbk).mono ?_)))))));rintro e w2 ⟨AL, cL, W, rfl, hW64, hbit, hA, hb⟩;refine ⟨_, rfl, ?_⟩;have E3 := Ext.of_below hb No;have B3 := B2.ext E3 (fun h => h.elim);have hF3 := hF2.low (X := No) ⟨E3, fun _ h => h.elim⟩
     have hE3 := hE2.trans E3;obtain ⟨wS, hwS⟩ : ∃ wS, wS = w2 := ⟨_, rfl⟩;rw [← hwS] at B3 hF3 hE3 hA;have hmS : IntsA n1 wS A m := hm.low (X := No) ⟨hE3, fun _ h => h.elim⟩
     refine anx rfl (zv (srx (anx rfl (yf (qx (ι := Nat) (fun r => [(1, .slice A m.length c), (2, .int .i64 n), (3, .pointer (some ⟨g1, 0, none⟩)), (7, .slice AL f.ins.length cL), (8, .int .i64 ((r : Nat) : Int))]) (fun r w' => r ≤ R ∧ Ext No wS w' ∧ ∀ (r' : Nat) (x : Int), r' < r → m[r']? = some x → xz f n r' x) (fun r => R - r) 0 ⟨rfl, rfl, rfl, rfl, rfl, trivial⟩ (⟨Nat.zero_le _, by rw [hwS]; exact Ext.refl _ _, fun r' x h => absurd h (Nat.not_lt_zero _)⟩) ?_)))))
     rintro r w4 ⟨hrR, hEr, hok⟩;have B4 := B3.ext hEr (fun h => h.elim)
     refine zv (srx (mvx rfl (za rfl (zb Tryd.underlying27 rfl sz3 (by decide) rfl (za rfl (zi Tryd.underlying3 rfl rfl B4 rfl (qs 38 (.int .i64 ((R : Nat) : Int)) rfl ((by rw [hRr] : (.int .i64 f.regs : Value) = _)) (za rfl (yy rfl rfl (rnx (zr rfl (fun hi => ?_) (fun hi => ?_))))))))))))
     ·
      have hi := of_decide_eq_true hi;have hrl : r < R := by omega
      have hrm : r < m.length := by omega
      obtain ⟨y, hy⟩ : ∃ y, m[r]? = some y := ⟨_, List.getElem?_eq_getElem hrm⟩;have hm4 : IntsA n1 w4 A m := hmS.low (X := No) ⟨hEr, fun _ h => h.elim⟩;have hA4 : RowsW wS.heap.size w4 AL W := hA.low (X := No) ⟨hEr, fun _ h => h.elim⟩;obtain ⟨gm, om, hAm, hgm, hcm⟩ := hm4.cell hy;have hbel : Below w.heap.size w w4 := (hE3.trans hEr).toBelow
      have hno : ¬ xz f n r y → ¬ xn f m n := fun h h2 => h (h2.2.2.2.2.1 r y hy)
      refine zt (zg (zv (yf (zv (srx (mvx rfl (mvx rfl (za rfl (zm (j := r) Tryd.underlying28 sz3 (congrArg (fun z ↦ some (Value.slice z m.length c)) hAm) rfl rfl hrm (za rfl (zw Tryd.underlying3 rfl rfl hcm (za rfl (yy rfl rfl (mvx rfl (yv 47 rfl (fun q1 => ?_) (fun q1 => ?_))))))))))))))))
      ·
       have q1 := of_decide_eq_true q1
       refine za rfl (zc rfl (za rfl (zc rfl (za rfl (zc rfl (za rfl (zc rfl (za rfl (zc rfl (za rfl (zc rfl (za rfl (zu rfl rfl (mvx rfl (za rfl (zc rfl (za rfl (zc rfl (za rfl (zc rfl (za rfl (zc rfl (za rfl (zc rfl (za rfl (yk rfl rfl (za rfl (yk rfl rfl (za rfl (yk rfl rfl (za rfl (yk rfl rfl (za rfl (yk rfl rfl (za rfl (yk rfl rfl (za rfl (zc rfl (za rfl (zu rfl rfl (rnx (yp rfl (srx (anx rfl (zq (ze (zh (ze (ze (zh (ze (zp (rs := [.tmp 6]) (vs := [_]) rfl ⟨rfl, trivial⟩ ?_))))))))))))))))))))))))))))))))))))))))))))))))))))
       exact ⟨false, rfl, ⟨fun h => (by cases h), fun h => absurd h (fun h => hno (fun h => absurd h.1 (by omega)) h)⟩, hbel⟩
      ·
       have hy0 : 0 ≤ y := by have := of_decide_eq_false q1; omega
       refine onx rfl (zk rfl (onx rfl (zk rfl (onx rfl (zm (j := r) Tryd.underlying28 sz3 (congrArg (fun z ↦ some (Value.slice z m.length c)) hAm) rfl rfl hrm (onx rfl (zw Tryd.underlying3 rfl rfl hcm (onx rfl (zk rfl (onx rfl (vu rfl rfl (za rfl (ya rfl rfl (mvx rfl (yv 55 rfl (fun q2 => ?_) (fun q2 => ?_))))))))))))))))
       ·
        have q2 := of_decide_eq_true q2
        refine za rfl (zc rfl (za rfl (zc rfl (za rfl (zc rfl (za rfl (zc rfl (za rfl (zc rfl (za rfl (yk rfl rfl (za rfl (yk rfl rfl (za rfl (yk rfl rfl (za rfl (yk rfl rfl (za rfl (yk rfl rfl (za rfl (yk rfl rfl (za rfl (zc rfl (za rfl (zu rfl rfl (rnx (yp rfl (srx (anx rfl (zq (ze (zh (ze (ze (zh (ze (zp (rs := [.tmp 6]) (vs := [_]) rfl ⟨rfl, trivial⟩ ?_)))))))))))))))))))))))))))))))))))))
        exact ⟨false, rfl, ⟨fun h => (by cases h), fun h => absurd h (fun h => hno (fun h => absurd h.2.1 (by omega)) h)⟩, hbel⟩
       ·
        have hyn : y < n := by have := of_decide_eq_false q2; omega
        refine onx rfl (zk rfl (onx rfl (zb Tryd.underlying27 rfl sz3 (by decide) rfl (onx rfl (zi Tryd.underlying3 rfl rfl B4 rfl (onx rfl (yy rfl rfl (onx rfl (zk rfl (yv 60 rfl (fun q3 => ?_) (fun q3 => ?_)))))))))))
        ·
         have q3 := of_decide_eq_true q3
         refine onx rfl (zk rfl (onx rfl (zk rfl (onx rfl (zm (j := r) Tryd.underlying28 sz3 (congrArg (fun z ↦ some (Value.slice z m.length c)) hAm) rfl rfl hrm (onx rfl (zw Tryd.underlying3 rfl rfl hcm (onx rfl (zk rfl (onx rfl (vc rfl rfl (onx rfl (zu rfl rfl (za rfl (ya rfl rfl (rnx (zr rfl (fun q4 => ?_) (fun q4 => ?_))))))))))))))))))
         ·
          have q4 : y ≠ (r : Int) := by simpa using q4
          refine srx (anx rfl (zq (ze (zh (ze (ze (zh (ze (zp (rs := [.tmp 6]) (vs := [_]) rfl ⟨rfl, trivial⟩ ?_)))))))));exact ⟨false, rfl, ⟨fun h => (by cases h), fun h => absurd h (fun h => hno (fun h => q4 (h.2.2.1 q3)) h)⟩, hbel⟩
         ·
          have q4 : y = (r : Int) := by simpa using q4
          have hyp : (r : Int) < f.params → y = (r : Int) := fun _ => q4;refine zt (zg (zv ?_));refine kz (No) Mut.none_ [] [] (kv [Fx.of (.int .i64 ((r : Nat) : Int)),
           Fx.of (.pointer (some ⟨g1, 1, none⟩)),
           Fx.of (.int .i64 f.params),
           Fx.of (.bool false),
           Fx.of (.bool false),
           Fx.of undef,
           Fx.of undef,
           Fx.of undef,
           Fx.of undef,
           Fx.of undef,
           Fx.of undef,
           Fx.of undef,
           Fx.of (.bool false),
           Fx.of (.bool false),
           Fx.of undef,
           Fx.of undef,
           Fx.of undef,
           Fx.of undef,
           Fx.of undef,
           Fx.of (.bool false)]) jj rfl trivial (fun _ h => by cases h) ?_ ?_
          · refine ⟨?_, ?_, ?_, ?_, ?_, ?_, ?_, ?_, ?_, ?_, ?_, ?_, ?_, ?_, ?_, ?_, ?_, ?_, ?_, ?_, trivial⟩
            · intro vs X wq K;exact zk rfl ⟨Below.refl _ _, Left.of rfl⟩
            · intro vs X wq K;exact zb Tryd.underlying27 rfl sz3 (by decide) rfl ⟨Below.refl _ _, Left.of rfl⟩
            · intro vs X wq K;have LE := K.1;obtain ⟨_, e1, k1⟩ := K.dep 1 rfl rfl rfl;refine zd 70 (.pointer (some ⟨g1, 1, none⟩)) rfl e1 ?_;exact zi Tryd.underlying3 rfl rfl (ja LE B4) rfl ⟨Below.refl _ _, Left.of rfl⟩
            · intro vs X wq K;obtain ⟨_, e0, k0⟩ := K.dep 0 rfl rfl rfl;refine zd 69 (.int .i64 ((r : Nat) : Int)) rfl e0 ?_;obtain ⟨_, e2, k2⟩ := K.dep 2 rfl rfl rfl;refine zd 71 (.int .i64 f.params) rfl e2 ?_;exact vu rfl rfl ⟨Below.refl _ _, Left.of ((by rw [decide_eq_false]; omega : (.bool (decide (f.params ≤ ((r : Nat) : Int))) : Value) = _))⟩
            · intro vs X wq K;obtain ⟨_, e3, k3⟩ := K.dep 3 rfl rfl rfl;refine zd 72 (.bool false) rfl e3 ?_;exact zk rfl ⟨Below.refl _ _, Left.of rfl⟩
            · intro vs X wq K;obtain ⟨_, e4, k4⟩ := K.dep 4 rfl rfl rfl;refine zd 73 (.bool false) rfl e4 ?_;exact zc rfl ⟨Below.refl _ _, Left.of rfl⟩
            · intro vs X wq K;obtain ⟨_, e4, k4⟩ := K.dep 4 rfl rfl rfl;refine zd 73 (.bool false) rfl e4 ?_;exact zc rfl ⟨Below.refl _ _, Left.of rfl⟩
            · intro vs X wq K;obtain ⟨_, e5, k5⟩ := K.dep 5 rfl rfl rfl;refine zd 74 (undef) rfl e5 ?_;obtain ⟨_, e6, k6⟩ := K.dep 6 rfl rfl rfl;refine zd 75 (undef) rfl e6 ?_;obtain ⟨_, e4, k4⟩ := K.dep 4 rfl rfl rfl;refine zd 73 (.bool false) rfl e4 ?_;exact zc rfl ⟨Below.refl _ _, Left.of rfl⟩
            · intro vs X wq K;obtain ⟨_, e7, k7⟩ := K.dep 7 rfl rfl rfl;refine zd 76 (undef) rfl e7 ?_;obtain ⟨_, e4, k4⟩ := K.dep 4 rfl rfl rfl;refine zd 73 (.bool false) rfl e4 ?_;exact zc rfl ⟨Below.refl _ _, Left.of rfl⟩
            · intro vs X wq K;obtain ⟨_, e4, k4⟩ := K.dep 4 rfl rfl rfl;refine zd 73 (.bool false) rfl e4 ?_;exact zc rfl ⟨Below.refl _ _, Left.of rfl⟩
            · intro vs X wq K;obtain ⟨_, e9, k9⟩ := K.dep 9 rfl rfl rfl;refine zd 78 (undef) rfl e9 ?_;obtain ⟨_, e4, k4⟩ := K.dep 4 rfl rfl rfl;refine zd 73 (.bool false) rfl e4 ?_;exact zc rfl ⟨Below.refl _ _, Left.of rfl⟩
            · intro vs X wq K;obtain ⟨_, e8, k8⟩ := K.dep 8 rfl rfl rfl;refine zd 77 (undef) rfl e8 ?_;obtain ⟨_, e10, k10⟩ := K.dep 10 rfl rfl rfl;refine zd 79 (undef) rfl e10 ?_;obtain ⟨_, e4, k4⟩ := K.dep 4 rfl rfl rfl;refine zd 73 (.bool false) rfl e4 ?_;exact zc rfl ⟨Below.refl _ _, Left.of rfl⟩
            · intro vs X wq K;obtain ⟨_, e4, k4⟩ := K.dep 4 rfl rfl rfl;refine zd 73 (.bool false) rfl e4 ?_;obtain ⟨_, e11, k11⟩ := K.dep 11 rfl rfl rfl;refine zd 80 (undef) rfl e11 ?_;exact ya rfl rfl ⟨Below.refl _ _, Left.of rfl⟩
            · intro vs X wq K;obtain ⟨_, e12, k12⟩ := K.dep 12 rfl rfl rfl;refine zd 81 (.bool false) rfl e12 ?_;exact zk rfl ⟨Below.refl _ _, Left.of rfl⟩
            · intro vs X wq K;obtain ⟨_, e13, k13⟩ := K.dep 13 rfl rfl rfl;refine zd 82 (.bool false) rfl e13 ?_;exact zc rfl ⟨Below.refl _ _, Left.of rfl⟩
            · intro vs X wq K;obtain ⟨_, e14, k14⟩ := K.dep 14 rfl rfl rfl;refine zd 83 (undef) rfl e14 ?_;obtain ⟨_, e13, k13⟩ := K.dep 13 rfl rfl rfl;refine zd 82 (.bool false) rfl e13 ?_;exact zc rfl ⟨Below.refl _ _, Left.of rfl⟩
            · intro vs X wq K;obtain ⟨_, e15, k15⟩ := K.dep 15 rfl rfl rfl;refine zd 84 (undef) rfl e15 ?_;obtain ⟨_, e13, k13⟩ := K.dep 13 rfl rfl rfl;refine zd 82 (.bool false) rfl e13 ?_;exact zc rfl ⟨Below.refl _ _, Left.of rfl⟩
            · intro vs X wq K;obtain ⟨_, e13, k13⟩ := K.dep 13 rfl rfl rfl;refine zd 82 (.bool false) rfl e13 ?_;exact zc rfl ⟨Below.refl _ _, Left.of rfl⟩
            · intro vs X wq K;obtain ⟨_, e16, k16⟩ := K.dep 16 rfl rfl rfl;refine zd 85 (undef) rfl e16 ?_;obtain ⟨_, e17, k17⟩ := K.dep 17 rfl rfl rfl;refine zd 86 (undef) rfl e17 ?_;obtain ⟨_, e13, k13⟩ := K.dep 13 rfl rfl rfl;refine zd 82 (.bool false) rfl e13 ?_;exact zc rfl ⟨Below.refl _ _, Left.of rfl⟩
            · intro vs X wq K;obtain ⟨_, e13, k13⟩ := K.dep 13 rfl rfl rfl;refine zd 82 (.bool false) rfl e13 ?_;obtain ⟨_, e18, k18⟩ := K.dep 18 rfl rfl rfl;refine zd 87 (undef) rfl e18 ?_;exact ya rfl rfl ⟨Below.refl _ _, Left.of rfl⟩
          intro vs w5 LE AO AL AF AA;have hbd : Below (w4).heap.size (w4) w5 := (((Ext.refl No (w4)).drew).trans LE).toBelow;obtain ⟨_, e19, k19⟩ := AL.2.2.2.2.2.2.2.2.2.2.2.2.2.2.2.2.2.2.2.1;refine vm (τ := [(1, _), (2, _), (3, _), (7, _), (8, _), (88, .bool false)]) ⟨rfl, rfl, rfl, rfl, rfl, congrArg some e19, trivial⟩ ?_;clear AL AF AA AO;have hb2 := hbd
          refine zg (qn rfl (zt (zf (zg (zl (mvx rfl (za rfl (qd rfl rfl (yg (by omega)) (avx rfl (ye ?_))))))))));exact yw (r + 1) (by show R - (r + 1) < R - r; omega) ⟨rfl, rfl, rfl, rfl, rfl, trivial⟩ (⟨hrl, hEr.trans (Ext.of_below hbd No), ko hy hok ⟨hy0, hyn, hyp, fun h => absurd h (by omega)⟩⟩)
        ·
         have q3 := of_decide_eq_false q3;have hyp : (r : Int) < f.params → y = (r : Int) := fun h => absurd h q3;by_cases q5 : y < f.params
         ·
          obtain ⟨row, hrow⟩ : ∃ row, W[0]? = some row := ⟨_, List.getElem?_eq_getElem (by rw [hW64.1]; exact hN0)⟩;obtain ⟨gL, oL, hAL, hgL, BL, cBL, hU, hcL⟩ := RowS.at hA4 hrow;rw [Nat.zero_mul, Nat.add_zero] at hcL;have hbw : jn row r = qy W 0 r := by unfold qy; rw [List.getD_eq_getElem?_getD, hrow]; rfl
          refine za rfl (zc rfl (za rfl (zc rfl (za rfl (zc rfl (za rfl (zc rfl (za rfl (zc rfl (za rfl (zc rfl (onx rfl (ya rfl rfl (za rfl (ya rfl rfl (rnx (qn rfl (zt (zg (zv ?_))))))))))))))))))));refine kz (No) Mut.none_ [] [] (kv [Fx.of (.int .i64 ((r : Nat) : Int)),
           Fx.of (.pointer (some ⟨g1, 1, none⟩)),
           Fx.of (.int .i64 f.params),
           Fx.of (.bool true),
           Fx.of (.bool true),
           Fx.of (.slice A m.length c),
           Fx.of (.int .i64 ((r : Nat) : Int)),
           Fx.of (.pointer (some ⟨gm, om + r, none⟩)),
           Fx.of (.int .i64 y),
           Fx.of (.pointer (some ⟨g1, 1, none⟩)),
           Fx.of (.int .i64 f.params),
           Fx.of (.bool true),
           Fx.of (.bool true),
           Fx.of (.bool true),
           Fx.of (.slice AL f.ins.length cL),
           Fx.of (.pointer (some ⟨gL, oL + 0, none⟩)),
           Fx.of (.slice BL row.length cBL),
           Fx.of (.int .i64 ((r : Nat) : Int)),
           Fx.of (.bool (jn row r)),
           Fx.of (.bool (jn row r))]) jj rfl trivial (fun _ h => by cases h) ?_ ?_
          · refine ⟨?_, ?_, ?_, ?_, ?_, ?_, ?_, ?_, ?_, ?_, ?_, ?_, ?_, ?_, ?_, ?_, ?_, ?_, ?_, ?_, trivial⟩
            · intro vs X wq K;exact zk rfl ⟨Below.refl _ _, Left.of rfl⟩
            · intro vs X wq K;exact zb Tryd.underlying27 rfl sz3 (by decide) rfl ⟨Below.refl _ _, Left.of rfl⟩
            · intro vs X wq K;have LE := K.1;obtain ⟨_, e1, k1⟩ := K.dep 1 rfl rfl rfl;refine zd 70 (.pointer (some ⟨g1, 1, none⟩)) rfl e1 ?_;exact zi Tryd.underlying3 rfl rfl (ja LE B4) rfl ⟨Below.refl _ _, Left.of rfl⟩
            · intro vs X wq K;obtain ⟨_, e0, k0⟩ := K.dep 0 rfl rfl rfl;refine zd 69 (.int .i64 ((r : Nat) : Int)) rfl e0 ?_;obtain ⟨_, e2, k2⟩ := K.dep 2 rfl rfl rfl;refine zd 71 (.int .i64 f.params) rfl e2 ?_;exact vu rfl rfl ⟨Below.refl _ _, Left.of ((by rw [decide_eq_true]; omega : (.bool (decide (f.params ≤ ((r : Nat) : Int))) : Value) = _))⟩
            · intro vs X wq K;obtain ⟨_, e3, k3⟩ := K.dep 3 rfl rfl rfl;refine zd 72 (.bool true) rfl e3 ?_;exact zk rfl ⟨Below.refl _ _, Left.of rfl⟩
            · intro vs X wq K;obtain ⟨_, e4, k4⟩ := K.dep 4 rfl rfl rfl;refine zd 73 (.bool true) rfl e4 ?_;exact qj rfl (zk rfl ⟨Below.refl _ _, Left.of rfl⟩)
            · intro vs X wq K;obtain ⟨_, e4, k4⟩ := K.dep 4 rfl rfl rfl;refine zd 73 (.bool true) rfl e4 ?_;exact qj rfl (zk rfl ⟨Below.refl _ _, Left.of rfl⟩)
            · intro vs X wq K;obtain ⟨_, e5, k5⟩ := K.dep 5 rfl rfl rfl;refine zd 74 (.slice A m.length c) rfl e5 ?_;obtain ⟨_, e6, k6⟩ := K.dep 6 rfl rfl rfl;refine zd 75 (.int .i64 ((r : Nat) : Int)) rfl e6 ?_;obtain ⟨_, e4, k4⟩ := K.dep 4 rfl rfl rfl;refine zd 73 (.bool true) rfl e4 ?_
              exact qj rfl (zm (j := r) Tryd.underlying28 sz3 (congrArg (fun z ↦ some (Value.slice z m.length c)) hAm) rfl rfl hrm ⟨Below.refl _ _, Left.of rfl⟩)
            · intro vs X wq K;have LE := K.1;obtain ⟨_, e7, k7⟩ := K.dep 7 rfl rfl rfl;refine zd 76 (.pointer (some ⟨gm, om + r, none⟩)) rfl e7 ?_;obtain ⟨_, e4, k4⟩ := K.dep 4 rfl rfl rfl;refine zd 73 (.bool true) rfl e4 ?_;exact qj rfl (zw Tryd.underlying3 rfl rfl (kc LE hcm) ⟨Below.refl _ _, Left.of rfl⟩)
            · intro vs X wq K;obtain ⟨_, e4, k4⟩ := K.dep 4 rfl rfl rfl;refine zd 73 (.bool true) rfl e4 ?_;exact qj rfl (zb Tryd.underlying27 rfl sz3 (by decide) rfl ⟨Below.refl _ _, Left.of rfl⟩)
            · intro vs X wq K;have LE := K.1;obtain ⟨_, e9, k9⟩ := K.dep 9 rfl rfl rfl;refine zd 78 (.pointer (some ⟨g1, 1, none⟩)) rfl e9 ?_;obtain ⟨_, e4, k4⟩ := K.dep 4 rfl rfl rfl;refine zd 73 (.bool true) rfl e4 ?_;exact qj rfl (zi Tryd.underlying3 rfl rfl (ja LE B4) rfl ⟨Below.refl _ _, Left.of rfl⟩)
            · intro vs X wq K;obtain ⟨_, e8, k8⟩ := K.dep 8 rfl rfl rfl;refine zd 77 (.int .i64 y) rfl e8 ?_;obtain ⟨_, e10, k10⟩ := K.dep 10 rfl rfl rfl;refine zd 79 (.int .i64 f.params) rfl e10 ?_;obtain ⟨_, e4, k4⟩ := K.dep 4 rfl rfl rfl;refine zd 73 (.bool true) rfl e4 ?_
              exact qj rfl (yy rfl rfl ⟨Below.refl _ _, Left.of ((by rw [decide_eq_true q5] : (.bool (decide (y < f.params)) : Value) = _))⟩)
            · intro vs X wq K;obtain ⟨_, e4, k4⟩ := K.dep 4 rfl rfl rfl;refine zd 73 (.bool true) rfl e4 ?_;obtain ⟨_, e11, k11⟩ := K.dep 11 rfl rfl rfl;refine zd 80 (.bool true) rfl e11 ?_;exact zu rfl rfl ⟨Below.refl _ _, Left.of rfl⟩
            · intro vs X wq K;obtain ⟨_, e12, k12⟩ := K.dep 12 rfl rfl rfl;refine zd 81 (.bool true) rfl e12 ?_;exact zk rfl ⟨Below.refl _ _, Left.of rfl⟩
            · intro vs X wq K;obtain ⟨_, e13, k13⟩ := K.dep 13 rfl rfl rfl;refine zd 82 (.bool true) rfl e13 ?_;exact qj rfl (zk rfl ⟨Below.refl _ _, Left.of rfl⟩)
            · intro vs X wq K;obtain ⟨_, e14, k14⟩ := K.dep 14 rfl rfl rfl;refine zd 83 (.slice AL f.ins.length cL) rfl e14 ?_;obtain ⟨_, e13, k13⟩ := K.dep 13 rfl rfl rfl;refine zd 82 (.bool true) rfl e13 ?_;exact qj rfl (zm (j := 0) Tryd.underlying52 zex (congrArg (fun z ↦ some (Value.slice z f.ins.length cL)) hAL) rfl rfl hN0 ⟨Below.refl _ _, Left.of rfl⟩)
            · intro vs X wq K;have LE := K.1;obtain ⟨_, e15, k15⟩ := K.dep 15 rfl rfl rfl;refine zd 84 (.pointer (some ⟨gL, oL + 0, none⟩)) rfl e15 ?_;obtain ⟨_, e13, k13⟩ := K.dep 13 rfl rfl rfl;refine zd 82 (.bool true) rfl e13 ?_;exact qj rfl (zw Tryd.underlying55 rfl rfl (kc LE hcL) ⟨Below.refl _ _, Left.of rfl⟩)
            · intro vs X wq K;obtain ⟨_, e13, k13⟩ := K.dep 13 rfl rfl rfl;refine zd 82 (.bool true) rfl e13 ?_;exact qj rfl (zk rfl ⟨Below.refl _ _, Left.of rfl⟩)
            · intro vs X wq K;have LE := K.1;obtain ⟨_, e16, k16⟩ := K.dep 16 rfl rfl rfl;refine zd 85 (.slice BL row.length cBL) rfl e16 ?_;obtain ⟨_, e17, k17⟩ := K.dep 17 rfl rfl rfl;refine zd 86 (.int .i64 ((r : Nat) : Int)) rfl e17 ?_;obtain ⟨_, e13, k13⟩ := K.dep 13 rfl rfl rfl
              refine zd 82 (.bool true) rfl e13 (qj rfl (yc en23 rfl ((is_any _ BL cBL wS.heap.size row (hU.low (X := No) ⟨(Ext.refl No _).drew.trans LE, fun _ h => h.elim⟩) r (by omega)).mono ?_)));rintro e w2 ⟨rfl, hb⟩;exact ⟨_, rfl, hb, Left.of rfl⟩
            · intro vs X wq K;obtain ⟨_, e13, k13⟩ := K.dep 13 rfl rfl rfl;refine zd 82 (.bool true) rfl e13 ?_;obtain ⟨_, e18, k18⟩ := K.dep 18 rfl rfl rfl;refine zd 87 (.bool (jn row r)) rfl e18 ?_;exact zu rfl rfl ⟨Below.refl _ _, Left.of rfl⟩
          intro vs w6 LE AO AL AF AA;have hbd : Below (w4).heap.size (w4) w6 := (((Ext.refl No (w4)).drew).trans LE).toBelow;obtain ⟨_, e19, k19⟩ := AL.2.2.2.2.2.2.2.2.2.2.2.2.2.2.2.2.2.2.2.1;refine vm (τ := [(1, _), (2, _), (3, _), (7, _), (8, _), (88, .bool (jn row r))]) ⟨rfl, rfl, rfl, rfl, rfl, congrArg some e19, trivial⟩ ?_;clear AL AF AA AO
          refine zg (zr rfl (fun q7 => ?_) (fun q7 => ?_))
          ·
           rw [hbw] at q7;have q7 := (hbit 0 r).1 q7;refine srx (anx rfl (zq (zh (ze (ze (zh (ze (zp (rs := [.tmp 6]) (vs := [_]) rfl ⟨rfl, trivial⟩ ?_))))))));exact ⟨false, rfl, ⟨fun h => (by cases h), fun h => absurd h (fun h => hno (fun h => h.2.2.2 (by omega) q5 q7) h)⟩, (hE3.trans (hEr.trans (Ext.of_below hbd No))).toBelow⟩
          ·
           rw [hbw] at q7;have q7 : ¬ Liv f 0 r := fun h => by rw [(hbit 0 r).2 h] at q7; cases q7
           have hb2 := hbd;refine zt (zf (zg (zl (mvx rfl (za rfl (qd rfl rfl (yg (by omega)) (avx rfl (ye ?_))))))));exact yw (r + 1) (by show R - (r + 1) < R - r; omega) ⟨rfl, rfl, rfl, rfl, rfl, trivial⟩ (⟨hrl, hEr.trans (Ext.of_below hbd No), ko hy hok ⟨hy0, hyn, hyp, fun _ _ => q7⟩⟩)
         ·
          refine za rfl (zc rfl (za rfl (zc rfl (za rfl (zc rfl (za rfl (zc rfl (za rfl (zc rfl (za rfl (zc rfl (onx rfl (ya rfl rfl (za rfl (ya rfl rfl (rnx (qn rfl (zt (zg (zv ?_))))))))))))))))))));refine kz (No) Mut.none_ [] [] (kv [Fx.of (.int .i64 ((r : Nat) : Int)),
           Fx.of (.pointer (some ⟨g1, 1, none⟩)),
           Fx.of (.int .i64 f.params),
           Fx.of (.bool true),
           Fx.of (.bool true),
           Fx.of (.slice A m.length c),
           Fx.of (.int .i64 ((r : Nat) : Int)),
           Fx.of (.pointer (some ⟨gm, om + r, none⟩)),
           Fx.of (.int .i64 y),
           Fx.of (.pointer (some ⟨g1, 1, none⟩)),
           Fx.of (.int .i64 f.params),
           Fx.of (.bool false),
           Fx.of (.bool false),
           Fx.of (.bool false),
           Fx.of undef,
           Fx.of undef,
           Fx.of undef,
           Fx.of undef,
           Fx.of undef,
           Fx.of (.bool false)]) jj rfl trivial (fun _ h => by cases h) ?_ ?_
          · refine ⟨?_, ?_, ?_, ?_, ?_, ?_, ?_, ?_, ?_, ?_, ?_, ?_, ?_, ?_, ?_, ?_, ?_, ?_, ?_, ?_, trivial⟩
            · intro vs X wq K;exact zk rfl ⟨Below.refl _ _, Left.of rfl⟩
            · intro vs X wq K;exact zb Tryd.underlying27 rfl sz3 (by decide) rfl ⟨Below.refl _ _, Left.of rfl⟩
            · intro vs X wq K;have LE := K.1;obtain ⟨_, e1, k1⟩ := K.dep 1 rfl rfl rfl;refine zd 70 (.pointer (some ⟨g1, 1, none⟩)) rfl e1 ?_;exact zi Tryd.underlying3 rfl rfl (ja LE B4) rfl ⟨Below.refl _ _, Left.of rfl⟩
            · intro vs X wq K;obtain ⟨_, e0, k0⟩ := K.dep 0 rfl rfl rfl;refine zd 69 (.int .i64 ((r : Nat) : Int)) rfl e0 ?_;obtain ⟨_, e2, k2⟩ := K.dep 2 rfl rfl rfl;refine zd 71 (.int .i64 f.params) rfl e2 ?_;exact vu rfl rfl ⟨Below.refl _ _, Left.of ((by rw [decide_eq_true]; omega : (.bool (decide (f.params ≤ ((r : Nat) : Int))) : Value) = _))⟩
            · intro vs X wq K;obtain ⟨_, e3, k3⟩ := K.dep 3 rfl rfl rfl;refine zd 72 (.bool true) rfl e3 ?_;exact zk rfl ⟨Below.refl _ _, Left.of rfl⟩
            · intro vs X wq K;obtain ⟨_, e4, k4⟩ := K.dep 4 rfl rfl rfl;refine zd 73 (.bool true) rfl e4 ?_;exact qj rfl (zk rfl ⟨Below.refl _ _, Left.of rfl⟩)
            · intro vs X wq K;obtain ⟨_, e4, k4⟩ := K.dep 4 rfl rfl rfl;refine zd 73 (.bool true) rfl e4 ?_;exact qj rfl (zk rfl ⟨Below.refl _ _, Left.of rfl⟩)
            · intro vs X wq K;obtain ⟨_, e5, k5⟩ := K.dep 5 rfl rfl rfl;refine zd 74 (.slice A m.length c) rfl e5 ?_;obtain ⟨_, e6, k6⟩ := K.dep 6 rfl rfl rfl;refine zd 75 (.int .i64 ((r : Nat) : Int)) rfl e6 ?_;obtain ⟨_, e4, k4⟩ := K.dep 4 rfl rfl rfl;refine zd 73 (.bool true) rfl e4 ?_
              exact qj rfl (zm (j := r) Tryd.underlying28 sz3 (congrArg (fun z ↦ some (Value.slice z m.length c)) hAm) rfl rfl hrm ⟨Below.refl _ _, Left.of rfl⟩)
            · intro vs X wq K;have LE := K.1;obtain ⟨_, e7, k7⟩ := K.dep 7 rfl rfl rfl;refine zd 76 (.pointer (some ⟨gm, om + r, none⟩)) rfl e7 ?_;obtain ⟨_, e4, k4⟩ := K.dep 4 rfl rfl rfl;refine zd 73 (.bool true) rfl e4 ?_;exact qj rfl (zw Tryd.underlying3 rfl rfl (kc LE hcm) ⟨Below.refl _ _, Left.of rfl⟩)
            · intro vs X wq K;obtain ⟨_, e4, k4⟩ := K.dep 4 rfl rfl rfl;refine zd 73 (.bool true) rfl e4 ?_;exact qj rfl (zb Tryd.underlying27 rfl sz3 (by decide) rfl ⟨Below.refl _ _, Left.of rfl⟩)
            · intro vs X wq K;have LE := K.1;obtain ⟨_, e9, k9⟩ := K.dep 9 rfl rfl rfl;refine zd 78 (.pointer (some ⟨g1, 1, none⟩)) rfl e9 ?_;obtain ⟨_, e4, k4⟩ := K.dep 4 rfl rfl rfl;refine zd 73 (.bool true) rfl e4 ?_;exact qj rfl (zi Tryd.underlying3 rfl rfl (ja LE B4) rfl ⟨Below.refl _ _, Left.of rfl⟩)
            · intro vs X wq K;obtain ⟨_, e8, k8⟩ := K.dep 8 rfl rfl rfl;refine zd 77 (.int .i64 y) rfl e8 ?_;obtain ⟨_, e10, k10⟩ := K.dep 10 rfl rfl rfl;refine zd 79 (.int .i64 f.params) rfl e10 ?_;obtain ⟨_, e4, k4⟩ := K.dep 4 rfl rfl rfl;refine zd 73 (.bool true) rfl e4 ?_
              exact qj rfl (yy rfl rfl ⟨Below.refl _ _, Left.of ((by rw [decide_eq_false q5] : (.bool (decide (y < f.params)) : Value) = _))⟩)
            · intro vs X wq K;obtain ⟨_, e4, k4⟩ := K.dep 4 rfl rfl rfl;refine zd 73 (.bool true) rfl e4 ?_;obtain ⟨_, e11, k11⟩ := K.dep 11 rfl rfl rfl;refine zd 80 (.bool false) rfl e11 ?_;exact zu rfl rfl ⟨Below.refl _ _, Left.of rfl⟩
            · intro vs X wq K;obtain ⟨_, e12, k12⟩ := K.dep 12 rfl rfl rfl;refine zd 81 (.bool false) rfl e12 ?_;exact zk rfl ⟨Below.refl _ _, Left.of rfl⟩
            · intro vs X wq K;obtain ⟨_, e13, k13⟩ := K.dep 13 rfl rfl rfl;refine zd 82 (.bool false) rfl e13 ?_;exact zc rfl ⟨Below.refl _ _, Left.of rfl⟩
            · intro vs X wq K;obtain ⟨_, e14, k14⟩ := K.dep 14 rfl rfl rfl;refine zd 83 (undef) rfl e14 ?_;obtain ⟨_, e13, k13⟩ := K.dep 13 rfl rfl rfl;refine zd 82 (.bool false) rfl e13 ?_;exact zc rfl ⟨Below.refl _ _, Left.of rfl⟩
            · intro vs X wq K;obtain ⟨_, e15, k15⟩ := K.dep 15 rfl rfl rfl;refine zd 84 (undef) rfl e15 ?_;obtain ⟨_, e13, k13⟩ := K.dep 13 rfl rfl rfl;refine zd 82 (.bool false) rfl e13 ?_;exact zc rfl ⟨Below.refl _ _, Left.of rfl⟩
            · intro vs X wq K;obtain ⟨_, e13, k13⟩ := K.dep 13 rfl rfl rfl;refine zd 82 (.bool false) rfl e13 ?_;exact zc rfl ⟨Below.refl _ _, Left.of rfl⟩
            · intro vs X wq K;obtain ⟨_, e16, k16⟩ := K.dep 16 rfl rfl rfl;refine zd 85 (undef) rfl e16 ?_;obtain ⟨_, e17, k17⟩ := K.dep 17 rfl rfl rfl;refine zd 86 (undef) rfl e17 ?_;obtain ⟨_, e13, k13⟩ := K.dep 13 rfl rfl rfl;refine zd 82 (.bool false) rfl e13 ?_;exact zc rfl ⟨Below.refl _ _, Left.of rfl⟩
            · intro vs X wq K;obtain ⟨_, e13, k13⟩ := K.dep 13 rfl rfl rfl;refine zd 82 (.bool false) rfl e13 ?_;obtain ⟨_, e18, k18⟩ := K.dep 18 rfl rfl rfl;refine zd 87 (undef) rfl e18 ?_;exact ya rfl rfl ⟨Below.refl _ _, Left.of rfl⟩
          intro vs w7 LE AO AL AF AA;have hbd : Below (w4).heap.size (w4) w7 := (((Ext.refl No (w4)).drew).trans LE).toBelow;obtain ⟨_, e19, k19⟩ := AL.2.2.2.2.2.2.2.2.2.2.2.2.2.2.2.2.2.2.2.1;refine vm (τ := [(1, _), (2, _), (3, _), (7, _), (8, _), (88, .bool false)]) ⟨rfl, rfl, rfl, rfl, rfl, congrArg some e19, trivial⟩ ?_;clear AL AF AA AO;have hb2 := hbd
          refine zg (qn rfl (zt (zf (zg (zl (mvx rfl (za rfl (qd rfl rfl (yg (by omega)) (avx rfl (ye ?_))))))))));exact yw (r + 1) (by show R - (r + 1) < R - r; omega) ⟨rfl, rfl, rfl, rfl, rfl, trivial⟩ (⟨hrl, hEr.trans (Ext.of_below hbd No), ko hy hok ⟨hy0, hyn, hyp, fun _ h => absurd h q5⟩⟩)
     ·
      have hi := of_decide_eq_false hi;have hre : r = R := by omega
      have hF4 := hF3.low (X := No) ⟨hEr, fun _ h => h.elim⟩;refine qi (zo (zo (yd (zg (srx (za rfl (zn Tryd.underlying27 rfl xg rfl B4 rfl (za rfl (yc en24 rfl ((interfere_any _ p f n0 hF4 hs hbk R hRr).mono ?_))))))))));rintro e w8 ⟨go, rows, rfl, hrl, hmet, ⟨nG, hG⟩, hb⟩;refine ⟨_, rfl, ?_⟩;have E5 := Ext.of_below hb No
      have B5 := B4.ext E5 (fun h => h.elim);have hE5 := (hE3.trans hEr).trans E5;obtain ⟨wI, hwI⟩ : ∃ wI, wI = w8 := ⟨_, rfl⟩;rw [← hwI] at B5 hE5 hG;have hmI : IntsA n1 wI A m := hm.low (X := No) ⟨hE5, fun _ h => h.elim⟩
      refine anx rfl (zv (srx (anx rfl (yf (qx (ι := Nat) (fun r => [(1, .slice A m.length c), (3, .pointer (some ⟨g1, 0, none⟩)), (9, .slice (some ⟨go, 0, none⟩) R R), (10, .int .i64 ((r : Nat) : Int))]) (fun r w' => r ≤ R ∧ Ext No wI w' ∧ ∀ (r' o : Nat) (x y : Int), r' < r → Met f r' o → m[r']? = some x → m[o]? = some y → x ≠ y) (fun r => R - r) 0 ⟨rfl, rfl, rfl, rfl, trivial⟩ (⟨Nat.zero_le _, by rw [hwI]; exact Ext.refl _ _, fun r' o x y h => absurd h (Nat.not_lt_zero _)⟩) ?_)))))
      rintro r w10 ⟨hrR2, hEr2, hok2⟩;have B6 := B5.ext hEr2 (fun h => h.elim)
      refine zv (srx (mvx rfl (za rfl (zb Tryd.underlying27 rfl sz3 (by decide) rfl (za rfl (zi Tryd.underlying3 rfl rfl B6 rfl (qs 93 (.int .i64 ((R : Nat) : Int)) rfl ((by rw [hRr] : (.int .i64 f.regs : Value) = _)) (za rfl (yy rfl rfl (rnx (zr rfl (fun hi2 => ?_) (fun hi2 => ?_))))))))))))
      ·
       have hi2 := of_decide_eq_true hi2;have hrl2 : r < R := by omega
       obtain ⟨d, hd⟩ : ∃ d, rows[r]? = some d := ⟨_, List.getElem?_eq_getElem (by omega)⟩;have hmr := hmet r;have hdl := owns_max (hG.own d (List.mem_of_getElem? hd));rw [zmv hd] at hmr;obtain ⟨x, hx⟩ : ∃ x, m[r]? = some x := ⟨_, List.getElem?_eq_getElem (by omega)⟩
       refine zt (zg (zv (yf (srx (anx rfl (yf (qx (ι := Nat) (fun k => [(1, .slice A m.length c), (3, .pointer (some ⟨g1, 0, none⟩)), (9, .slice (some ⟨go, 0, none⟩) R R), (10, .int .i64 ((r : Nat) : Int)), (11, .int .i64 ((k : Nat) : Int))]) (fun k w' => k ≤ d.2.2.length ∧ Ext No wI w' ∧ ∀ (j o : Nat) (y : Int), j < k → d.2.2[j]? = some o → m[o]? = some y → x ≠ y) (fun k => d.2.2.length - k) 0 ⟨rfl, rfl, rfl, rfl, rfl, trivial⟩ (⟨Nat.zero_le _, hEr2, fun j o y h => absurd h (Nat.not_lt_zero _)⟩) ?_)))))))
       rintro k w12 ⟨hkl, hEk, hokk⟩;have hGk := hG.no hEk;have hcd := hGk.cell hd
       refine zv (srx (mvx rfl (mvx rfl (mvx rfl (za rfl (zm (j := r) Tryd.underlying59 km rfl rfl rfl hrl2 (za rfl (zw Tryd.underlying28 rfl rfl (by rw [Nat.zero_add]; exact hcd) (za rfl (qf Tryd.underlying28 rfl (za rfl (yy rfl rfl (rnx (zr rfl (fun hk => ?_) (fun hk => ?_)))))))))))))))
       ·
        have hk := of_decide_eq_true hk;have hkl2 : k < d.2.2.length := by omega
        obtain ⟨o, ho⟩ : ∃ o, d.2.2[k]? = some o := ⟨_, List.getElem?_eq_getElem hkl2⟩;have hmo := (hmr o).1 (List.mem_of_getElem? ho);have hoR : o < R := by
         obtain ⟨_, _, _, _, _, _, _, _, hl, _⟩ := hmo;have := (liv_in hs hl).2;omega
        obtain ⟨y, hy⟩ : ∃ y, m[o]? = some y := ⟨_, List.getElem?_eq_getElem (by omega)⟩;have hmk : IntsA n1 w12 A m := hmI.low (X := No) ⟨hEk, fun _ h => h.elim⟩;obtain ⟨gm, om, hAm, hgm, hcx⟩ := hmk.cell hx;obtain ⟨gm2, om2, hAm2, hgm2, hcy⟩ := hmk.cell hy;rw [hAm] at hAm2;cases hAm2
        obtain ⟨gd, hAd, hgd1, hgd2, hcs⟩ := js (hGk.own d (List.mem_of_getElem? hd)) (by omega);have hco := hcs k _ (by have := ycv (en := enD) (s := 1) (i := 0) (fun _ => rfl) ho rfl; rwa [Nat.mul_one, Nat.add_zero] at this);refine zt (zg (zv (yf (zv ?_))));refine kz (No) Mut.none_ [] [] (kv [Fx.of (.slice A m.length c),
         Fx.of (.slice (some ⟨go, 0, none⟩) R R),
         Fx.of (.int .i64 ((r : Nat) : Int)),
         Fx.of (.pointer (some ⟨go, 0 + r, none⟩)),
         Fx.of (.slice d.1 d.2.2.length d.2.1),
         Fx.of (.int .i64 ((k : Nat) : Int)),
         Fx.of (.pointer (some ⟨gd, 0 + k, none⟩)),
         Fx.of (.int .i64 ((o : Nat) : Int)),
         Fx.of (.pointer (some ⟨gm, om + o, none⟩)),
         Fx.of (.int .i64 y),
         Fx.of (.slice A m.length c),
         Fx.of (.int .i64 ((r : Nat) : Int)),
         Fx.of (.pointer (some ⟨gm, om + r, none⟩)),
         Fx.of (.int .i64 x),
         Fx.of (.bool (y == x))]) jj rfl trivial (fun _ h => by cases h) ?_ ?_
        · refine ⟨?_, ?_, ?_, ?_, ?_, ?_, ?_, ?_, ?_, ?_, ?_, ?_, ?_, ?_, ?_, trivial⟩
          · intro vs X wq K;exact zk rfl ⟨Below.refl _ _, Left.of rfl⟩
          · intro vs X wq K;exact zk rfl ⟨Below.refl _ _, Left.of rfl⟩
          · intro vs X wq K;exact zk rfl ⟨Below.refl _ _, Left.of rfl⟩
          · intro vs X wq K;obtain ⟨_, e1, k1⟩ := K.dep 1 rfl rfl rfl;refine zd 107 (.slice (some ⟨go, 0, none⟩) R R) rfl e1 ?_;obtain ⟨_, e2, k2⟩ := K.dep 2 rfl rfl rfl;refine zd 108 (.int .i64 ((r : Nat) : Int)) rfl e2 ?_;exact zm (j := r) Tryd.underlying59 km rfl rfl rfl hrl2 ⟨Below.refl _ _, Left.of rfl⟩
          · intro vs X wq K;have LE := K.1;obtain ⟨_, e3, k3⟩ := K.dep 3 rfl rfl rfl;refine zd 109 (.pointer (some ⟨go, 0 + r, none⟩)) rfl e3 ?_;exact zw Tryd.underlying28 rfl rfl (by rw [Nat.zero_add]; exact kc LE hcd) ⟨Below.refl _ _, Left.of rfl⟩
          · intro vs X wq K;exact zk rfl ⟨Below.refl _ _, Left.of rfl⟩
          · intro vs X wq K;obtain ⟨_, e4, k4⟩ := K.dep 4 rfl rfl rfl;refine zd 110 (.slice d.1 d.2.2.length d.2.1) rfl e4 ?_;obtain ⟨_, e5, k5⟩ := K.dep 5 rfl rfl rfl;refine zd 111 (.int .i64 ((k : Nat) : Int)) rfl e5 ?_;exact zm (j := k) Tryd.underlying28 sz3 (congrArg (fun z ↦ some (Value.slice z d.2.2.length d.2.1)) hAd) rfl rfl hkl2 ⟨Below.refl _ _, Left.of rfl⟩
          · intro vs X wq K;have LE := K.1;obtain ⟨_, e6, k6⟩ := K.dep 6 rfl rfl rfl;refine zd 112 (.pointer (some ⟨gd, 0 + k, none⟩)) rfl e6 ?_;exact zw Tryd.underlying3 rfl rfl (by rw [Nat.zero_add]; exact kc LE hco) ⟨Below.refl _ _, Left.of rfl⟩
          · intro vs X wq K;obtain ⟨_, e0, k0⟩ := K.dep 0 rfl rfl rfl;refine zd 106 (.slice A m.length c) rfl e0 ?_;obtain ⟨_, e7, k7⟩ := K.dep 7 rfl rfl rfl;refine zd 113 (.int .i64 ((o : Nat) : Int)) rfl e7 ?_;exact zm (j := o) Tryd.underlying28 sz3 (congrArg (fun z ↦ some (Value.slice z m.length c)) hAm) rfl rfl (by omega) ⟨Below.refl _ _, Left.of rfl⟩
          · intro vs X wq K;have LE := K.1;obtain ⟨_, e8, k8⟩ := K.dep 8 rfl rfl rfl;refine zd 114 (.pointer (some ⟨gm, om + o, none⟩)) rfl e8 ?_;exact zw Tryd.underlying3 rfl rfl (kc LE hcy) ⟨Below.refl _ _, Left.of rfl⟩
          · intro vs X wq K;exact zk rfl ⟨Below.refl _ _, Left.of rfl⟩
          · intro vs X wq K;exact zk rfl ⟨Below.refl _ _, Left.of rfl⟩
          · intro vs X wq K;obtain ⟨_, e10, k10⟩ := K.dep 10 rfl rfl rfl;refine zd 116 (.slice A m.length c) rfl e10 ?_;obtain ⟨_, e11, k11⟩ := K.dep 11 rfl rfl rfl;refine zd 117 (.int .i64 ((r : Nat) : Int)) rfl e11 ?_;exact zm (j := r) Tryd.underlying28 sz3 (congrArg (fun z ↦ some (Value.slice z m.length c)) hAm) rfl rfl (by omega) ⟨Below.refl _ _, Left.of rfl⟩
          · intro vs X wq K;have LE := K.1;obtain ⟨_, e12, k12⟩ := K.dep 12 rfl rfl rfl;refine zd 118 (.pointer (some ⟨gm, om + r, none⟩)) rfl e12 ?_;exact zw Tryd.underlying3 rfl rfl (kc LE hcx) ⟨Below.refl _ _, Left.of rfl⟩
          · intro vs X wq K;obtain ⟨_, e9, k9⟩ := K.dep 9 rfl rfl rfl;refine zd 115 (.int .i64 y) rfl e9 ?_;obtain ⟨_, e13, k13⟩ := K.dep 13 rfl rfl rfl;refine zd 119 (.int .i64 x) rfl e13 ?_;exact yl rfl rfl ⟨Below.refl _ _, Left.of rfl⟩
        intro vs w13 LE AO AL AF AA;have hbd : Below (w12).heap.size (w12) w13 := (((Ext.refl No (w12)).drew).trans LE).toBelow;obtain ⟨_, e14, k14⟩ := AL.2.2.2.2.2.2.2.2.2.2.2.2.2.2.1;refine vm (τ := [(1, _), (3, _), (9, _), (10, _), (11, _), (120, .bool (y == x))]) ⟨rfl, rfl, rfl, rfl, rfl, congrArg some e14, trivial⟩ ?_;clear AL AF AA AO;have hEd := hEk.trans (Ext.of_below hbd No)
        refine zg (zr rfl (fun hq => ?_) (fun hq => ?_))
        ·
         have hq : y = x := eq_of_beq hq;refine srx (anx rfl (zq (zh (ze (ze (zh (zh (ze (ze (zh (ze (zp (rs := [.tmp 6]) (vs := [_]) rfl ⟨rfl, trivial⟩ ?_))))))))))))
         exact ⟨false, rfl, ⟨fun h => (by cases h), fun h => absurd h (fun h => h.2.2.2.2.2 r o x y hmo hx hy hq.symm)⟩, (hE5.trans hEd).toBelow⟩
        ·
         have hq : y ≠ x := by simpa using hq
         have hk3 : ∀ (j o : Nat) (y : Int), j < k + 1 → d.2.2[j]? = some o → m[o]? = some y → x ≠ y := fun j o2 y2 hj ho2 hy2 => by
          rcases Nat.lt_or_ge j k with h | h
          · exact hokk j o2 y2 h ho2 hy2
          · obtain rfl : j = k := by omega
            rw [ho] at ho2;obtain rfl := Option.some.inj ho2;rw [hy] at hy2;obtain rfl := Option.some.inj hy2;exact fun e => hq e.symm
         refine zt (zf (zg (zl (mvx rfl (za rfl (qd rfl rfl (yg (by omega)) (avx rfl (ye ?_))))))));exact yw (k + 1) (by show d.2.2.length - (k + 1) < d.2.2.length - k; omega) ⟨rfl, rfl, rfl, rfl, rfl, trivial⟩ (⟨hkl2, hEd, hk3⟩)
       ·
        have hk := of_decide_eq_false hk;have hr3 : ∀ (r' o : Nat) (x y : Int), r' < r + 1 → Met f r' o → m[r']? = some x → m[o]? = some y → x ≠ y := fun r' o x' y' hr' hM hx' hy' => by
         rcases Nat.lt_or_ge r' r with h | h
         · exact hok2 r' o x' y' h hM hx' hy'
         · obtain rfl : r' = r := by omega
           rw [hx] at hx';obtain rfl := Option.some.inj hx';obtain ⟨j, hj⟩ := List.mem_iff_getElem?.1 ((hmr o).2 hM);exact hokk j o y' (by have := (List.getElem?_eq_some_iff.1 hj).1; omega) hj hy'
        refine qi (zo (zo (yd (zf (zg (zl (mvx rfl (za rfl (qd rfl rfl (yg (by omega)) (avx rfl (ye ?_)))))))))));exact yw (r + 1) (by show R - (r + 1) < R - r; omega) ⟨rfl, rfl, rfl, rfl, trivial⟩ (⟨hrl2, hEk, hr3⟩)
      ·
       have hi2 := of_decide_eq_false hi2;have hre2 : r = R := by omega
       have hfin : xn f m n := ⟨hs, h1, by omega, by omega, fun r' x hx => hok _ x (by have := (List.getElem?_eq_some_iff.1 hx).1; omega) hx, fun r' o x y hM hx hy => hok2 r' o x y (by have := (List.getElem?_eq_some_iff.1 hx).1; omega) hM hx hy⟩
       refine qi (zo (zo (yd (zg (srx (anx rfl (zq (zp (rs := [.tmp 6]) (vs := [_]) rfl ⟨rfl, trivial⟩ ?_))))))));exact ⟨true, rfl, ⟨fun _ => hfin, fun _ => rfl⟩, (hE5.trans hEr2).toBelow⟩
 ·
  have hs : qq f = false := by simpa using hs
  refine qs 13 (.bool false) rfl ((by rw [hs] : (.bool (qq f) : Value) = _)) (za rfl (jc rfl (mvx rfl (za rfl (zc rfl (za rfl (zc rfl (za rfl (zc rfl (za rfl (zc rfl (za rfl (zc rfl (za rfl (zu rfl rfl (mvx rfl (za rfl (zc rfl (za rfl (zc rfl (za rfl (zc rfl (za rfl (zc rfl (za rfl (zu rfl rfl (mvx rfl (za rfl (zc rfl (za rfl (zc rfl (za rfl (zc rfl (za rfl (zc rfl (za rfl (zu rfl rfl (rnx (yp rfl (srx (anx rfl (zq (ze (zp (rs := [.tmp 6]) (vs := [_]) rfl ⟨rfl, trivial⟩ ?_))))))))))))))))))))))))))))))))))))))))))))
  exact ⟨false, rfl, ⟨fun h => (by cases h), fun h => absurd h (fun h => by rw [h.1] at hs; cases hs)⟩, hE2.toBelow⟩
end
end Go.Proofs.YtppdgjlmeahimaaDoor
namespace Go.Proofs.YtppdgjlmeahimaaDoor
structure Greedy (f : LFn) (W : List (List Nat)) (ms : List Int) : Prop where
 low : ∀ (r : Nat) (x : Int), ms[r]? = some x → (r : Int) < f.params → x = (r : Int)
 high : ∀ (r : Nat) (x : Int), ms[r]? = some x → f.params ≤ (r : Int) → ∃ least, (least = 0 ∨ least = f.params) ∧ (Liv f 0 r → least = f.params) ∧ FreeP (W.getD r []) (ms.take r) least x
theorem Greedy.le {f : LFn} {W : List (List Nat)} {ms : List Int} (h : Greedy f W ms) (hp : 0 ≤ f.params) {r : Nat} {x : Int} (hx : ms[r]? = some x) : 0 ≤ x ∧ x ≤ (r : Int) := by
 have hr := (List.getElem?_eq_some_iff.1 hx).1;rcases Int.lt_or_le (r : Int) f.params with h1 | h1
 · have := h.low r x hx h1; omega
 · obtain ⟨least, h2, _, h3, _, h4⟩ := h.high r x hx h1;have h0 : 0 ≤ x := by rcases h2 with h2 | h2 <;> omega
   refine ⟨h0, ?_⟩;have := many_in x.toNat 0 (ms.take r) fun i hi => by
    rw [Int.zero_add];rcases Int.lt_or_le (i : Int) least with h5 | h5
    · have h6 : least = f.params := by rcases h2 with h2 | h2 <;> omega
      have h7 : i < ms.length := by omega
      have h8 : ms[i]? = some ms[i] := List.getElem?_eq_getElem h7;have h9 := h.low i _ h8 (by omega);refine List.mem_of_getElem? (i := i) ?_;rw [List.getElem?_take, if_pos (by omega), h8, h9]
    · obtain ⟨o, h6, _⟩ := h4 (i : Int) h5 (by omega);exact List.mem_of_getElem? h6
   rw [List.length_take] at this;omega
theorem greedy_right {f : LFn} {W : List (List Nat)} {ms : List Int} {n : Int} (hs : qq f = true) (hW : ∀ a b, qy W a b = true ↔ (Met f a b ∨ Met f b a)) (h : Greedy f W ms) (hl : (ms.length : Int) = f.regs) (h1 : f.params ≤ n) (h2 : ∀ x ∈ ms, x < n) (h3 : n = f.params ∨ ∃ x ∈ ms, n = x + 1) : xn f ms n := by
 obtain ⟨hr0, hr1, hp0, hp1, hne⟩ := jl hs;have key : ∀ (r o : Nat) (x : Int), r < o → qy W o r = true → ms[r]? = some x → ms[o]? = some x → False := fun r o x hro hb hx hy => by
  rcases Int.lt_or_le (o : Int) f.params with h4 | h4
  · have h5 := h.low r x hx (by omega);have h6 := h.low o x hy h4;omega
  · obtain ⟨least, _, _, _, h5, _⟩ := h.high o x hy h4;exact h5 ⟨r, by rw [List.getElem?_take, if_pos hro]; exact hx, hb⟩
 refine ⟨hs, hl, h1, ?_, fun r x hx => ⟨(h.le hp0 hx).1, h2 x (List.mem_of_getElem? hx), fun h4 => h.low r x hx h4, fun h4 h5 h6 => ?_⟩, fun r o x y hM hx hy hxy => ?_⟩
 · rcases h3 with h3 | ⟨x, hx, h3⟩
   · omega
   · obtain ⟨r, hr, e⟩ := List.getElem_of_mem hx;have := h.le hp0 (List.getElem?_eq_getElem hr);omega
 · obtain ⟨least, _, h7, h8, _⟩ := h.high r x hx h4;have := h7 h6;omega
 · subst hxy;rcases Nat.lt_trichotomy r o with h4 | h4 | h4
   · exact key r o x h4 ((hW o r).2 (Or.inr hM)) hx hy
   · obtain ⟨_, _, _, _, _, _, _, _, _, h5, _⟩ := hM;exact h5 h4.symm
   · exact key o r x h4 ((hW r o).2 (Or.inl hM)) hy hx
theorem Greedy.nil {f : LFn} {W : List (List Nat)} : Greedy f W [] := ⟨fun r x h => by simp at h, fun r x h => by simp at h⟩
theorem Greedy.add {f : LFn} {W : List (List Nat)} {ms : List Int} {x : Int} (h : Greedy f W ms) (h1 : (ms.length : Int) < f.params → x = (ms.length : Int)) (h2 : f.params ≤ (ms.length : Int) → ∃ least, (least = 0 ∨ least = f.params) ∧ (Liv f 0 ms.length → least = f.params) ∧ FreeP (W.getD ms.length []) ms least x) : Greedy f W (ms ++ [x]) := by
 have key : ∀ (r : Nat) (y : Int), (ms ++ [x])[r]? = some y → (r < ms.length ∧ ms[r]? = some y ∧ (ms ++ [x]).take r = ms.take r) ∨ (r = ms.length ∧ y = x ∧ (ms ++ [x]).take r = ms) := fun r y hy => by
  rcases Nat.lt_or_ge r ms.length with h3 | h3
  · rw [List.getElem?_append_left h3] at hy;exact Or.inl ⟨h3, hy, List.take_append_of_le_length (by omega)⟩
  · rw [List.getElem?_append_right h3] at hy;have h4 := (List.getElem?_eq_some_iff.1 hy).1;simp at h4
    have h5 : r = ms.length := by omega
    subst h5;simp at hy
    exact Or.inr ⟨rfl, hy.symm, by simp⟩
 refine ⟨fun r y hy hr => ?_, fun r y hy hr => ?_⟩
 · rcases key r y hy with ⟨_, h4, _⟩ | ⟨rfl, rfl, _⟩
   · exact h.low r y h4 hr
   · exact h1 hr
 · rcases key r y hy with ⟨_, h4, h5⟩ | ⟨rfl, rfl, h5⟩
   · rw [h5]; exact h.high r y h4 hr
   · rw [h5]; exact h2 hr
end Go.Proofs.YtppdgjlmeahimaaDoor
namespace Go.Proofs.YtppdgjlmeahimaaDoor
open Go.RowKit
set_option maxRecDepth 100000
attribute [local irreducible] OW RS
def xk (ms : List Int) (R : Nat) : List Value := yz ms ++ List.replicate (R - ms.length) (.int .i64 0)
theorem zyk {ms : List Int} {R : Nat} (h : ms.length ≤ R) : (xk ms R).length = R := by
 unfold xk yz; simp; omega
theorem zyv {ms : List Int} {R : Nat} {x : Int} (h : ms.length < R) : (xk ms R).set ms.length (.int .i64 x) = xk (ms ++ [x]) R := by
 unfold xk yz;obtain ⟨k, hk⟩ : ∃ k, R - ms.length = k + 1 := ⟨R - ms.length - 1, by omega⟩;have h2 : R - (ms ++ [x]).length = k := by simp; omega
 rw [hk, h2, List.replicate_succ, List.set_append_right _ _ (by simp)];simp
theorem fillV_at {ms : List Int} {R i : Nat} {x : Int} (h : ms[i]? = some x) : (xk ms R)[i]? = some (.int .i64 x) := by
 unfold xk yz;rw [List.getElem?_append_left (by rw [List.length_map]; exact (List.getElem?_eq_some_iff.1 h).1), List.getElem?_map, h]; rfl
theorem fillV_full {ms : List Int} {R : Nat} (h : ms.length = R) : xk ms R = yz ms := by
 unfold xk; rw [h]; simp
theorem fillV_nil (R : Nat) : xk [] R = List.replicate R (.int .i64 0) := by unfold xk yz; simp
def idL (R : Nat) : List Int := (List.range R).map fun (i : Nat) => (i : Int)
theorem znv (R : Nat) : (idL R).length = R := by simp [idL]
theorem idL_at {R r : Nat} {x : Int} (h : (idL R)[r]? = some x) : x = (r : Int) ∧ r < R := by
 unfold idL at h;rw [List.getElem?_map] at h;cases hr : (List.range R)[r]? with
 | none => rw [hr] at h; cases h
 | some y =>
  rw [hr] at h;obtain ⟨h1, h2⟩ := List.getElem?_eq_some_iff.1 hr;simp at h1 h2
  subst h2;exact ⟨(Option.some.inj h).symm, h1⟩
theorem idL_succ (i : Nat) : idL (i + 1) = idL i ++ [(i : Int)] := by unfold idL; rw [List.range_succ, List.map_append]; rfl
theorem ident_right {f : LFn} (hs : qq f = true) : xn f (idL f.regs.toNat) f.regs := by
 obtain ⟨hr0, hr1, hp0, hp1, hne⟩ := jl hs;refine ⟨hs, by rw [znv]; omega, hp1, Int.le_refl _, fun r x hx => ?_, fun r o x y hM hx hy hxy => ?_⟩
 · obtain ⟨rfl, h1⟩ := idL_at hx;exact ⟨by omega, by omega, fun _ => rfl, fun h2 h3 => absurd h3 (by omega)⟩
 · obtain ⟨_, _, _, _, _, _, _, _, _, h5, _⟩ := hM;have h6 := (idL_at hx).1;have h7 := (idL_at hy).1;exact h5 (by omega)
def AJ (g10 go R n base : Nat) (gs : List Nat) (D : Nat → Nat → Prop) (w : World) : Prop := Blk w g10 52 #[.slice (some ⟨go, 0, none⟩) R R] ∧ ∃ Q, RowsB 55 35 base w go R n gs Q ∧ Q.length = R ∧ ∀ a b, qy Q a b = true ↔ (D a b ∨ D b a)
theorem assign_each {g10 go R n base : Nat} {gs : List Nat} {w0 : World} (hRn : R ≤ 64 * n) (hn : n ≤ 1024) (hcap : g10 ∉ gs) (h1 : g10 < w0.heap.size) (h2 : go < w0.heap.size) (h3 : ∀ g ∈ gs, g < w0.heap.size) : EachOk 25 #[.pointer (some ⟨g10, 0, none⟩)] R (fun k => k ∈ gs) (AJ g10 go R n base gs) (fun _ _ => False) w0 where
 keep := fun D w w' Y h e hY => by
  obtain ⟨hb, Q, hQ, hl, hbit⟩ := h;exact ⟨hb.ext e (fun h => by have := hY _ h; omega), Q, hQ.ext e (fun h => by have := hY _ h; omega) (fun g hg h => by have := hY _ h; have := h3 g hg; omega), hl, hbit⟩
 call := fun D w r o h _ hr ho => by
  obtain ⟨hb, Q, hQ, hl, hbit⟩ := h;rw [show (#[.int .i64 ((r : Nat) : Int), .int .i64 ((o : Nat) : Int)] ++ #[.pointer (some ⟨g10, 0, none⟩)] : Array Value) = #[.int .i64 ((r : Nat) : Int), .int .i64 ((o : Nat) : Int), .pointer (some ⟨g10, 0, none⟩)] from rfl];have hR64 := zev hQ hl
  refine (assign1_any w g10 go R n base gs Q hb hQ hl hRn hn hcap r o hr ho).mono fun e w' h => ⟨true, h.1, h.2.1, fun _ => ⟨hb.ext h.2.1 hcap, _, h.2.2, by rw [zsk, zsk]; exact hl, fun a b => ?_⟩, fun h => by cases h⟩;rw [zoq (setW_rows hR64 hr) ho (by omega), zoq hR64 hr (by omega), Bool.or_eq_true, Bool.or_eq_true, hbit, decide_eq_true_iff, decide_eq_true_iff]
  constructor
  · rintro (((h | h) | ⟨rfl, rfl⟩) | ⟨rfl, rfl⟩)
    · exact Or.inl (Or.inl h)
    · exact Or.inr (Or.inl h)
    · exact Or.inl (Or.inr ⟨rfl, rfl⟩)
    · exact Or.inr (Or.inr ⟨rfl, rfl⟩)
  · rintro ((h | ⟨rfl, rfl⟩) | (h | ⟨rfl, rfl⟩))
    · exact Or.inl (Or.inl (Or.inl h))
    · exact Or.inl (Or.inr ⟨rfl, rfl⟩)
    · exact Or.inl (Or.inl (Or.inr h))
    · exact Or.inr ⟨rfl, rfl⟩
theorem meets_assign {w : World} {p : Pl} {f : LFn} {n0 b0 cl g10 go R n base : Nat} {AL : Option Addr} {W : List (List Nat)} {gs : List Nat} (hF : FnA n0 w p f) (hs :     qq f = true) (hD : DbT w) (hW : Rows64 W f.ins.length (    jr f)) (hL : ∀ a r,   qy W a r = true ↔ Liv f a r) (hA : RowsW b0 w AL W) (hb0 : n0 ≤ b0) (hdb : 0 < b0)
 (hR : f.regs.toNat = R) (hRn : R ≤ 64 * n) (hn : n ≤ 1024) (hcap : g10 ∉ gs) (hgs : ∀ g ∈ gs, b0 ≤ g) (h4 : Blk w g10 52 #[.slice (some ⟨go, 0, none⟩) R R]) (hQ : RowsB 55 35 base w go R n gs (List.replicate R (List.replicate n 0))) : Calls Tryd.prog 20 #[fnV p f, .slice AL f.ins.length cl, .func (.func 25) #[] #[.pointer (some ⟨g10, 0, none⟩)]] w fun e w' => e = .returned (.bool true) ∧ Ext (fun k => k ∈ gs) w w' ∧ AJ g10 go R n base gs (Met f) w' :=
 (meets_any w p f n0 b0 cl AL W hF hs hD hW hL hA hb0 hdb _ _ (fun k => k ∈ gs) (AJ g10 go R n base gs) (fun _ _ => False) (fun k hk => ⟨hgs k hk, hQ.lt hk⟩) (by rw [hR]; exact assign_each hRn hn hcap h4.lt hQ.out.lt (fun g hg => hQ.lt hg)) en25 ⟨h4, _, hQ, by rw [List.length_replicate], fun a b => by
  constructor
  · intro h;unfold   qy at h;rw [List.getD_eq_getElem?_getD, List.getElem?_replicate] at h;split at h
    · rw [Option.getD_some,       zzq] at h; cases h
    · simp [  jn] at h
  · intro h; rcases h with h | h <;> exact h.elim⟩).mono fun e w' h => by
  obtain ⟨hE, h⟩ := h;rcases h with ⟨he, D, hD, hJ⟩ | ⟨_, _, _, _, h⟩
  · have e1 : D = Met f := funext fun a => funext fun b => propext (hD a b);rw [e1] at hJ;exact ⟨he, hE, hJ⟩
  · exact h.elim
theorem u64_blk {w : World} {g n N : Nat} {x : List Nat} (hb : Blk w g 35 (vb x).toArray) (h : Row64 x n) (hn : n ≤ 1024) (hN : g < N) : U64A N w (some ⟨g, 0, none⟩) x :=
 ⟨by rw [h.1]; omega, h.2, fun _ => ⟨g, 0, rfl, hN, fun j y hj => by
  show w.cell? ⟨g, 0 + j * 1, none⟩ = _
  rw [hb.cell, List.getElem?_toArray, Nat.zero_add, Nat.mul_one];exact zwz hj⟩⟩
theorem ints_fill {w : World} {g R N : Nat} {ms : List Int} (hb : Blk w g 3 (xk ms R).toArray) (hl : 8 * ms.length ≤ 140737488355000) (hi : ∀ x ∈ ms, I64 x) (hN : g < N) : IntsA N w (some ⟨g, 0, none⟩) ms :=
 ⟨hl, hi, fun _ => ⟨g, 0, rfl, hN, fun j y hj => by
  show w.cell? ⟨g, 0 + j * 1, none⟩ = _
  rw [hb.cell, List.getElem?_toArray, Nat.zero_add, Nat.mul_one];exact fillV_at hj⟩⟩
def RetAssign (f : LFn) (w : World) : Ending → World → Prop := fun e w' => Below w.heap.size w w' ∧ (qq f = false → e = .returned (.tuple #[.slice none 0 0, .int .i64 0, .int .i64 3])) ∧ (qq f = true → ∃ gm ms n, e = .returned (.tuple #[.slice (some ⟨gm, 0, none⟩) ms.length ms.length, .int .i64 n, .int .i64 0]) ∧ w.heap.size ≤ gm ∧ Blk w' gm 3 (yz ms).toArray ∧ xn f ms n)
section
variable (w : World) (p : Pl) (f : LFn) (n0 : Nat) (hF : FnA n0 w p f) (hD : DbT w)
include hF hD
theorem zrz : Calls Tryd.prog 11 #[fnV p f] w (RetAssign f w) := by
 have hrl := hF.rgs.len;have hil := hF.ins.len;have hn := hF.size;refine qo Tryd.func11 rfl Tryd.ntmps11 rfl (srx (za rfl (vn rfl ?_)));rintro g1 wA B1 E1 G1;have hFA : FnA n0 wA p f := hF.low (X := No) ⟨E1, fun _ h => h.elim⟩;refine avx rfl (avx rfl (anx rfl (srx (za rfl (zn Tryd.underlying27 rfl xg rfl B1 rfl ?_)))));by_cases hs : qq f = true
 ·
  obtain ⟨hr0, hr1, hp0, hp1, hne⟩ := jl hs;obtain ⟨R, hRr⟩ : ∃ R : Nat, f.regs = (R : Int) := ⟨f.regs.toNat, by omega⟩;refine za rfl (yc en19 rfl ((live_yes hFA hs).mono ?_));rintro e w1 ⟨AL, cL, W, rfl, hW, hL, hA, hb⟩;refine ⟨_, rfl, ?_⟩;have E2 := Ext.of_below hb No;obtain ⟨b0, hb0⟩ : ∃ b0, b0 = w1.heap.size := ⟨_, rfl⟩;rw [← hb0] at hA;have B2 := B1.ext E2 (fun h => h.elim)
  refine mvx rfl (za rfl (vi rfl rfl (za rfl (vi rfl rfl (avx rfl (anx rfl (zv (srx (mvx rfl (za rfl (vc rfl rfl (rnx (qn rfl (zt (zg (srx (za rfl (zb Tryd.underlying27 rfl sz3 (by decide) rfl (za rfl (zi Tryd.underlying3 rfl rfl B2 rfl (za rfl (xy (n := R) Tryd.underlying28 oj rfl rfl rfl hRr hRr (by omega) (by omega) ?_))))))))))))))))))))))
  rintro gm wB Bm E3 Gm;have B3 := B2.ext E3 (fun h => h.elim);refine anx rfl (zv (srx (za rfl (zb Tryd.underlying27 rfl sz3 (by decide) rfl (za rfl (zi Tryd.underlying3 rfl rfl B3 rfl (za rfl (xi rfl rfl (rnx (zr rfl (fun h3 => ?_) (fun h3 => ?_)))))))))))
  ·
   have h3 := of_decide_eq_true h3;have hz0 : Blk wB gm 3 (xk (idL 0) R).toArray := by rw [show idL 0 = [] from rfl, fillV_nil]; exact Bm
   have hg1m : g1 ≠ gm := by have := B2.lt; omega
   refine zv (srx (mvx rfl (za rfl (qf Tryd.underlying28 rfl (mvx rfl (rnx (yf (qx (ι := Nat) (fun i => [(1, .pointer (some ⟨g1, 0, none⟩)), (7, .slice (some ⟨gm, 0, none⟩) R R), (30, .int .i64 ((R : Nat) : Int)), (31, .int .i64 ((i : Nat) : Int))]) (fun i w' => Ext (Mut [some gm]) wB w' ∧ Blk w' gm 3 (xk (idL i) R).toArray ∧ i ≤ R) (fun i => R - i) 0 ⟨rfl, rfl, rfl, rfl, trivial⟩ (⟨Ext.refl _ _, hz0, Nat.zero_le _⟩) ?_))))))))
   rintro i w3 ⟨hEi, hBi, hiR⟩;refine srx (za rfl (yy rfl rfl (rnx (zv (zr rfl (fun hi => ?_) (fun hi => ?_))))))
   ·
    have hi := of_decide_eq_true hi;have hiR2 : i < R := by omega
    refine zt (zg (zv (yf (srx (mvx rfl (anx rfl (zl (mvx rfl (mvx rfl (mvx rfl (za rfl (zm (j := i) Tryd.underlying28 sz3 rfl rfl rfl hiR2 (zy (vq sz3 rfl rfl hBi rfl rfl (by rw [List.size_toArray, zyk (by rw [znv]; omega)]; omega) (show _ = (xk (idL (i + 1)) R).toArray from by rw [idL_succ, ← zyv (by rw [znv]; exact hiR2), znv, Nat.zero_add, List.setIfInBounds_toArray]) ?_))))))))))))))
    rintro wC Bs Es;refine ye (zf (zg (zl (za rfl (qd rfl rfl (yg (by omega)) (mvx rfl (ye ?_)))))));exact yw (i + 1) (by show R - (i + 1) < R - i; omega) ⟨rfl, rfl, rfl, rfl, trivial⟩ (⟨hEi.step Es (fun i h => Or.inl h), Bs, hiR2⟩)
   ·
    have hi := of_decide_eq_false hi;have hie : i = R := by omega
    rw [hie, fillV_full (znv R)] at hBi;have B4 := B3.ext hEi (fun h => hg1m (va h));refine qi (zo (zo (yd (zg (zv (kj jj (kl 5 rfl ?_)))))));refine vt (No) Mut.none_ [] [] (kv [Fx.of (.slice (some ⟨gm, 0, none⟩) R R),
     Fx.of (.pointer (some ⟨g1, 2, none⟩)),
     Fx.of (.int .i64 f.regs),
     Fx.of (.slice (some ⟨gm, 0, none⟩) R R),
     Fx.of (.int .i64 f.regs)]) rfl trivial (fun _ h => by cases h) ?_ ?_
    · refine ⟨?_, ?_, ?_, ?_, ?_, trivial⟩
      · intro vs X wq K;exact zk rfl ⟨Below.refl _ _, Left.of rfl⟩
      · intro vs X wq K;exact zb Tryd.underlying27 rfl sz3 (by decide) rfl ⟨Below.refl _ _, Left.of rfl⟩
      · intro vs X wq K;have LE := K.1;obtain ⟨_, e1, k1⟩ := K.dep 1 rfl rfl rfl;refine zd 40 (.pointer (some ⟨g1, 2, none⟩)) rfl e1 ?_;exact zi Tryd.underlying3 rfl rfl (ja LE B4) rfl ⟨Below.refl _ _, Left.of rfl⟩
      · intro vs X wq K;obtain ⟨_, e0, k0⟩ := K.dep 0 rfl rfl rfl;refine zd 39 (.slice (some ⟨gm, 0, none⟩) R R) rfl e0 ?_;exact qp rfl ⟨Below.refl _ _, Left.of rfl⟩
      · intro vs X wq K;obtain ⟨_, e2, k2⟩ := K.dep 2 rfl rfl rfl;refine zd 41 (.int .i64 f.regs) rfl e2 ?_;exact qp rfl ⟨Below.refl _ _, Left.of rfl⟩
    intro vs w4 LE AO AL AF AA;have hbd : Below (w3).heap.size (w3) w4 := (((Ext.refl No (w3)).drew).trans LE).toBelow;obtain ⟨_, e3, k3⟩ := AL.2.2.2.1;obtain ⟨_, e4, k4⟩ := AL.2.2.2.2.1;refine vm (τ := [(1, _), (2, .slice (some ⟨gm, 0, none⟩) R R), (3, .int .i64 f.regs), (7, _)]) ⟨rfl, congrArg some e3, congrArg some e4, rfl, trivial⟩ ?_;clear AL AF AA AO
    refine oq (jd (by kernel_rfl) (fun _ _ d_ _ _ h => by cases d_ <;> exact h) ?_);have hb5 := hBi.ext (Ext.of_below hbd No) (fun h => h.elim);have hlo : Below w.heap.size w w4 := by
     have h1 := gu ((E1.trans E2).trans E3).toBelow hEi ((E1.trans E2).trans E3).size (fun k hk => by have := va hk; have := E1.size; have := E2.size; omega);exact h1.trans (hbd.mono h1.size)
    refine anx rfl (zq (ze (zp (rs := [.tmp 2, .tmp 3, .tmp 4]) (vs := [_, _, _]) rfl ⟨rfl, rfl, rfl, trivial⟩ ?_)));exact ⟨hlo, fun h => (by rw [hs] at h; cases h), fun _ => ⟨gm, idL R, f.regs, by rw [znv]; rfl, by have := E1.size; have := E2.size; omega, hb5, by have h := ident_right hs; rw [hRr] at h ⊢; exact h⟩⟩
  ·
   have h3 := of_decide_eq_false h3;obtain ⟨n, hwn⟩ : ∃ n, n = jr f := ⟨_, rfl⟩;have hnr : (f.regs + 63).tdiv 64 = (n : Int) := by rw [hwn]; unfold jr; rw [Int.tdiv_eq_ediv_of_nonneg (by omega)]; omega
   have hn1 : n ≤ 1024 := by rw [hwn]; unfold jr; omega
   have hRn : R ≤ 64 * n := by rw [hwn]; unfold jr; omega
   have hR3 : R ≤ 3000 := by omega
   refine zt (zg (srx (za rfl (zb Tryd.underlying27 rfl sz3 (by decide) rfl (za rfl (zi Tryd.underlying3 rfl rfl B3 rfl (za rfl (qd rfl rfl (yg (by omega)) (za rfl (xb rfl rfl (by decide) (show IntKind.i64.wrap ((f.regs + 63).tdiv 64) = ((n : Nat) : Int) from by rw [hnr]; exact yg (by omega)) (anx rfl (srx (za rfl (zb Tryd.underlying27 rfl sz3 (by decide) rfl (za rfl (zi Tryd.underlying3 rfl rfl B3 rfl (za rfl (xy (n := R) Tryd.underlying52 inf55 rfl rfl rfl hRr hRr (by omega) (by omega) ?_))))))))))))))))))
   rintro go wC Bo E4 Go;refine za rfl (qh zr52 ?_);rintro g10 wD B10 E5 G10;refine zy (zj sz52 rfl rfl B10 rfl rfl (Nat.le_of_ble_eq_true rfl) ?_);rintro wE B10b E6;have hgo := Bo.lt;have hgoD : go < g10 := by omega
   have hx10 : ∀ k, k ≠ g10 → ¬ Mut [some g10] k := fun k hk hx => hk (va hx);have hs1 := E1.size;have hs2 := E2.size;have hs3 := E3.size;have hs4 := E4.size;have hs5 := E5.size;have hs6 := E6.size;have hgm1 := Bm.lt;have R0 : RowsB 55 35 w.heap.size wE go R n [] [] := RowsB.nil ((Bo.ext E5 (fun h => h.elim)).ext E6 (hx10 _ (by omega))) (by omega)
   refine rnx (zv (srx (za rfl (zw Tryd.underlying52 rfl rfl ((B10b.cell 0).trans rfl) (za rfl (qf Tryd.underlying52 rfl (mvx rfl (rnx (yf (qx (ι := Nat × List Nat × List (List Nat)) (fun (i, gs, Q) => [(1, .pointer (some ⟨g1, 0, none⟩)), (5, .slice AL f.ins.length cL), (7, .slice (some ⟨gm, 0, none⟩) R R), (9, .int .i64 ((n : Nat) : Int)), (10, .pointer (some ⟨g10, 0, none⟩)), (50, .int .i64 ((R : Nat) : Int)), (51, .int .i64 ((i : Nat) : Int))]) (fun (i, gs, Q) w' => Ext (Mut [some go]) wE w' ∧ RowsB 55 35 w.heap.size w' go R n gs Q ∧ Q = List.replicate i (List.replicate n 0) ∧ ∀ g ∈ gs, g10 < g) (fun (i, _, _) => R - i) (0, [], []) ⟨rfl, rfl, rfl, rfl, rfl, rfl, rfl, trivial⟩ (⟨Ext.refl _ _, R0, rfl, fun g h => by cases h⟩) ?_))))))))))
   rintro ⟨i, gs, Q⟩ w6 ⟨hEi, hRB, hQ, hgs⟩;have hQl : Q.length = i := by rw [hQ, List.length_replicate]
   refine srx (za rfl (yy rfl rfl (rnx (zv (zr rfl (fun hi => ?_) (fun hi => ?_))))))
   ·
    have hi := of_decide_eq_true hi;have hiR : i < R := by omega
    have B10c := B10b.ext hEi (fun h => by have := va h; omega);refine zt (zg (zv (yf (srx (mvx rfl (anx rfl ?_))))));obtain ⟨wF, hwF⟩ : ∃ wF, wF = w6 := ⟨_, rfl⟩;refine kj jj (kl 5 rfl ?_);refine vt (No) Mut.none_ [] [] (kv [Fx.of (.slice (some ⟨go, 0, none⟩) R R),
     Fx.of (.int .i64 ((i : Nat) : Int)),
     Fx.of (.int .i64 ((n : Nat) : Int)),
     ⟨Nat, fun gr => .slice (some ⟨gr, 0, none⟩) n n, fun gr b => (Blk b gr 35 (List.replicate n (.int .u64 0)).toArray ∧ wF.heap.size ≤ gr)⟩,
     Fx.of (.pointer (some ⟨go, 0 + i, none⟩))]) rfl trivial (fun _ h => by cases h) ?_ ?_
    · refine ⟨?_, ?_, ?_, ?_, ?_, trivial⟩
      · intro vs X wq K;have LE := K.1;exact zw Tryd.underlying52 rfl rfl (((ja LE B10c).cell 0).trans rfl) ⟨Below.refl _ _, Left.of rfl⟩
      · intro vs X wq K;exact zk rfl ⟨Below.refl _ _, Left.of rfl⟩
      · intro vs X wq K;exact zk rfl ⟨Below.refl _ _, Left.of rfl⟩
      · intro vs X wq K;have LE := K.1;have XN := K.2.1;obtain ⟨_, e2, k2⟩ := K.dep 2 rfl rfl rfl;refine zd 56 (.int .i64 ((n : Nat) : Int)) rfl e2 (ow_makeW (n := n) Tryd.underlying55 inf35 rfl rfl rfl rfl rfl (by omega) (by omega) ?_);intro gr w5 Bs hb Gs
        exact ⟨hb, ⟨gr, rfl, (Per.blk Bs (fun hx => by have := XN gr hx; omega)).and (fun _ _ => by rw [hwF]; exact Nat.le_trans LE.size Gs)⟩⟩
      · intro vs X wq K;obtain ⟨_, e0, k0⟩ := K.dep 0 rfl rfl rfl;refine zd 54 (.slice (some ⟨go, 0, none⟩) R R) rfl e0 ?_;obtain ⟨_, e1, k1⟩ := K.dep 1 rfl rfl rfl;refine zd 55 (.int .i64 ((i : Nat) : Int)) rfl e1 ?_;exact zm (j := i) Tryd.underlying52 zex rfl rfl rfl hiR ⟨Below.refl _ _, Left.of rfl⟩
    intro vs w7 LE AO AL AF AA;have hbd : Below (w6).heap.size (w6) w7 := (((Ext.refl No (w6)).drew).trans LE).toBelow;obtain ⟨gr, e3, k3⟩ := AL.2.2.2.1;obtain ⟨_, e4, k4⟩ := AL.2.2.2.2.1;have Wc3 := k3.here
    refine vm (τ := [(1, _), (5, _), (7, _), (9, _), (10, _), (50, _), (51, _), (57, .slice (some ⟨gr, 0, none⟩) n n), (58, .pointer (some ⟨go, 0 + i, none⟩))]) ⟨rfl, rfl, rfl, rfl, rfl, rfl, rfl, congrArg some e3, congrArg some e4, trivial⟩ ?_;clear AL AF AA AO;refine oq (jd (by kernel_rfl) (fun _ _ d_ _ _ h => by cases d_ <;> exact h) ?_);change Nat at gr
    have hbn := Ext.of_below hbd No;have hgl : gs.length = i := by rw [hRB.len, hQl]
    have hout := hRB.out.ext hbn (fun h => h.elim);refine zy (vq zex rfl rfl hout rfl rfl (by rw [List.size_toArray, outV_len (by omega)]; omega) (show _ = ((outV gs n R).set Q.length (rwV n gr)).toArray from by rw [hQl, Nat.zero_add, List.setIfInBounds_toArray]; rfl) ?_);rintro wG B9 E9;have hszi : w.heap.size ≤ wE.heap.size := by omega
    have hEis := hEi.size;have R2 := hRB.add (by rw [hQl]; exact hiR) Wc3.1 hbn (by rw [← hwF]; exact Wc3.2) (by omega) B9 E9;have hQ2 : Q ++ [List.replicate n 0] = List.replicate (i + 1) (List.replicate n 0) := by rw [hQ, List.replicate_succ']
    have hgs2 : ∀ g ∈ gs ++ [gr], g10 < g := fun g hg => by
     rcases List.mem_append.1 hg with hg | hg
     · exact hgs g hg
     · obtain rfl := List.mem_singleton.1 hg;have h1 := B10c.lt;have h2 := Wc3.2;rw [hwF] at h2;omega
    refine ye (zf (zg (zl (za rfl (qd rfl rfl (yg (by omega)) (mvx rfl (ye ?_)))))));exact yw (i + 1, gs ++ [gr], Q ++ [List.replicate n 0]) (by show R - (i + 1) < R - i; omega) ⟨rfl, rfl, rfl, rfl, rfl, rfl, rfl, trivial⟩ (⟨(hEi.step hbn (fun _ h => h.elim)).step E9 (fun i h => Or.inl h), R2, hQ2, hgs2⟩)
   ·
    have hi := of_decide_eq_false hi;have hie : i = R := by have := hRB.le; omega
    have hEis := hEi.size;have B1z := ((B3.ext E4 (fun h => h.elim)).ext E5 (fun h => h.elim)).ext E6 (hx10 _ (by have := B3.lt; omega));have B1y := B1z.ext hEi (fun h => by have := va h; have := B3.lt; omega);have B10z := B10b.ext hEi (fun h => by have := va h; omega)
    have hEb := ((((E3.mono (Y := fun k => b0 ≤ k) (fun _ h _ => h.elim)).step E4 (fun _ h => h.elim)).step E5 (fun _ h => h.elim)).step E6 (fun k hk => Or.inl (show b0 ≤ k by have := va hk; omega))).step hEi (fun k hk => Or.inl (show b0 ≤ k by have := va hk; omega));have hAz : RowsW b0 w6 AL W := hA.low (X := fun k => b0 ≤ k) ⟨hEb, fun _ h => h⟩
    have hEw : Ext (fun k => w.heap.size ≤ k) w w6 := ((E1.mono (Y := fun k => w.heap.size ≤ k) (fun _ h _ => h.elim)).step E2 (fun _ h => h.elim)).step hEb (fun k hk => Or.inl (show w.heap.size ≤ k by have : b0 ≤ k := hk; omega));have hFz : FnA n0 w6 p f := hF.low (X := fun k => w.heap.size ≤ k) ⟨hEw, fun k h => Nat.le_trans hn h⟩
    have hDz : DbT w6 := fun j y hy => Low.cell (n := w.heap.size) (X := fun k => w.heap.size ≤ k) ⟨hEw, fun _ h => h⟩ (World.block_lt_of_cell? w _ (hD j y hy)) (hD j y hy);have hdbw : 0 < w.heap.size := World.block_lt_of_cell? w _ (hD 0 0 rfl)
    refine qi (zo (zo (yd (zg (srx (za rfl (zn Tryd.underlying27 rfl xg rfl B1y rfl (mvx rfl (za rfl (zlz (xs := [.tmp 10]) rfl (za rfl (yc en20 rfl ((meets_assign hFz hs hDz hW hL hAz (by omega) (by omega) (by omega) hRn hn1 (fun h => by have := hgs _ h; omega) (fun g hg => by have := hgs g hg; omega) B10z (by rw [hQ, hie] at hRB; exact hRB)).mono ?_)))))))))))))
    rintro e w8 ⟨rfl, hXm, hJm⟩;refine ⟨_, rfl, ?_⟩;obtain ⟨C10, Q2, hQB, hQl2, hbit⟩ := hJm;have hEz : Ext (fun k => w.heap.size ≤ k) w w8 := hEw.step hXm (fun k hk => Or.inl (show w.heap.size ≤ k by have := hgs k hk; omega));have B1f := B1y.ext hXm (fun h => by have := hgs _ h; have := B3.lt; omega)
    have Bmz := (((Bm.ext E4 (fun h => h.elim)).ext E5 (fun h => h.elim)).ext E6 (hx10 _ (by omega))).ext hEi (fun h => by have := va h; omega);have Bmf := Bmz.ext hXm (fun h => by have := hgs _ h; omega);have hAf : RowsW b0 w8 AL W := hAz.low (X := fun k => k ∈ gs) ⟨hXm, fun k hk => by have := hgs k hk; omega⟩;obtain ⟨wZ, hwZ⟩ : ∃ wZ, wZ = w8 := ⟨_, rfl⟩
    rw [← hwZ] at hEz B1f Bmf hAf C10 hQB;have hXs := hXm.size;rw [← hwZ] at hXs;have hz0 : Blk wZ gm 3 (xk [] R).toArray := by rw [fillV_nil]; exact Bmf
    refine rnx (srx (za rfl (zb Tryd.underlying27 rfl sz3 (by decide) rfl (za rfl (zi Tryd.underlying3 rfl rfl (hwZ ▸ B1f) rfl (anx rfl (zv (srx (za rfl (zb Tryd.underlying27 rfl sz3 (by decide) rfl (za rfl (zi Tryd.underlying3 rfl rfl (hwZ ▸ B1f) rfl (mvx rfl (rnx (yf (zx 67 (.int .i64 ((R : Nat) : Int)) rfl ((by rw [hRr] : (.int .i64 f.regs : Value) = _)) (qx (ι := List Int × Int) (fun (ms, nn) => [(1, .pointer (some ⟨g1, 0, none⟩)), (5, .slice AL f.ins.length cL), (7, .slice (some ⟨gm, 0, none⟩) R R), (10, .pointer (some ⟨g10, 0, none⟩)), (12, .int .i64 nn), (67, .int .i64 ((R : Nat) : Int)), (68, .int .i64 ((ms.length : Nat) : Int))]) (fun (ms, nn) w' => Ext (Mut [some gm]) wZ w' ∧ Blk w' gm 3 (xk ms R).toArray ∧ Greedy f Q2 ms ∧ ms.length ≤ R ∧ f.params ≤ nn ∧ (∀ x ∈ ms, x < nn) ∧ (nn = f.params ∨ ∃ x ∈ ms, nn = x + 1)) (fun (ms, _) => R - ms.length) ([], f.params) ⟨rfl, rfl, rfl, rfl, rfl, rfl, rfl, trivial⟩ (⟨by rw [hwZ]; exact Ext.refl _ _, by rw [← hwZ]; exact hz0, Greedy.nil, Nat.zero_le _, Int.le_refl _, fun x h => (by cases h), Or.inl rfl⟩) ?_)))))))))))))))))
    rintro ⟨ms, nn⟩ w10 ⟨hEm, hBm, hG, hmR, hn1', hn2', hn3'⟩;refine srx (za rfl (yy rfl rfl (rnx (zv (zr rfl (fun hi => ?_) (fun hi => ?_))))))
    ·
     have hi := of_decide_eq_true hi;have hiR : ms.length < R := by omega
     have hg1m : g1 ≠ gm := by have := B2.lt; omega
     have B1m := B1f.ext hEm (fun h => hg1m (va h));refine zt (zg (zv (yf (srx (mvx rfl (anx rfl (zv (srx (mvx rfl (za rfl (zb Tryd.underlying27 rfl sz3 (by decide) rfl (za rfl (zi Tryd.underlying3 rfl rfl B1m rfl (za rfl (yy rfl rfl (rnx (zr rfl (fun hp => ?_) (fun hp => ?_))))))))))))))))))
     ·
      have hp := of_decide_eq_true hp
      refine srx (mvx rfl (mvx rfl (mvx rfl (za rfl (zm (j := ms.length) Tryd.underlying28 sz3 rfl rfl rfl hiR (zy (vq sz3 rfl rfl hBm rfl rfl (by rw [List.size_toArray, zyk hmR]; omega) (show _ = (xk (ms ++ [((ms.length : Nat) : Int)]) R).toArray from by rw [← zyv hiR, Nat.zero_add, List.setIfInBounds_toArray]) ?_)))))));rintro wY Bs Es
      have hG2 : Greedy f Q2 (ms ++ [((ms.length : Nat) : Int)]) := hG.add (fun _ => rfl) (fun h => absurd h (by omega));have hn4 : ∀ x ∈ ms ++ [((ms.length : Nat) : Int)], x < nn := fun x hx => by
       rcases List.mem_append.1 hx with hx | hx
       · exact hn2' x hx
       · rw [List.mem_singleton.1 hx]; omega
      have hn5 : nn = f.params ∨ ∃ x ∈ ms ++ [((ms.length : Nat) : Int)], nn = x + 1 := hn3'.imp id fun ⟨x, h1, h2⟩ => ⟨x, List.mem_append_left _ h1, h2⟩
      refine rnx (qi (zo (yd (zg (zl (za rfl (qd rfl rfl (yg (by omega)) (mvx rfl (ye (ew_set 68 (.int .i64 (((ms ++ [((ms.length : Nat) : Int)]).length : Nat) : Int)) rfl ((by rw [List.length_append]; rfl : (.int .i64 (((ms.length : Nat) : Int) + 1) : Value) = _)) ?_))))))))))
      exact yw (ms ++ [((ms.length : Nat) : Int)], nn) (by show R - (ms ++ [((ms.length : Nat) : Int)]).length < R - ms.length; rw [List.length_append, List.length_singleton]; omega) ⟨rfl, rfl, rfl, rfl, rfl, rfl, rfl, trivial⟩ (⟨hEm.step Es (fun i h => Or.inl h), Bs, hG2, by rw [List.length_append, List.length_singleton]; omega, hn1', hn4, hn5⟩)
     ·
      have hp := of_decide_eq_false hp;have hN0 : 0 < f.ins.length := List.length_pos_iff.2 hne;obtain ⟨row, hrow⟩ : ∃ row, W[0]? = some row := ⟨_, List.getElem?_eq_getElem (by rw [hW.1]; exact hN0)⟩;have hr64 := hW.2 row (List.mem_of_getElem? hrow);have hil2 : ms.length / 64 < row.length := by rw [hr64.1, ← hwn]; omega
      obtain ⟨x0, hx0⟩ : ∃ x0, row[ms.length / 64]? = some x0 := ⟨_, List.getElem?_eq_getElem hil2⟩;have hx064 := hr64.2 x0 (List.mem_of_getElem? hx0);have hAm : RowsW b0 w10 AL W := hAf.low (X := Mut [some gm]) ⟨hEm, fun k hk => by have := va hk; omega⟩;obtain ⟨gL, oL, hAL, hgL, BL, cB, hU, hcL⟩ := RowS.at hAm hrow;obtain ⟨gU, oU, hAU, hgU, hcU⟩ := hU.cell hx0
      have hbit0 : qy W 0 ms.length = x0.testBit (ms.length % 64) := by
       unfold qy jn;rw [List.getD_eq_getElem?_getD (i := 0), hrow, Option.getD_some, List.getD_eq_getElem?_getD, hx0]; rfl
      refine zt (zg (srx (anx rfl (zv (srx (mvx rfl (za rfl (zm (j := 0) Tryd.underlying52 zex (congrArg (fun z ↦ some (Value.slice z f.ins.length cL)) hAL) rfl rfl hN0 (za rfl (zw Tryd.underlying55 rfl rfl hcL (mvx rfl (za rfl (xb rfl rfl (by decide) (show IntKind.i64.wrap (((ms.length : Nat) : Int).tdiv 64) = ((ms.length / 64 : Nat) : Int) from by rw [Int.tdiv_eq_ediv_of_nonneg (by omega)]; exact yg (by omega)) (za rfl (zm (j := ms.length / 64) Tryd.underlying55 xq (congrArg (fun z ↦ some (Value.slice z row.length cB)) hAU) rfl rfl hil2 (za rfl (zw Tryd.underlying35 rfl rfl hcU (mvx rfl (za rfl (ziq rfl rfl (by decide) (show (((ms.length : Nat) : Int).tmod 64) = ((ms.length % 64 : Nat) : Int) from by rw [Int.tmod_eq_emod_of_nonneg (by omega)]; rfl) (za rfl (ow_shr rfl rfl (by omega) (zsz (by omega)) (za rfl (jz rfl rfl (xm (y := 1) (by rw [Nat.shiftRight_eq_div_pow]; exact Nat.lt_of_le_of_lt (Nat.div_le_self _ _) hx064) (by decide)) (za rfl (yl rfl rfl (rnx ?_)))))))))))))))))))))))))))
      obtain ⟨wV, hwV⟩ : ∃ wV, wV = w10 := ⟨_, rfl⟩
      refine cw_join (ι := Int) (fun least => [(1, .pointer (some ⟨g1, 0, none⟩)), (5, .slice AL f.ins.length cL), (7, .slice (some ⟨gm, 0, none⟩) R R), (10, .pointer (some ⟨g10, 0, none⟩)), (12, .int .i64 nn), (13, .int .i64 ((ms.length : Nat) : Int)), (14, .int .i64 least), (67, .int .i64 ((R : Nat) : Int)), (68, .int .i64 ((ms.length : Nat) : Int))]) (fun least w' => wV = w' ∧ (least = 0 ∨ least = f.params) ∧ (Liv f 0 ms.length → least = f.params)) ?_ ?_
      ·
       refine zr rfl (fun q7 => ?_) (fun q7 => ?_)
       ·
        rw [zdx, ← hbit0] at q7;refine zl (za rfl (zb Tryd.underlying27 rfl sz3 (by decide) rfl (za rfl (zi Tryd.underlying3 rfl rfl B1m rfl (avx rfl (ye ?_))))));exact zcv f.params ⟨rfl, rfl, rfl, rfl, rfl, rfl, rfl, rfl, rfl, trivial⟩ (⟨hwV, Or.inr rfl, fun _ => rfl⟩)
       ·
        rw [zdx, ← hbit0] at q7;have q7 : ¬ Liv f 0 ms.length := fun h => by rw [(hL 0 _).2 h] at q7; cases q7
        refine zt ?_;exact zcv 0 ⟨rfl, rfl, rfl, rfl, rfl, rfl, rfl, rfl, rfl, trivial⟩ (⟨hwV, Or.inl rfl, fun h => absurd h q7⟩)
      ·
       rintro least w12 ⟨hwv, hle0, hleL⟩;rw [hwV] at hwv;have hwv := hwv.symm;subst hwv;have hgm10 : gm < g10 := by omega
       have C10m := C10.ext hEm (fun h => by have := va h; omega);have hQm := hQB.ext hEm (fun h => by have := va h; omega) (fun g hg h => by have := va h; have := hgs g hg; omega);obtain ⟨gw, hgw, hrw, hbw, h64, hcw⟩ := hQm.get (i := ms.length) (by omega);have hin : ∀ x ∈ ms, I64 x := fun x hx => by
        obtain ⟨r, hr, e⟩ := List.getElem_of_mem hx;have := hG.le hp0 (List.getElem?_eq_getElem hr);unfold I64;omega
       have hl65 : 0 ≤ least ∧ least ≤ 65536 := by rcases hle0 with h | h <;> omega
       obtain ⟨row2, hrow2⟩ : ∃ row2, row2 = Q2.getD ms.length [] := ⟨_, rfl⟩;rw [← hrow2] at hrw hbw h64;have hrl2 : row2.length = n := h64.1;obtain ⟨NN, hNN⟩ : ∃ NN, NN = gw + gm + 1 := ⟨_, rfl⟩;refine zv (kj jj (kl 12 rfl ?_));refine vt (No) Mut.none_ [] [] (kv [Fx.of (.slice (some ⟨gm, 0, none⟩) R R),
        Fx.of (.int .i64 ((ms.length : Nat) : Int)),
        Fx.of (.slice (some ⟨go, 0, none⟩) R R),
        Fx.of (.int .i64 ((ms.length : Nat) : Int)),
        Fx.of (.pointer (some ⟨go, 0 + ms.length, none⟩)),
        Fx.of (.slice (some ⟨gw, 0, none⟩) row2.length n),
        Fx.of (.slice (some ⟨gm, 0, none⟩) R R),
        Fx.of (.int .i64 ((ms.length : Nat) : Int)),
        Fx.of (.slice (some ⟨gm, 0, none⟩) ms.length R),
        Fx.of (.int .i64 least),
        ⟨Int, fun pp => .int .i64 pp, fun pp b => (FreeP row2 ms least pp)⟩,
        Fx.of (.pointer (some ⟨gm, 0 + ms.length, none⟩))]) rfl trivial (fun _ h => by cases h) ?_ ?_
       · refine ⟨?_, ?_, ?_, ?_, ?_, ?_, ?_, ?_, ?_, ?_, ?_, ?_, trivial⟩
         · intro vs X wq K;exact zk rfl ⟨Below.refl _ _, Left.of rfl⟩
         · intro vs X wq K;exact zk rfl ⟨Below.refl _ _, Left.of rfl⟩
         · intro vs X wq K;have LE := K.1;exact zw Tryd.underlying52 rfl rfl (((ja LE C10m).cell 0).trans rfl) ⟨Below.refl _ _, Left.of rfl⟩
         · intro vs X wq K;exact zk rfl ⟨Below.refl _ _, Left.of rfl⟩
         · intro vs X wq K;obtain ⟨_, e2, k2⟩ := K.dep 2 rfl rfl rfl;refine zd 95 (.slice (some ⟨go, 0, none⟩) R R) rfl e2 ?_;obtain ⟨_, e3, k3⟩ := K.dep 3 rfl rfl rfl;refine zd 96 (.int .i64 ((ms.length : Nat) : Int)) rfl e3 ?_;exact zm (j := ms.length) Tryd.underlying52 zex rfl rfl rfl hiR ⟨Below.refl _ _, Left.of rfl⟩
         · intro vs X wq K;have LE := K.1;obtain ⟨_, e4, k4⟩ := K.dep 4 rfl rfl rfl;refine zd 97 (.pointer (some ⟨go, 0 + ms.length, none⟩)) rfl e4 ?_;exact zw Tryd.underlying55 rfl rfl (by rw [Nat.zero_add, hrl2]; exact kc LE hcw) ⟨Below.refl _ _, Left.of rfl⟩
         · intro vs X wq K;exact zk rfl ⟨Below.refl _ _, Left.of rfl⟩
         · intro vs X wq K;exact zk rfl ⟨Below.refl _ _, Left.of rfl⟩
         · intro vs X wq K;obtain ⟨_, e6, k6⟩ := K.dep 6 rfl rfl rfl;refine zd 99 (.slice (some ⟨gm, 0, none⟩) R R) rfl e6 ?_;obtain ⟨_, e7, k7⟩ := K.dep 7 rfl rfl rfl;refine zd 100 (.int .i64 ((ms.length : Nat) : Int)) rfl e7 ?_;exact ow_sliceH Tryd.underlying28 sz3 rfl rfl rfl (by omega) ⟨Below.refl _ _, Left.of rfl⟩
         · intro vs X wq K;exact zk rfl ⟨Below.refl _ _, Left.of rfl⟩
         · intro vs X wq K;have LE := K.1;obtain ⟨_, e5, k5⟩ := K.dep 5 rfl rfl rfl;refine zd 98 (.slice (some ⟨gw, 0, none⟩) row2.length n) rfl e5 ?_;obtain ⟨_, e8, k8⟩ := K.dep 8 rfl rfl rfl;refine zd 101 (.slice (some ⟨gm, 0, none⟩) ms.length R) rfl e8 ?_;obtain ⟨_, e9, k9⟩ := K.dep 9 rfl rfl rfl
           refine zd 102 (.int .i64 least) rfl e9 (yc en26 rfl ((free_any _ _ _ n R NN row2 ms (u64_blk (ja LE hbw) h64 hn1 (by omega)) (ints_fill (ja LE hBm) (by omega) hin (by omega)) least hl65.1 hl65.2 (by rw [hrl2]; omega)).mono ?_));rintro e w2 ⟨pp, rfl, hFP, hb⟩;exact ⟨_, rfl, hb, ⟨pp, rfl, (fun _ _ => hFP)⟩⟩
         · intro vs X wq K;obtain ⟨_, e0, k0⟩ := K.dep 0 rfl rfl rfl;refine zd 93 (.slice (some ⟨gm, 0, none⟩) R R) rfl e0 ?_;obtain ⟨_, e1, k1⟩ := K.dep 1 rfl rfl rfl;refine zd 94 (.int .i64 ((ms.length : Nat) : Int)) rfl e1 ?_;exact zm (j := ms.length) Tryd.underlying28 sz3 rfl rfl rfl hiR ⟨Below.refl _ _, Left.of rfl⟩
       intro vs w13 LE AO AL AF AA;have hbd : Below (w12).heap.size (w12) w13 := (((Ext.refl No (w12)).drew).trans LE).toBelow;obtain ⟨pp, e10, k10⟩ := AL.2.2.2.2.2.2.2.2.2.2.1;obtain ⟨_, e11, k11⟩ := AL.2.2.2.2.2.2.2.2.2.2.2.1;have Wc10 := k10.here
       refine vm (τ := [(1, _), (5, _), (7, _), (10, _), (12, _), (13, _), (67, _), (68, _), (103, .int .i64 pp), (104, .pointer (some ⟨gm, 0 + ms.length, none⟩))]) ⟨rfl, rfl, rfl, rfl, rfl, rfl, rfl, rfl, congrArg some e10, congrArg some e11, trivial⟩ ?_;clear AL AF AA AO;refine oq (jd (by kernel_rfl) (fun _ _ d_ _ _ h => by cases d_ <;> exact h) ?_);change Int at pp
       have hbn := Ext.of_below hbd No;have hBm2 := hBm.ext hbn (fun h => h.elim);refine zy (vq sz3 rfl rfl hBm2 rfl rfl (by rw [List.size_toArray, zyk hmR]; omega) (show _ = (xk (ms ++ [pp]) R).toArray from by rw [← zyv hiR, Nat.zero_add, List.setIfInBounds_toArray]) ?_);rintro wY Bs Es;have hFP : FreeP row2 ms least pp := Wc10
       have hG2 : Greedy f Q2 (ms ++ [pp]) := hG.add (fun h => absurd h (by omega)) (fun _ => ⟨least, hle0, hleL, hrow2 ▸ hFP⟩);have hpa : (ms ++ [pp])[ms.length]? = some pp := by simp
       have hpb := hG2.le hp0 hpa;refine rnx (zl (mvx rfl (mvx rfl (mvx rfl (za rfl (zm (j := ms.length) Tryd.underlying28 sz3 rfl rfl rfl hiR (za rfl (zi Tryd.underlying3 rfl rfl Bs (by rw [Nat.zero_add, List.getElem?_toArray]; exact fillV_at hpa) ?_))))))));obtain ⟨mx, hmx⟩ : ∃ mx, mx = if pp + 1 > nn then pp + 1 else nn := ⟨_, rfl⟩
       refine za rfl (qd rfl rfl (yg (by omega)) (za rfl (ow_max rfl rfl (avx rfl (ye (zf (zg (zl (za rfl (qd rfl rfl (yg (by omega)) (mvx rfl (ye (ew_set 12 (.int .i64 mx) rfl ((by rw [hmx] : (.int .i64 (if pp + 1 > nn then pp + 1 else nn) : Value) = _)) (ew_set 68 (.int .i64 (((ms ++ [pp]).length : Nat) : Int)) rfl ((by rw [List.length_append]; rfl : (.int .i64 (((ms.length : Nat) : Int) + 1) : Value) = _)) ?_))))))))))))))
       have hmx1 : nn ≤ mx ∧ pp < mx ∧ (mx = nn ∨ mx = pp + 1) := by rw [hmx]; split <;> omega
       have hn4 : ∀ x ∈ ms ++ [pp], x < mx := fun x hx => by
        rcases List.mem_append.1 hx with hx | hx
        · have := hn2' x hx; omega
        · rw [List.mem_singleton.1 hx]; omega
       have hn5 : mx = f.params ∨ ∃ x ∈ ms ++ [pp], mx = x + 1 := by
        rcases hmx1.2.2 with h | h
        · rw [h];exact hn3'.imp id fun ⟨x, h1, h2⟩ => ⟨x, List.mem_append_left _ h1, h2⟩
        · exact Or.inr ⟨pp, by simp, h⟩
       exact yw (ms ++ [pp], mx) (by show R - (ms ++ [pp]).length < R - ms.length; rw [List.length_append, List.length_singleton]; omega) ⟨rfl, rfl, rfl, rfl, rfl, rfl, rfl, trivial⟩ (⟨(hEm.step hbn (fun _ h => h.elim)).step Es (fun i h => Or.inl h), Bs, hG2, by rw [List.length_append, List.length_singleton]; omega, by omega, hn4, hn5⟩)
    ·
     have hi := of_decide_eq_false hi;have hme : ms.length = R := by omega
     rw [fillV_full hme] at hBm;have hfin : Ext (fun k => w.heap.size ≤ k) w w10 := hEz.step hEm (fun k hk => Or.inl (show w.heap.size ≤ k by have := va hk; omega));refine qi (zo (zo (yd (zg (srx (mvx rfl (mvx rfl (avx rfl (avx rfl (anx rfl (zq (zp (rs := [.tmp 2, .tmp 3, .tmp 4]) (vs := [_, _, _]) rfl ⟨rfl, rfl, rfl, trivial⟩ ?_))))))))))))
     exact ⟨hfin.below (fun _ h => h), fun h => (by rw [hs] at h; cases h), fun _ => ⟨gm, ms, nn, by rw [hme]; rfl, by omega, hBm, greedy_right hs hbit hG (by omega) hn1' hn2' hn3'⟩⟩
 ·
  have hs : qq f = false := by simpa using hs
  refine za rfl (yc en19 rfl ((live_no hFA hs).mono ?_));rintro e w14 ⟨rfl, hb⟩
  refine ⟨_, rfl, (mvx rfl (za rfl (vi rfl rfl (za rfl (vi rfl rfl (avx rfl (anx rfl (zv (srx (mvx rfl (za rfl (vc rfl rfl (rnx (yp rfl (srx (mvx rfl (avx rfl (avx rfl (anx rfl (zq (ze (zp (rs := [.tmp 2, .tmp 3, .tmp 4]) (vs := [_, _, _]) rfl ⟨rfl, rfl, rfl, trivial⟩ ?_))))))))))))))))))))))⟩
  exact ⟨E1.toBelow.trans (hb.mono E1.size), fun _ => rfl, fun h => by rw [hs] at h; cases h⟩
end
end Go.Proofs.YtppdgjlmeahimaaDoor
namespace Go.Proofs.YtppdgjlmeahimaaDoor
open Go.RowKit
set_option maxRecDepth 100000
attribute [local irreducible] OW RS
theorem right3 {w : World} {p : Pl} {n g : Nat} {a b c : Int} {r : Bool} (hF : FnA n w p thrF) (hb : Blk w g 3 #[.int .i64 a, .int .i64 b, .int .i64 c]) (hi : I64 a ∧ I64 b ∧ I64 c) (hr : r = true ↔     xn thrF [a, b, c] 2) (hD : DbT w) :
 Calls Tryd.prog 9 #[fnV p thrF, .slice (some ⟨g, 0, none⟩) 3 3, .int .i64 2] w fun e w' => e = .returned (.bool r) ∧ Below w.heap.size w w' :=
 (right_any w p thrF n hF (some ⟨g, 0, none⟩) 3 w.heap.size [a, b, c] (        yaq (xs := [a, b, c]) hb hb.lt (by show 8 * 3 ≤ 140737488355000; decide) (fun x hx => by
  simp only [List.mem_cons, List.not_mem_nil, or_false] at hx
  rcases hx with rfl | rfl | rfl
  · exact hi.1
  · exact hi.2.1
  · exact hi.2.2)) 2 (by decide) (Nat.le_refl _) hD).mono fun e w' ⟨q, he, hq, hb⟩ => by
  obtain rfl : q = r := by
   cases q <;> cases r
   · rfl
   · exact absurd (hq.2 (hr.1 rfl)) (by decide)
   · exact absurd (hr.2 (hq.1 rfl)) (by decide)
   · rfl
  exact ⟨he, hb⟩
theorem assign3 {w : World} {p : Pl} {n : Nat} (hF : FnA n w p thrF) (hD : DbT w) : Calls Tryd.prog 11 #[fnV p thrF] w fun e w' => ∃ gm x y z m, e = .returned (.tuple #[.slice (some ⟨gm, 0, none⟩) 3 3, .int .i64 m, .int .i64 0]) ∧ Blk w' gm 3 #[.int .i64 x, .int .i64 y, .int .i64 z] ∧ (x != y) = true ∧ 2 ≤ m ∧ Below w.heap.size w w' :=
 (       zrz w p thrF n hF hD).mono fun e w' ⟨hb, _, h⟩ => by
  obtain ⟨gm, ms, m, he, _, hbm, hR⟩ := h thr_sound;obtain ⟨h3, h2, x, y, hx, hy, hxy⟩ := thr_any hR;match ms, h3 with
  | [a, b, c], _ =>
   obtain rfl := Option.some.inj hx;obtain rfl := Option.some.inj hy;exact ⟨gm, _, _, c, m, he, hbm, bne_iff_ne.2 hxy, h2, hb⟩
theorem known_any (w : World) (hD : DbT w) : Calls Tryd.prog 8 #[] w fun e w' => e = .returned (.bool true) ∧ Below w.heap.size w w' := by
 refine qo Tryd.func8 rfl Tryd.ntmps8 rfl ?_;have HF : Per (No) w (fun _ => True) := Per.true_;have LW := erx (No) w;have XLW := grx (No) w;have E := erx (No) w;replace HF := HF.on E;replace LW := LW.step E XLW;replace E := erx (No) w;replace HF := HF.and (Per.dbT hD (fun _ h => h.elim));refine srx (anx rfl (srx (za rfl (yc en18 rfl ((zwk _).mono ?_)))))
 rintro e w1 ⟨h3, h5, rfl, h0, _, _, hb⟩;refine ⟨_, rfl, ?_⟩;replace E := blx E hb;replace HF := HF.on E;replace LW := LW.step E XLW;replace E := erx (No) w1;replace HF := HF.and (Per.thrB h0 (fun h => h.elim) (fun h => h.elim));refine za rfl (yc en11 rfl ((assign3 (ThrB.fn (HF.on E).here.2) (HF.on E).here.1.2).mono ?_));rintro e w2 ⟨gm, x, y, z, m, rfl, hbm, hxy, hm2, hb⟩
 refine ⟨_, rfl, ?_⟩;replace E := blx E hb;replace HF := HF.on E;replace LW := LW.step E XLW;replace E := erx (No) w2;replace HF := HF.and (Per.blkN hbm NotIn.nil);refine mvx rfl (za rfl (vi rfl rfl (za rfl (vi rfl rfl (za rfl (vi rfl rfl (avx rfl (avx rfl (anx rfl (zv ?_))))))))))
 have OY : ∀ q9, (Mut (zik [])) q9 → q9 < (World.drew w2).heap.size → (No) q9 := fun k h _ => (Mut.none_) k h;refine kz (No) Mut.none_ [] [] (kv [Fx.of (.int .i64 0),
  Fx.of (.bool true),
  Fx.of (.bool true),
  Fx.of (.slice (some ⟨gm, 0, none⟩) 3 3),
  Fx.of (.int .i64 3),
  Fx.of (.bool true),
  Fx.of (.bool true),
  Fx.of (.bool true),
  Fx.of (.slice (some ⟨gm, 0, none⟩) 3 3),
  Fx.of (.pointer (some ⟨gm, 0 + 0, none⟩)),
  Fx.of (.int .i64 x),
  Fx.of (.slice (some ⟨gm, 0, none⟩) 3 3),
  Fx.of (.pointer (some ⟨gm, 0 + 1, none⟩)),
  Fx.of (.int .i64 y),
  Fx.of (.bool true),
  Fx.of (.bool true),
  Fx.of (.bool true),
  Fx.of (.int .i64 m),
  Fx.of (.bool true),
  Fx.of (.bool true),
  Fx.of (.bool true),
  ⟨(Nat × Nat), fun (p1, n1) => fnV (thrP p1 n1) thrF, fun (p1, n1) b => (ThrB b p1 n1)⟩,
  ⟨Nat, fun g1 => .slice (some ⟨g1, 0, none⟩) 3 3, fun g1 b => (Blk b g1 3 #[.int .i64 0, .int .i64 1, .int .i64 0])⟩,
  Fx.of (.bool true),
  Fx.of (.bool true),
  Fx.of (.bool true),
  ⟨(Nat × Nat), fun (p2, n2) => fnV (thrP p2 n2) thrF, fun (p2, n2) b => (ThrB b p2 n2)⟩,
  ⟨Nat, fun g2 => .slice (some ⟨g2, 0, none⟩) 3 3, fun g2 b => (Blk b g2 3 #[.int .i64 0, .int .i64 0, .int .i64 1])⟩,
  Fx.of (.bool false),
  Fx.of (.bool true),
  Fx.of (.bool true),
  Fx.of (.bool true)]) jj rfl trivial (fun _ h => by cases h) ?_ ?_
 · refine ⟨?_, ?_, ?_, ?_, ?_, ?_, ?_, ?_, ?_, ?_, ?_, ?_, ?_, ?_, ?_, ?_, ?_, ?_, ?_, ?_, ?_, ?_, ?_, ?_, ?_, ?_, ?_, ?_, ?_, ?_, ?_, ?_, trivial⟩
   · intro vs X wq K;exact zk rfl ⟨Below.refl _ _, Left.of rfl⟩
   · intro vs X wq K;obtain ⟨_, e0, k0⟩ := K.dep 0 rfl rfl rfl;refine zd 10 (.int .i64 0) rfl e0 ?_;exact yl rfl rfl ⟨Below.refl _ _, Left.of rfl⟩
   · intro vs X wq K;obtain ⟨_, e1, k1⟩ := K.dep 1 rfl rfl rfl;refine zd 11 (.bool true) rfl e1 ?_;exact zk rfl ⟨Below.refl _ _, Left.of rfl⟩
   · intro vs X wq K;obtain ⟨_, e2, k2⟩ := K.dep 2 rfl rfl rfl;refine zd 12 (.bool true) rfl e2 ?_;exact qj rfl (zk rfl ⟨Below.refl _ _, Left.of rfl⟩)
   · intro vs X wq K;obtain ⟨_, e3, k3⟩ := K.dep 3 rfl rfl rfl;refine zd 13 (.slice (some ⟨gm, 0, none⟩) 3 3) rfl e3 ?_;obtain ⟨_, e2, k2⟩ := K.dep 2 rfl rfl rfl;refine zd 12 (.bool true) rfl e2 ?_;exact qj rfl (qf Tryd.underlying28 rfl ⟨Below.refl _ _, Left.of (by kernel_rfl : (.int .i64 (3 : Nat) : Value) = _)⟩)
   · intro vs X wq K;obtain ⟨_, e4, k4⟩ := K.dep 4 rfl rfl rfl;refine zd 14 (.int .i64 3) rfl e4 ?_;obtain ⟨_, e2, k2⟩ := K.dep 2 rfl rfl rfl;refine zd 12 (.bool true) rfl e2 ?_;exact qj rfl (yl rfl rfl ⟨Below.refl _ _, Left.of rfl⟩)
   · intro vs X wq K;obtain ⟨_, e2, k2⟩ := K.dep 2 rfl rfl rfl;refine zd 12 (.bool true) rfl e2 ?_;obtain ⟨_, e5, k5⟩ := K.dep 5 rfl rfl rfl;refine zd 15 (.bool true) rfl e5 ?_;exact zu rfl rfl ⟨Below.refl _ _, Left.of rfl⟩
   · intro vs X wq K;obtain ⟨_, e6, k6⟩ := K.dep 6 rfl rfl rfl;refine zd 16 (.bool true) rfl e6 ?_;exact zk rfl ⟨Below.refl _ _, Left.of rfl⟩
   · intro vs X wq K;obtain ⟨_, e7, k7⟩ := K.dep 7 rfl rfl rfl;refine zd 17 (.bool true) rfl e7 ?_;exact qj rfl (zk rfl ⟨Below.refl _ _, Left.of rfl⟩)
   · intro vs X wq K;obtain ⟨_, e8, k8⟩ := K.dep 8 rfl rfl rfl;refine zd 18 (.slice (some ⟨gm, 0, none⟩) 3 3) rfl e8 ?_;obtain ⟨_, e7, k7⟩ := K.dep 7 rfl rfl rfl;refine zd 17 (.bool true) rfl e7 ?_;exact qj rfl (zm (j := 0) Tryd.underlying28 sz3 rfl rfl rfl (by decide) ⟨Below.refl _ _, Left.of rfl⟩)
   · intro vs X wq K;have LE := K.1;obtain ⟨_, e9, k9⟩ := K.dep 9 rfl rfl rfl;refine zd 19 (.pointer (some ⟨gm, 0 + 0, none⟩)) rfl e9 ?_;obtain ⟨_, e7, k7⟩ := K.dep 7 rfl rfl rfl;refine zd 17 (.bool true) rfl e7 ?_;exact qj rfl (zw Tryd.underlying3 rfl rfl ((((HF.on (E.drew.trans (LE.mono OY))).here.2).cell 0).trans rfl) ⟨Below.refl _ _, Left.of rfl⟩)
   · intro vs X wq K;obtain ⟨_, e7, k7⟩ := K.dep 7 rfl rfl rfl;refine zd 17 (.bool true) rfl e7 ?_;exact qj rfl (zk rfl ⟨Below.refl _ _, Left.of rfl⟩)
   · intro vs X wq K;obtain ⟨_, e11, k11⟩ := K.dep 11 rfl rfl rfl;refine zd 21 (.slice (some ⟨gm, 0, none⟩) 3 3) rfl e11 ?_;obtain ⟨_, e7, k7⟩ := K.dep 7 rfl rfl rfl;refine zd 17 (.bool true) rfl e7 ?_;exact qj rfl (zm (j := 1) Tryd.underlying28 sz3 rfl rfl rfl (by decide) ⟨Below.refl _ _, Left.of rfl⟩)
   · intro vs X wq K;have LE := K.1;obtain ⟨_, e12, k12⟩ := K.dep 12 rfl rfl rfl;refine zd 22 (.pointer (some ⟨gm, 0 + 1, none⟩)) rfl e12 ?_;obtain ⟨_, e7, k7⟩ := K.dep 7 rfl rfl rfl;refine zd 17 (.bool true) rfl e7 ?_;exact qj rfl (zw Tryd.underlying3 rfl rfl ((((HF.on (E.drew.trans (LE.mono OY))).here.2).cell 1).trans rfl) ⟨Below.refl _ _, Left.of rfl⟩)
   · intro vs X wq K;obtain ⟨_, e10, k10⟩ := K.dep 10 rfl rfl rfl;refine zd 20 (.int .i64 x) rfl e10 ?_;obtain ⟨_, e13, k13⟩ := K.dep 13 rfl rfl rfl;refine zd 23 (.int .i64 y) rfl e13 ?_;obtain ⟨_, e7, k7⟩ := K.dep 7 rfl rfl rfl;refine zd 17 (.bool true) rfl e7 ?_;exact qj rfl (vc rfl rfl ⟨Below.refl _ _, Left.of ((by rw [hxy] : (.bool (x != y) : Value) = _))⟩)
   · intro vs X wq K;obtain ⟨_, e7, k7⟩ := K.dep 7 rfl rfl rfl;refine zd 17 (.bool true) rfl e7 ?_;obtain ⟨_, e14, k14⟩ := K.dep 14 rfl rfl rfl;refine zd 24 (.bool true) rfl e14 ?_;exact zu rfl rfl ⟨Below.refl _ _, Left.of rfl⟩
   · intro vs X wq K;obtain ⟨_, e15, k15⟩ := K.dep 15 rfl rfl rfl;refine zd 25 (.bool true) rfl e15 ?_;exact zk rfl ⟨Below.refl _ _, Left.of rfl⟩
   · intro vs X wq K;obtain ⟨_, e16, k16⟩ := K.dep 16 rfl rfl rfl;refine zd 26 (.bool true) rfl e16 ?_;exact qj rfl (zk rfl ⟨Below.refl _ _, Left.of rfl⟩)
   · intro vs X wq K;obtain ⟨_, e17, k17⟩ := K.dep 17 rfl rfl rfl;refine zd 27 (.int .i64 m) rfl e17 ?_;obtain ⟨_, e16, k16⟩ := K.dep 16 rfl rfl rfl;refine zd 26 (.bool true) rfl e16 ?_;exact qj rfl (vu rfl rfl ⟨Below.refl _ _, Left.of ((by rw [decide_eq_true hm2] : (.bool (decide (2 ≤ m)) : Value) = _))⟩)
   · intro vs X wq K;obtain ⟨_, e16, k16⟩ := K.dep 16 rfl rfl rfl;refine zd 26 (.bool true) rfl e16 ?_;obtain ⟨_, e18, k18⟩ := K.dep 18 rfl rfl rfl;refine zd 28 (.bool true) rfl e18 ?_;exact zu rfl rfl ⟨Below.refl _ _, Left.of rfl⟩
   · intro vs X wq K;obtain ⟨_, e19, k19⟩ := K.dep 19 rfl rfl rfl;refine zd 29 (.bool true) rfl e19 ?_;exact zk rfl ⟨Below.refl _ _, Left.of rfl⟩
   · intro vs X wq K;have XN := K.2.1;obtain ⟨_, e20, k20⟩ := K.dep 20 rfl rfl rfl;refine zd 30 (.bool true) rfl e20 (qj rfl (yc en18 rfl ((zwk _).mono ?_)));rintro e w2 ⟨p1, n1, rfl, h1, h2, h3, hb⟩;exact ⟨_, rfl, hb, ⟨(p1, n1), rfl, Per.thrB h1 (fun hx => by have := XN p1 hx; omega) (fun hx => by have := XN n1 hx; omega)⟩⟩
   · intro vs X wq K;have XN := K.2.1;obtain ⟨_, e20, k20⟩ := K.dep 20 rfl rfl rfl;refine zd 30 (.bool true) rfl e20 (qj rfl (qk (cs := #[.int .i64 0, .int .i64 1, .int .i64 0]) Tryd.underlying28 sz3 zr3 (by decide) rfl (by rw [ym]; rfl) ?_));intro g1 w5 Bs hb Gs;exact ⟨hb, ⟨g1, rfl, Per.blk Bs (fun hx => by have := XN g1 hx; omega)⟩⟩
   · intro vs X wq K;have LE := K.1;obtain ⟨⟨p1, n1⟩, e21, k21⟩ := K.dep 21 rfl rfl rfl;refine zd 31 (fnV (thrP p1 n1) thrF) rfl e21 ?_;obtain ⟨g1, e22, k22⟩ := K.dep 22 rfl rfl rfl;refine zd 32 (.slice (some ⟨g1, 0, none⟩) 3 3) rfl e22 ?_;obtain ⟨_, e20, k20⟩ := K.dep 20 rfl rfl rfl
     refine zd 30 (.bool true) rfl e20 (qj rfl (yc en9 rfl ((right3 (ThrB.fn k21.here) k22.here (by decide) (r := true) ⟨fun _ => thr_yes, fun _ => rfl⟩ (HF.on (E.drew.trans (LE.mono OY))).here.1.1.2).mono ?_)));rintro e w2 ⟨rfl, hb⟩;exact ⟨_, rfl, hb, Left.of rfl⟩
   · intro vs X wq K;obtain ⟨_, e20, k20⟩ := K.dep 20 rfl rfl rfl;refine zd 30 (.bool true) rfl e20 ?_;obtain ⟨_, e23, k23⟩ := K.dep 23 rfl rfl rfl;refine zd 33 (.bool true) rfl e23 ?_;exact zu rfl rfl ⟨Below.refl _ _, Left.of rfl⟩
   · intro vs X wq K;obtain ⟨_, e24, k24⟩ := K.dep 24 rfl rfl rfl;refine zd 34 (.bool true) rfl e24 ?_;exact zk rfl ⟨Below.refl _ _, Left.of rfl⟩
   · intro vs X wq K;have XN := K.2.1;obtain ⟨_, e25, k25⟩ := K.dep 25 rfl rfl rfl;refine zd 35 (.bool true) rfl e25 (qj rfl (yc en18 rfl ((zwk _).mono ?_)));rintro e w2 ⟨p2, n2, rfl, h1, h2, h3, hb⟩;exact ⟨_, rfl, hb, ⟨(p2, n2), rfl, Per.thrB h1 (fun hx => by have := XN p2 hx; omega) (fun hx => by have := XN n2 hx; omega)⟩⟩
   · intro vs X wq K;have XN := K.2.1;obtain ⟨_, e25, k25⟩ := K.dep 25 rfl rfl rfl;refine zd 35 (.bool true) rfl e25 (qj rfl (qk (cs := #[.int .i64 0, .int .i64 0, .int .i64 1]) Tryd.underlying28 sz3 zr3 (by decide) rfl (by rw [ym]; rfl) ?_));intro g2 w5 Bs hb Gs;exact ⟨hb, ⟨g2, rfl, Per.blk Bs (fun hx => by have := XN g2 hx; omega)⟩⟩
   · intro vs X wq K;have LE := K.1;obtain ⟨⟨p2, n2⟩, e26, k26⟩ := K.dep 26 rfl rfl rfl;refine zd 36 (fnV (thrP p2 n2) thrF) rfl e26 ?_;obtain ⟨g2, e27, k27⟩ := K.dep 27 rfl rfl rfl;refine zd 37 (.slice (some ⟨g2, 0, none⟩) 3 3) rfl e27 ?_;obtain ⟨_, e25, k25⟩ := K.dep 25 rfl rfl rfl
     refine zd 35 (.bool true) rfl e25 (qj rfl (yc en9 rfl ((right3 (ThrB.fn k26.here) k27.here (by decide) (r := false) ⟨fun h => (by cases h), fun h => absurd h thr_no⟩ (HF.on (E.drew.trans (LE.mono OY))).here.1.1.2).mono ?_)));rintro e w2 ⟨rfl, hb⟩;exact ⟨_, rfl, hb, Left.of rfl⟩
   · intro vs X wq K;obtain ⟨_, e28, k28⟩ := K.dep 28 rfl rfl rfl;refine zd 38 (.bool false) rfl e28 ?_;obtain ⟨_, e25, k25⟩ := K.dep 25 rfl rfl rfl;refine zd 35 (.bool true) rfl e25 ?_;exact qj rfl (jc rfl ⟨Below.refl _ _, Left.of rfl⟩)
   · intro vs X wq K;obtain ⟨_, e25, k25⟩ := K.dep 25 rfl rfl rfl;refine zd 35 (.bool true) rfl e25 ?_;obtain ⟨_, e29, k29⟩ := K.dep 29 rfl rfl rfl;refine zd 39 (.bool true) rfl e29 ?_;exact zu rfl rfl ⟨Below.refl _ _, Left.of rfl⟩
   · intro vs X wq K;obtain ⟨_, e30, k30⟩ := K.dep 30 rfl rfl rfl;refine zd 40 (.bool true) rfl e30 ?_;exact qp rfl ⟨Below.refl _ _, Left.of rfl⟩
 intro vs w3 LE AO AL AF AA;replace E := E.drew.trans (LE.mono OY);obtain ⟨_, e31, k31⟩ := AL.2.2.2.2.2.2.2.2.2.2.2.2.2.2.2.2.2.2.2.2.2.2.2.2.2.2.2.2.2.2.2.1;refine vm (τ := [(0, .bool true)]) ⟨congrArg some e31, trivial⟩ ?_;clear AL AF AA LE AO OY e31 k31;refine zg (zq (zp (rs := [.tmp 0]) (vs := [_]) rfl ⟨rfl, trivial⟩ ?_));exact ⟨rfl, (LW.step E XLW).toBelow⟩
end Go.Proofs.YtppdgjlmeahimaaDoor
namespace Go.Proofs.YtppdgjlmeahimaaDoor
open Go.RowKit
set_option maxRecDepth 100000
attribute [local irreducible] OW RS
noncomputable def rightB (f : LFn) (m : List Int) (n : Int) : Bool := @decide (xn f m n) (Classical.propDecidable _)
theorem assign_no {w : World} {p : Pl} {f : LFn} {n0 : Nat} (hs : qq f = false) (hF : FnA n0 w p f) (hD : DbT w) : Calls Tryd.prog 11 #[fnV p f] w fun e w' => e = .returned (.tuple #[.slice none 0 0, .int .i64 0, .int .i64 3]) ∧ Below w.heap.size w w' :=
 (zrz w p f n0 hF hD).mono fun _ _ ⟨hb, h, _⟩ => ⟨h hs, hb⟩
theorem assign_yes {w : World} {p : Pl} {f : LFn} {n0 : Nat} (hs :     qq f = true) (hF : FnA n0 w p f) (hD : DbT w) : Calls Tryd.prog 11 #[fnV p f] w fun e w' => ∃ gm ms n, e = .returned (.tuple #[.slice (some ⟨gm, 0, none⟩) ms.length ms.length, .int .i64 n, .int .i64 0]) ∧ Blk w' gm 3 (   yz ms).toArray ∧ (8 * ms.length ≤ 140737488355000 ∧ ∀ x ∈ ms, I64 x) ∧ I64 n ∧     xn f ms n ∧ Below w.heap.size w w' :=
 (       zrz w p f n0 hF hD).mono fun e w' ⟨hb, _, h⟩ => by
  obtain ⟨gm, ms, n, he, _, hbm, hR⟩ := h hs;obtain ⟨hr0, hr1, hp0, hp1, hne⟩ :=         jl hs;have hl := hR.2.1;have h1 := hR.2.2.1;have h2 := hR.2.2.2.1;refine ⟨gm, ms, n, he, hbm, ⟨by omega, fun x hx => ?_⟩, by unfold I64; omega, hR, hb⟩;obtain ⟨r, hr⟩ := List.mem_iff_getElem?.1 hx;have := hR.2.2.2.2.1 r x hr;unfold I64;omega
section
variable (w : World) (p : Pl) (f : LFn) (n0 : Nat) (hF : FnA n0 w p f) (hbk : (f.ins.map fun x => x.l.length + 1).sum ≤ 1048576) (hD : DbT w)
include hF hbk hD
theorem assigns_law : Calls Tryd.prog 4 #[fnV p f] w fun e w' => e = .returned (.bool true) ∧ Below w.heap.size w w' := by
 refine qo Tryd.func4 rfl Tryd.ntmps4 rfl (srx (za rfl (vn rfl ?_)));rintro g1 wA B1 E1 G1;have hF1 := hF.low (X := No) ⟨E1, fun _ h => h.elim⟩;have hD1 : DbT wA := Per.dbT hD (X := No) (fun _ h => h.elim) wA E1;refine anx rfl (zv (srx (za rfl (yc en8 rfl ((known_any _ hD1).mono ?_)))));rintro e w1 ⟨rfl, hb⟩;refine ⟨_, rfl, ?_⟩;have E2 := Ext.of_below hb No
 have B2 := B1.ext E2 (fun h => h.elim);have hF2 := hF1.low (X := No) ⟨E2, fun _ h => h.elim⟩;have hD2 : DbT w1 := Per.dbT hD1 (X := No) (fun _ h => h.elim) _ E2;refine za rfl (jc rfl (rnx (qn rfl (zt (zg (srx (za rfl (zn Tryd.underlying27 rfl xg rfl B2 rfl ?_))))))));by_cases hs : qq f = true
 ·
  refine za rfl (yc en11 rfl ((assign_yes hs hF2 hD2).mono ?_));rintro e w2 ⟨gm, ms, n, rfl, hbm, hi64, hn64, hR, hb⟩;refine ⟨_, rfl, ?_⟩;have E3 := Ext.of_below hb No;have B3 := B2.ext E3 (fun h => h.elim);have hF3 := hF2.low (X := No) ⟨E3, fun _ h => h.elim⟩
  refine mvx rfl (za rfl (vi rfl rfl (za rfl (vi rfl rfl (za rfl (vi rfl rfl (avx rfl (avx rfl (anx rfl (zv (srx (za rfl (zn Tryd.underlying27 rfl xg rfl B3 rfl (za rfl (yc en12 rfl ((zqx _ p f n0 hF3).mono ?_))))))))))))))));rintro e w3 ⟨rfl, hb⟩;refine ⟨_, rfl, ?_⟩;have E4 := Ext.of_below hb No
  have B4 := B3.ext E4 (fun h => h.elim);have hF4 := hF3.low (X := No) ⟨E4, fun _ h => h.elim⟩;have hbm4 := hbm.ext E4 (fun h => h.elim)
  refine qs 15 (.bool true) rfl ((by rw [hs] : (.bool (qq f) : Value) = _)) (za rfl (jc rfl (rnx (qn rfl (zt (zg (srx (mvx rfl (za rfl (yl rfl rfl (mvx rfl (onx rfl (zn Tryd.underlying27 rfl xg rfl B4 rfl (onx rfl (zk rfl (onx rfl (zk rfl (onx rfl (yc en10 rfl ((rright_any _ p f n0 hF4 hbk (some ⟨gm, 0, none⟩) ms.length _ ms (yaq hbm4 hbm4.lt hi64.1 hi64.2) n (Nat.le_refl _)).mono ?_))))))))))))))))))))
  rintro e w4 ⟨b, rfl, hb2, hb⟩;refine ⟨_, rfl, (qs 34 (.bool true) rfl ((by rw [hb2.2 hR] : (.bool b : Value) = _)) (za rfl (zu rfl rfl (anx rfl (zq (zp (rs := [.tmp 2]) (vs := [_]) rfl ⟨rfl, trivial⟩ ?_))))))⟩;exact ⟨rfl, (((E1.trans E2).trans E3).trans (E4.trans (Ext.of_below hb No))).toBelow⟩
 ·
  have hs : qq f = false := by simpa using hs
  refine za rfl (yc en11 rfl ((assign_no hs hF2 hD2).mono ?_));rintro e w5 ⟨rfl, hb⟩;refine ⟨_, rfl, ?_⟩;have E3 := Ext.of_below hb No;have B3 := B2.ext E3 (fun h => h.elim);have hF3 := hF2.low (X := No) ⟨E3, fun _ h => h.elim⟩
  refine mvx rfl (za rfl (vi rfl rfl (za rfl (vi rfl rfl (za rfl (vi rfl rfl (avx rfl (avx rfl (anx rfl (zv (srx (za rfl (zn Tryd.underlying27 rfl xg rfl B3 rfl (za rfl (yc en12 rfl ((zqx _ p f n0 hF3).mono ?_))))))))))))))));rintro e w6 ⟨rfl, hb⟩
  refine ⟨_, rfl, (qs 15 (.bool false) rfl ((by rw [hs] : (.bool (qq f) : Value) = _)) (za rfl (jc rfl (rnx (yp rfl (srx (mvx rfl (za rfl (yl rfl rfl (mvx rfl (onx rfl (zk rfl (onx rfl (qf Tryd.underlying28 rfl (qs 21 (.int .i64 0) rfl (by kernel_rfl : (.int .i64 (0 : Nat) : Value) = _) (onx rfl (yl rfl rfl (za rfl (zu rfl rfl (mvx rfl (onx rfl (zk rfl (onx rfl (yl rfl rfl (za rfl (zu rfl rfl (anx rfl (zq (ze (zp (rs := [.tmp 2]) (vs := [_]) rfl ⟨rfl, trivial⟩ ?_))))))))))))))))))))))))))))))⟩
  exact ⟨rfl, (((E1.trans E2).trans E3).trans (Ext.of_below hb No)).toBelow⟩
end
end Go.Proofs.YtppdgjlmeahimaaDoor
