/- Texts of this claim. -/
import Derived.Test.YtppdgjlmeahimaaDoorE12
namespace Go.Proofs.YtppdgjlmeahimaaDoor
open Go.RowKit
set_option maxRecDepth 100000
attribute [local irreducible] OW RS
def LB (rowsB : List (GR BE)) : List BRow := rowsB.map fun r => r.2.2.map (·.1)
def LD (rowsD : List (GR Nat)) : List (List Nat) := rowsD.map (·.2.2)
theorem LB_get {rowsB : List (GR BE)} {t : Nat} {r : GR BE} (h : rowsB[t]? = some r) : (LB rowsB).getD t [] = r.2.2.map (·.1) := by
 unfold LB; rw [List.getD_eq_getElem?_getD, List.getElem?_map, h]; rfl
theorem zsq {rowsD : List (GR Nat)} {t : Nat} {r : GR Nat} (h : rowsD[t]? = some r) : (LD rowsD).getD t [] = r.2.2 := by
 unfold LD; rw [List.getD_eq_getElem?_getD, List.getElem?_map, h]; rfl
theorem LB_set {rowsB : List (GR BE)} {t : Nat} {r r' : GR BE} {x : BE} (h : rowsB[t]? = some r) (h' : r'.2.2 = r.2.2 ++ [x]) : LB (rowsB.set t r') = (LB rowsB).set t ((LB rowsB).getD t [] ++ [x.1]) := by
 rw [LB_get h];unfold LB;rw [List.map_set, h', List.map_append]; rfl
theorem zsz {rowsD : List (GR Nat)} {t : Nat} {r r' : GR Nat} {x : Nat} (h : rowsD[t]? = some r) (h' : r'.2.2 = r.2.2 ++ [x]) : LD (rowsD.set t r') = (LD rowsD).set t ((LD rowsD).getD t [] ++ [x]) := by
 rw [zsq h];unfold LD;rw [List.map_set, h']
theorem LB_nil (N : Nat) : LB (List.replicate N (none, 0, [])) = List.replicate N [] := by unfold LB; rw [List.map_replicate]; rfl
theorem LD_nil (N : Nat) : LD (List.replicate N (none, 0, [])) = List.replicate N [] := by unfold LD; rw [List.map_replicate]
theorem ziv {α : Type} {en : α → List Value} {s : Nat} (hs : ∀ x, (en x).length = s) : ∀ {xs : List α} {j i : Nat} {y : α} {v : Value}, xs[j]? = some y → (en y)[i]? = some v → (xs.flatMap en)[j * s + i]? = some v
 | [], _, _, _, _, h, _ => by cases h
 | z :: xs, 0, i, y, v, h, hv => by
  obtain rfl := Option.some.inj h;have hi := (List.getElem?_eq_some_iff.1 hv).1;rw [List.flatMap_cons, List.getElem?_append_left (by omega), Nat.zero_mul, Nat.zero_add, hv]
 | z :: xs, j + 1, i, y, v, h, hv => by
  have hz := hs z;rw [List.flatMap_cons, List.getElem?_append_right (by rw [hz, Nat.succ_mul]; omega), hz, show (j + 1) * s + i - s = j * s + i by rw [Nat.succ_mul]; omega];exact ziv hs (by simpa using h) hv
theorem BackA.up {n m : Nat} {w : World} {A : Option Addr} {row : BRow} (h : BackA n w A row) (hm : n ≤ m) : BackA m w A row := RowS.up h hm fun g o x hc => by
 obtain ⟨C, c, h1, h2⟩ := hc;exact ⟨C, c, h1.up hm, h2⟩
theorem BacksA.up {n m : Nat} {w : World} {A : Option Addr} {B : List BRow} (h : BacksA n w A B) (hm : n ≤ m) : BacksA m w A B := RowS.up h hm fun g o x hc => by
 obtain ⟨C, c, h1, h2⟩ := hc;exact ⟨C, c, h1.up hm, h2⟩
theorem DM.backs {bz go gb gd g1 N n : Nat} {fv : Array Value} {gs : List Nat} {Q : List (List Nat)} {rowsB : List (GR BE)} {rowsD : List (GR Nat)} {w : World} (h : DM bz go gb gd g1 N n fv gs Q rowsB rowsD w) : BacksA w.heap.size w (some ⟨gb, 0, none⟩) (LB rowsB) := fun _ => by
 refine ⟨gb, 0, rfl, h.bk.out.lt, fun j row hj => ?_⟩;unfold LB at hj;rw [List.getElem?_map] at hj;obtain ⟨r, hr, rfl⟩ := Option.map_eq_some_iff.1 hj;have hc := h.bk.cell hr;refine ⟨r.1, r.2.1, fun h0 => ?_, ?_⟩
 · have h0' : 0 < r.2.2.length := by
    cases he : r.2.2 with
    | nil => rw [he] at h0; exact absurd rfl h0
    | cons => simp
   obtain ⟨g, hA, _, hg, hcs⟩ := yfk (h.bk.own r (List.mem_of_getElem? hr)) h0';refine ⟨g, 0, hA, hg, fun i x hx => ?_⟩;rw [List.getElem?_map] at hx;obtain ⟨y, hy, rfl⟩ := Option.map_eq_some_iff.1 hx;refine ⟨y.2.1, y.2.2, h.ent r (List.mem_of_getElem? hr) y (List.mem_of_getElem? hy), fun k v hv => ?_⟩;rw [Nat.zero_add];exact hcs _ _ (ziv (s := 2) (fun _ => rfl) hy hv)
 · rw [Nat.zero_add, Nat.mul_one, List.length_map];exact hc
theorem DM.reads {bz go gb gd g1 N n r : Nat} {fv : Array Value} {gs : List Nat} {Q : List (List Nat)} {rowsB : List (GR BE)} {rowsD : List (GR Nat)} {w : World} {d : GR Nat} (h : DM bz go gb gd g1 N n fv gs Q rowsB rowsD w) (hd : rowsD[r]? = some d) (hl : d.2.2.length ≤ 2097152) (hi : ∀ a ∈ d.2.2, a < 1048576) : IntsA w.heap.size w d.1 (d.2.2.map fun (a : Nat) => (a : Int)) := by
 refine ⟨by rw [List.length_map]; omega, fun x hx => ?_, fun h0 => ?_⟩
 · obtain ⟨a, ha, rfl⟩ := List.mem_map.1 hx;have := hi a ha;unfold I64; omega
 · have h0' : 0 < d.2.2.length := by
    cases he : d.2.2 with
    | nil => rw [he] at h0; exact absurd rfl h0
    | cons => simp
   obtain ⟨g, hA, _, hg, hcs⟩ := jm (h.rd.own d (List.mem_of_getElem? hd)) h0';refine ⟨g, 0, hA, hg, fun i x hx => ?_⟩;rw [List.getElem?_map] at hx;obtain ⟨y, hy, rfl⟩ := Option.map_eq_some_iff.1 hx;rw [Nat.zero_add, Nat.mul_one];exact hcs i _ (by have := ziv (en := enD) (s := 1) (i := 0) (fun _ => rfl) hy rfl; rwa [Nat.mul_one, Nat.add_zero] at this)
theorem spr_blk {b0 go N n g : Nat} {gs : List Nat} {W : List (List Nat)} {w z : World} {t : TypeId} {cs : Array Value} (h : RowsB 55 35 b0 w go N n gs W) (hb : Blk w g t cs) (ht : t ≠ 35) (k : Ext (SprX gs w.heap.size) w z) : Blk z g t cs :=
 hb.ext k fun hx => by
  rcases hx with hx | hx
  · obtain ⟨i, hi⟩ := List.mem_iff_getElem?.1 hx;obtain ⟨x, _, hb', _⟩ := h.at hi;exact ht (kx hb hb')
  · have := hb.lt;have hx : w.heap.size ≤ g := hx;omega
theorem bitW_none (N n a q : Nat) : vj (List.replicate N (List.replicate n 0)) a q = false := by
 unfold vj;rw [List.getD_eq_getElem?_getD, List.getElem?_replicate];split
 · rw [Option.getD_some, yev]
 · simp [gn]
section
variable (w : World) (p : Pl) (f : LFn) (n0 : Nat) (hF : FnA n0 w p f) (hs : vh f = true) (hbk : (f.ins.map fun x => x.l.length + 1).sum ≤ 1048576)
include hF hs hbk
theorem rlive_any : Calls Tryd.prog 22 #[fnV p f] w fun e w' => ∃ A c W, e = .returned (.slice A f.ins.length c) ∧ Rows64 W f.ins.length (ke f) ∧ (∀ a r, vj W a r = true ↔ Liv f a r) ∧ RowsW w'.heap.size w' A W ∧ Below w.heap.size w w' := by
 obtain ⟨hr0, hr1, hp0, hp1, hne⟩ := gl hs;obtain ⟨R, hRr⟩ : ∃ R : Nat, f.regs = (R : Int) := ⟨f.regs.toNat, by omega⟩;obtain ⟨n, hwn⟩ : ∃ n, n = ke f := ⟨_, rfl⟩;obtain ⟨N, hN⟩ : ∃ N, N = f.ins.length := ⟨_, rfl⟩;obtain ⟨bz, hb0⟩ : ∃ bz, bz = w.heap.size := ⟨_, rfl⟩
 have hnr : (f.regs + 63).tdiv 64 = (n : Int) := by rw [hwn]; unfold ke; rw [Int.tdiv_eq_ediv_of_nonneg (by omega)]; omega
 have hn1 : n ≤ 1024 := by rw [hwn]; unfold ke; omega
 have hRn : R ≤ 64 * n := by rw [hwn]; unfold ke; omega
 have hNb : N ≤ 1048576 := by rw [hN]; exact Nat.le_trans (ins_le f) hbk
 have hn0 := hF.size;refine qs Tryd.func22 rfl Tryd.ntmps22 rfl (srx (za rfl (vk rfl ?_)));rintro g1 wA B1 E1 G1
 refine anx rfl (srx (za rfl (zb Tryd.underlying27 rfl sz3 (by decide) rfl (za rfl (zg Tryd.underlying3 rfl rfl B1 rfl (za rfl (qc rfl rfl (yg (by omega)) (za rfl (xz rfl rfl (by decide) (show IntKind.i64.wrap ((f.regs + 63).tdiv 64) = ((n : Nat) : Int) from by rw [hnr]; exact yg (by omega)) (anx rfl (srx (za rfl (zb Tryd.underlying27 rfl gz (by decide) rfl (za rfl (zg Tryd.underlying24 rfl rfl B1 rfl (za rfl (yw Tryd.underlying24 rfl (za rfl (zbz (n := N) Tryd.underlying52 inf55 rfl rfl rfl (by rw [hN]) (by rw [hN]) (by omega) (by omega) ?_)))))))))))))))))))
 rintro go wB Bo E2 Go;have B1b := B1.ext E2 (fun h => h.elim);refine anx rfl (srx (za rfl (zb Tryd.underlying27 rfl gz (by decide) rfl (za rfl (zg Tryd.underlying24 rfl rfl B1b rfl (za rfl (yw Tryd.underlying24 rfl (za rfl (zbz (n := N) Tryd.underlying75 inf78 rfl rfl rfl (by rw [hN]) (by rw [hN]) (by omega) (by omega) ?_)))))))));rintro gb wC Bb E3 Gb
 have B1c := B1b.ext E3 (fun h => h.elim);refine anx rfl (srx (za rfl (zb Tryd.underlying27 rfl sz3 (by decide) rfl (za rfl (zg Tryd.underlying3 rfl rfl B1c rfl (za rfl (zbz (n := R) Tryd.underlying59 inf28 rfl rfl rfl hRr hRr (by omega) (by omega) ?_)))))));rintro gd wD Bd E4 Gd;have B1d := B1c.ext E4 (fun h => h.elim);have hs1 := E1.size;have hs2 := E2.size
 have hs3 := E3.size;have hs4 := E4.size;obtain ⟨fv, hfv⟩ : ∃ fv : Array Value, fv = #[.string f.name, .int .i64 f.params, .int .i64 f.regs, .int .i64 f.frees, .bool f.gen, .int .i64 f.bound, .slice p.an f.names.length p.cn, .slice p.ac f.consts.length p.cc, .slice p.ai f.ins.length p.ci, .slice p.ar f.rgs.length p.cr] := ⟨_, rfl⟩;have B1d : Blk wD g1 27 fv := by rw [hfv]; exact B1d
 have M0 : DM bz go gb gd g1 N n fv [] [] (List.replicate N (none, 0, [])) (List.replicate R (none, 0, [])) wD :=
  ⟨RowsB.nil ((Bo.ext E3 (fun h => h.elim)).ext E4 (fun h => h.elim)) (by omega), GrowB.nil N (Bb.ext E4 (fun h => h.elim)), GrowB.nil R Bd, B1d, fun rb hr x hx => (by rw [List.eq_of_mem_replicate hr] at hx; cases hx), fun k _ rb hr x hx => (by rw [List.eq_of_mem_replicate hr] at hx; cases hx)⟩
 have hED : Ext (fun q => bz ≤ q) w wD := (((E1.mono (Y := fun q => bz ≤ q) (fun _ h _ => h.elim)).step E2 (fun _ h => h.elim)).step E3 (fun _ h => h.elim)).step E4 (fun _ h => h.elim)
 refine anx rfl (zp (srx (anx rfl (yb (qu (ι := Nat × List Nat × List (List Nat) × List (GR BE) × List (GR Nat)) (fun (a, gs, Q, rowsB, rowsD) => [(1, .pointer (some ⟨g1, 0, none⟩)), (3, .int .i64 ((n : Nat) : Int)), (4, .slice (some ⟨go, 0, none⟩) N N), (5, .slice (some ⟨gb, 0, none⟩) N N), (6, .slice (some ⟨gd, 0, none⟩) R R), (7, .int .i64 ((a : Nat) : Int))]) (fun (a, gs, Q, rowsB, rowsD) w' => a ≤ N ∧ Ext (fun q => bz ≤ q) w w' ∧ DM bz go gb gd g1 N n fv gs Q rowsB rowsD w' ∧ Q = List.replicate a (List.replicate n 0) ∧ rowsB.length = N ∧ rowsD.length = R ∧ Prog (itB f) a 0 (LB rowsB) ∧ Prog (itD f) a 0 (LD rowsD) ∧ xa ((LB rowsB).map List.length) ≤ cnt (itB f) a ∧ xa ((LD rowsD).map List.length) ≤ cnt (itD f) a) (fun (a, _) => N - a) (0, [], [], List.replicate N (none, 0, []), List.replicate R (none, 0, [])) ⟨rfl, rfl, rfl, rfl, rfl, rfl, trivial⟩ (⟨Nat.zero_le _, hED, M0, rfl, List.length_replicate, List.length_replicate, by rw [LB_nil]; exact Prog.start N, by rw [LD_nil]; exact Prog.start R, by rw [LB_nil, sum_zero]; exact Nat.zero_le _, by rw [LD_nil, sum_zero]; exact Nat.zero_le _⟩) ?_)))))
 rintro ⟨a, gs, Q, rowsB, rowsD⟩ w2 ⟨haN, hEa, Ma, hQ, hlB, hlD, hPB, hPD, hSB, hSD⟩;have hQl : Q.length = a := by rw [hQ, List.length_replicate]
 refine zp (srx (mvx rfl (za rfl (zb Tryd.underlying27 rfl gz (by decide) rfl (za rfl (zg Tryd.underlying24 rfl rfl Ma.fb (by rw [hfv]; rfl) (za rfl (yw Tryd.underlying24 rfl (za rfl (yy rfl rfl (rnx (zr rfl (fun hi => ?_) (fun hi => ?_)))))))))))))
 ·
  have hi := of_decide_eq_true hi;have hal : a < N := by omega
  have hal' : a < f.ins.length := by omega
  obtain ⟨x, hx⟩ : ∃ x, f.ins[a]? = some x := ⟨_, List.getElem?_eq_getElem hal'⟩;have hsb := hEa.size;refine zq (zh (zp (yb (srx (mvx rfl (mvx rfl (mvx rfl (za rfl (zbz (n := n) Tryd.underlying55 inf35 rfl rfl rfl rfl rfl (by omega) (by omega) ?_)))))))));rintro gr wE Br E5 Gr;refine za rfl (zk (j := a) Tryd.underlying52 zhk rfl rfl rfl hal ?_)
  have Boa := Ma.q.out.ext E5 (fun h => h.elim);refine zw (qi zhk rfl rfl Boa rfl rfl (by rw [List.size_toArray, outV_len (by rw [Ma.q.len]; omega)]; omega) (show _ = ((outV gs n N).set Q.length (rwV n gr)).toArray from by rw [hQl, Nat.zero_add, List.setIfInBounds_toArray]; rfl) ?_);rintro wF Bs E6;have M6 := Ma.addQ (by omega) Br E5 Gr (by omega) Bs E6
  have hE6 := (hEa.step E5 (fun _ h => h.elim)).step E6 (fun q hq => Or.inl (show bz ≤ q by have := qt hq; have := Ma.q.geo; omega));have hF6 : FnA n0 wF p f := hF.low (X := fun q => bz ≤ q) ⟨hE6, fun q h => by have h : bz ≤ q := h; omega⟩
  refine rnx (srx (za rfl (zo Tryd.underlying27 rfl jp rfl M6.fb (by rw [hfv]; rfl) (qr 40 (.agg #[.string f.name, .int .i64 f.params, .int .i64 f.regs, .int .i64 f.frees, .bool f.gen, .int .i64 f.bound, .slice p.an f.names.length p.cn, .slice p.ac f.consts.length p.cc, .slice p.ai f.ins.length p.ci, .slice p.ar f.rgs.length p.cr]) rfl ((by rw [hfv] : (.agg fv : Value) = _)) (mvx rfl (za rfl (yf en42 rfl ((rways_any _ p f n0 hF6 a x hx).mono ?_))))))))
  rintro e w3 ⟨A8, c8, rfl, hW8, hb⟩;refine ⟨_, rfl, ?_⟩;have E7 := Ext.of_below hb No;have M7 := M6.no E7;have hE7 := hE6.step E7 (fun _ h => h.elim);obtain ⟨lo, hlo⟩ : ∃ lo, lo = wF.heap.size := ⟨_, rfl⟩;obtain ⟨n8, hn8⟩ : ∃ n8, n8 = w3.heap.size := ⟨_, rfl⟩;rw [← hlo, ← hn8] at hW8
  have hwr7 : ∀ q, Wr go gb gd rowsB rowsD q → q < lo ∨ n8 ≤ q := fun q hq => Or.inl (by rw [hlo]; exact M6.wlt hq);have hlen8 := ybv f a x;obtain ⟨ws8, hws8⟩ : ∃ ws8, ws8 = vg f a x := ⟨_, rfl⟩;rw [← hws8] at hW8 hlen8;have hit : itB f a = ws8.map fun p => (p.1, (a, p.2)) := by rw [zzz hx, hws8]
  refine anx rfl (zp (srx (anx rfl (yb (zy 8 (.slice A8 ws8.length c8) rfl ((by rw [hws8] : (.slice A8 (vg f a x).length c8 : Value) = _)) (qu (ι := Nat × List (GR BE)) (fun (k, rowsB) => [(1, .pointer (some ⟨g1, 0, none⟩)), (3, .int .i64 ((n : Nat) : Int)), (4, .slice (some ⟨go, 0, none⟩) N N), (5, .slice (some ⟨gb, 0, none⟩) N N), (6, .slice (some ⟨gd, 0, none⟩) R R), (7, .int .i64 ((a : Nat) : Int)), (8, .slice A8 ws8.length c8), (9, .int .i64 ((k : Nat) : Int))]) (fun (k, rowsB) w' => k ≤ ws8.length ∧ Ext (fun q => bz ≤ q) w w' ∧ n8 ≤ w'.heap.size ∧ DM bz go gb gd g1 N n fv (gs ++ [gr]) (Q ++ [List.replicate n 0]) rowsB rowsD w' ∧ WaysA lo n8 w' A8 ws8 ∧ (∀ q, Wr go gb gd rowsB rowsD q → q < lo ∨ n8 ≤ q) ∧ rowsB.length = N ∧ Prog (itB f) a k (LB rowsB) ∧ xa ((LB rowsB).map List.length) ≤ cnt (itB f) a + k) (fun (k, _) => ws8.length - k) (0, rowsB) ⟨rfl, rfl, rfl, rfl, rfl, rfl, rfl, rfl, trivial⟩ (⟨Nat.zero_le _, hE7, by rw [hn8]; exact Nat.le_refl _, M7, hW8, hwr7, hlB, hPB, hSB⟩) ?_))))))
  rintro ⟨k, rowsB⟩ w5 ⟨hk8, hEk, hsk, Mk, hWk, hwrk, hlBk, hPBk, hSBk⟩;refine zp (srx (mvx rfl (mvx rfl (za rfl (yw Tryd.underlying76 rfl (za rfl (yy rfl rfl (rnx (zr rfl (fun hk => ?_) (fun hk => ?_))))))))))
  ·
   have hk := of_decide_eq_true hk;have hkl : k < ws8.length := by omega
   obtain ⟨y, hy⟩ : ∃ y, ws8[k]? = some y := ⟨_, List.getElem?_eq_getElem hkl⟩;have hyw : y ∈ vg f a x := by rw [← hws8]; exact List.mem_of_getElem? hy
   have hyin := (yhx hs hx hyw).1;obtain ⟨t, ht⟩ : ∃ t : Nat, y.1 = (t : Int) := ⟨y.1.toNat, by omega⟩;have htN : t < N := by omega
   obtain ⟨g8, o8, hA8, hg8, C, cC, hI8, hq8, hc8⟩ := RowS.at hWk.row hy;obtain ⟨r, hr⟩ : ∃ r, rowsB[t]? = some r := ⟨_, List.getElem?_eq_getElem (by omega)⟩;have hcr := Mk.bk.cell hr;rw [ht] at hc8;have hrm := List.mem_of_getElem? hr;have hro := Mk.bk.own r hrm
   have hZw : ∀ q, Mut [(grV r).ownBlock] q → Wr go gb gd rowsB rowsD q := fun q hq => Or.inr (Or.inr (Or.inr (Or.inl ⟨r, hrm, jo hq⟩)));have hlo8 := hWk.lo_ g8 o8 hA8;have hZ8 : ¬ Mut [(grV r).ownBlock] g8 := fun hq => by have := hwrk g8 (hZw g8 hq); omega
   have hZb : ¬ Mut [(grV r).ownBlock] gb := fun hq => by
    obtain ⟨cu, hcu⟩ := zcx hro (jo hq);exact absurd (kx hcu Mk.bk.out) (by decide)
   obtain ⟨x9, hx9⟩ : ∃ x9 : BE, x9 = ((a, y.2), (C, cC)) := ⟨_, rfl⟩;obtain ⟨szK, hszK⟩ : ∃ szK, szK = w5.heap.size := ⟨_, rfl⟩;have hcnt : cnt (itB f) a + k ≤ 3 * N := by
    have h1 := cnt_le (itB f) (a := a + 1) (N := N) (by omega);have h2 := cnt_B f N;have h3 : cnt (itB f) (a + 1) = cnt (itB f) a + (itB f a).length := rfl;rw [hit, List.length_map] at h3;omega
   have hrl : r.2.2.length ≤ 3 * N := by
    have h1 := zez (L := LB rowsB) t;rw [LB_get hr, List.length_map] at h1;omega
   have hrl9 : (r.2.2 ++ [x9]).length = r.2.2.length + 1 := by rw [List.length_append]; rfl
   refine zq (zh (zp (yb (kr je (kt 24 rfl ?_)))));refine aw_one 22 (Mut [(grV r).ownBlock]) (fun k hk => qy hro k (jo hk)) (kl [Fx.of (.slice (some ⟨gb, 0, none⟩) N N),
    Fx.of (.slice A8 ws8.length c8),
    Fx.of (.int .i64 ((k : Nat) : Int)),
    Fx.of (.pointer (some ⟨g8, o8 + k * 2, none⟩)),
    Fx.of (.pointer (some ⟨g8, o8 + k * 2, none⟩)),
    Fx.of (.int .i64 ((t : Nat) : Int)),
    Fx.of (.slice (some ⟨gb, 0, none⟩) N N),
    Fx.of (.slice A8 ws8.length c8),
    Fx.of (.int .i64 ((k : Nat) : Int)),
    Fx.of (.pointer (some ⟨g8, o8 + k * 2, none⟩)),
    Fx.of (.pointer (some ⟨g8, o8 + k * 2, none⟩)),
    Fx.of (.int .i64 ((t : Nat) : Int)),
    Fx.of (.pointer (some ⟨gb, 0 + t, none⟩)),
    Fx.of (.slice r.1 r.2.2.length r.2.1),
    Fx.of (.int .i64 ((a : Nat) : Int)),
    Fx.of (.slice A8 ws8.length c8),
    Fx.of (.int .i64 ((k : Nat) : Int)),
    Fx.of (.pointer (some ⟨g8, o8 + k * 2, none⟩)),
    Fx.of (.pointer (some ⟨g8, o8 + k * 2 + 1, none⟩)),
    Fx.of (.slice C y.2.length cC),
    Fx.of (.agg #[.int .i64 ((a : Nat) : Int), .slice C y.2.length cC]),
    ⟨Nat, fun gx => .slice (some ⟨gx, 0, none⟩) 1 1, fun gx b => (Blk b gx 82 #[.int .i64 ((a : Nat) : Int), .slice C y.2.length cC])⟩,
    ⟨(Option Addr × Nat), fun (A9, c9) => .slice A9 (r.2.2 ++ [x9]).length c9, fun (A9, c9) b => ((b.ownsRow bz 82 2 (.slice A9 (r.2.2 ++ [x9]).length c9) (r.2.2 ++ [x9]).length ((r.2.2 ++ [x9]).flatMap enB) ∧ ∀ k, (Value.slice A9 (r.2.2 ++ [x9]).length c9).ownBlock = some k → (grV r).ownBlock = some k ∨ szK ≤ k))⟩,
    Fx.of (.pointer (some ⟨gb, 0 + t, none⟩))]) rfl ?_ ?_
   · refine ⟨?_, ?_, ?_, ?_, ?_, ?_, ?_, ?_, ?_, ?_, ?_, ?_, ?_, ?_, ?_, ?_, ?_, ?_, ?_, ?_, ?_, ?_, ?_, ?_, trivial⟩
     · intro vs X wq K KQ;exact zl rfl ⟨Below.refl _ _, Left.of rfl⟩
     · intro vs X wq K KQ;exact zl rfl ⟨Below.refl _ _, Left.of rfl⟩
     · intro vs X wq K KQ;exact zl rfl ⟨Below.refl _ _, Left.of rfl⟩
     · intro vs X wq K KQ;obtain ⟨_, e1, k1⟩ := K.dep 1 rfl rfl rfl;refine zd 50 (.slice A8 ws8.length c8) rfl e1 ?_;obtain ⟨_, e2, k2⟩ := K.dep 2 rfl rfl rfl;refine zd 51 (.int .i64 ((k : Nat) : Int)) rfl e2 ?_;exact yi (j := k) Tryd.underlying76 oz (congrArg (fun z ↦ some (Value.slice z ws8.length c8)) hA8) rfl rfl hkl ⟨Below.refl _ _, Left.of rfl⟩
     · intro vs X wq K KQ;obtain ⟨_, e3, k3⟩ := K.dep 3 rfl rfl rfl;refine zd 52 (.pointer (some ⟨g8, o8 + k * 2, none⟩)) rfl e3 ?_;exact zb Tryd.underlying80 rfl sz3 (by decide) rfl ⟨Below.refl _ _, Left.of rfl⟩
     · intro vs X wq K KQ;have LE := K.1;obtain ⟨_, e4, k4⟩ := K.dep 4 rfl rfl rfl;refine zd 53 (.pointer (some ⟨g8, o8 + k * 2, none⟩)) rfl e4 ?_;exact zt Tryd.underlying3 rfl rfl (xi LE hZ8 (hc8 0 _ rfl)) ⟨Below.refl _ _, Left.of rfl⟩
     · intro vs X wq K KQ;exact zl rfl ⟨Below.refl _ _, Left.of rfl⟩
     · intro vs X wq K KQ;exact zl rfl ⟨Below.refl _ _, Left.of rfl⟩
     · intro vs X wq K KQ;exact zl rfl ⟨Below.refl _ _, Left.of rfl⟩
     · intro vs X wq K KQ;obtain ⟨_, e7, k7⟩ := K.dep 7 rfl rfl rfl;refine zd 56 (.slice A8 ws8.length c8) rfl e7 ?_;obtain ⟨_, e8, k8⟩ := K.dep 8 rfl rfl rfl;refine zd 57 (.int .i64 ((k : Nat) : Int)) rfl e8 ?_;exact yi (j := k) Tryd.underlying76 oz (congrArg (fun z ↦ some (Value.slice z ws8.length c8)) hA8) rfl rfl hkl ⟨Below.refl _ _, Left.of rfl⟩
     · intro vs X wq K KQ;obtain ⟨_, e9, k9⟩ := K.dep 9 rfl rfl rfl;refine zd 58 (.pointer (some ⟨g8, o8 + k * 2, none⟩)) rfl e9 ?_;exact zb Tryd.underlying80 rfl sz3 (by decide) rfl ⟨Below.refl _ _, Left.of rfl⟩
     · intro vs X wq K KQ;have LE := K.1;obtain ⟨_, e10, k10⟩ := K.dep 10 rfl rfl rfl;refine zd 59 (.pointer (some ⟨g8, o8 + k * 2, none⟩)) rfl e10 ?_;exact zt Tryd.underlying3 rfl rfl (xi LE hZ8 (hc8 0 _ rfl)) ⟨Below.refl _ _, Left.of rfl⟩
     · intro vs X wq K KQ;obtain ⟨_, e6, k6⟩ := K.dep 6 rfl rfl rfl;refine zd 55 (.slice (some ⟨gb, 0, none⟩) N N) rfl e6 ?_;obtain ⟨_, e11, k11⟩ := K.dep 11 rfl rfl rfl;refine zd 60 (.int .i64 ((t : Nat) : Int)) rfl e11 ?_;exact zk (j := t) Tryd.underlying75 sz78 rfl rfl rfl htN ⟨Below.refl _ _, Left.of rfl⟩
     · intro vs X wq K KQ;have LE := K.1;obtain ⟨_, e12, k12⟩ := K.dep 12 rfl rfl rfl;refine zd 61 (.pointer (some ⟨gb, 0 + t, none⟩)) rfl e12 ?_;exact zt Tryd.underlying78 rfl rfl (by rw [Nat.zero_add]; exact xi LE hZb hcr) ⟨Below.refl _ _, Left.of rfl⟩
     · intro vs X wq K KQ;exact zl rfl ⟨Below.refl _ _, Left.of rfl⟩
     · intro vs X wq K KQ;exact zl rfl ⟨Below.refl _ _, Left.of rfl⟩
     · intro vs X wq K KQ;exact zl rfl ⟨Below.refl _ _, Left.of rfl⟩
     · intro vs X wq K KQ;obtain ⟨_, e15, k15⟩ := K.dep 15 rfl rfl rfl;refine zd 64 (.slice A8 ws8.length c8) rfl e15 ?_;obtain ⟨_, e16, k16⟩ := K.dep 16 rfl rfl rfl;refine zd 65 (.int .i64 ((k : Nat) : Int)) rfl e16 ?_;exact yi (j := k) Tryd.underlying76 oz (congrArg (fun z ↦ some (Value.slice z ws8.length c8)) hA8) rfl rfl hkl ⟨Below.refl _ _, Left.of rfl⟩
     · intro vs X wq K KQ;obtain ⟨_, e17, k17⟩ := K.dep 17 rfl rfl rfl;refine zd 66 (.pointer (some ⟨g8, o8 + k * 2, none⟩)) rfl e17 ?_;exact zb Tryd.underlying80 rfl gu (by decide) rfl ⟨Below.refl _ _, Left.of rfl⟩
     · intro vs X wq K KQ;have LE := K.1;obtain ⟨_, e18, k18⟩ := K.dep 18 rfl rfl rfl;refine zd 67 (.pointer (some ⟨g8, o8 + k * 2 + 1, none⟩)) rfl e18 ?_;exact zt Tryd.underlying28 rfl rfl (xi LE hZ8 (hc8 1 _ rfl)) ⟨Below.refl _ _, Left.of rfl⟩
     · intro vs X wq K KQ;obtain ⟨_, e14, k14⟩ := K.dep 14 rfl rfl rfl;refine zd 63 (.int .i64 ((a : Nat) : Int)) rfl e14 ?_;obtain ⟨_, e19, k19⟩ := K.dep 19 rfl rfl rfl;refine zd 68 (.slice C y.2.length cC) rfl e19 ?_;exact vo (cs := #[.int .i64 ((a : Nat) : Int), .slice C y.2.length cC]) pl82 zr82 rfl rfl ⟨Below.refl _ _, Left.of rfl⟩
     · intro vs X wq K KQ;have XN := K.2.1;obtain ⟨_, e20, k20⟩ := K.dep 20 rfl rfl rfl;refine zd 69 (.agg #[.int .i64 ((a : Nat) : Int), .slice C y.2.length cC]) rfl e20 (qv (cs := #[.int .i64 ((a : Nat) : Int), .slice C y.2.length cC]) Tryd.underlying78 sz82 zr82 (by decide) rfl (by rw [ym]; rfl) ?_);intro gx w5 Bx hb Gx
       exact ⟨hb, ⟨gx, rfl, Per.blk Bx (fun hx => by have := XN gx hx; omega)⟩⟩
     · intro vs X wq K KQ;have LQ := KQ rfl;obtain ⟨_, e13, k13⟩ := K.dep 13 rfl rfl rfl;refine zd 62 (.slice r.1 r.2.2.length r.2.1) rfl e13 ?_;obtain ⟨gx, e21, k21⟩ := K.dep 21 rfl rfl rfl
       refine zd 70 (.slice (some ⟨gx, 0, none⟩) 1 1) rfl e21 (ju (n' := (r.2.2 ++ [x9]).length) (xs' := (r.2.2 ++ [x9]).flatMap enB) Tryd.underlying78 inf82 rfl (by decide) rfl (owns_no LQ hro) rfl (vn (k21.here) (k21.here).lt rfl) (by simp [Value.oneCell']) hrl9.symm (by rw [List.flatMap_append, hx9]; rfl) (by rw [hrl9]; unfold maxLen; omega) (by rw [hrl9]; omega) (by rw [hb0]; exact Nat.le_trans hEk.size LQ.size) ?_)
       intro A9 c9 w6 O9 hb N9;exact ⟨hb, ⟨(A9, c9), rfl, (fun z hz => ⟨qf O9 hz (fun _ _ h => h.elim), fun k hk => (N9 k hk).imp id fun h => by rw [hszK]; exact Nat.le_trans LQ.size h⟩)⟩⟩
     · intro vs X wq K KQ;obtain ⟨_, e0, k0⟩ := K.dep 0 rfl rfl rfl;refine zd 49 (.slice (some ⟨gb, 0, none⟩) N N) rfl e0 ?_;obtain ⟨_, e5, k5⟩ := K.dep 5 rfl rfl rfl;refine zd 54 (.int .i64 ((t : Nat) : Int)) rfl e5 ?_;exact zk (j := t) Tryd.underlying75 sz78 rfl rfl rfl htN ⟨Below.refl _ _, Left.of rfl⟩
   intro vs w6 LE AO AL AF AA;have hxd : Ext (Mut [(grV r).ownBlock]) (w5) w6 := ((Ext.refl _ (w5)).drew).trans LE;obtain ⟨⟨A9, c9⟩, e22, k22⟩ := AL.2.2.2.2.2.2.2.2.2.2.2.2.2.2.2.2.2.2.2.2.2.2.1;obtain ⟨_, e23, k23⟩ := AL.2.2.2.2.2.2.2.2.2.2.2.2.2.2.2.2.2.2.2.2.2.2.2.1;have Wc22 := k22.here
   refine vq (τ := [(1, _), (3, _), (4, _), (5, _), (6, _), (7, _), (8, _), (9, _), (71, .slice A9 (r.2.2 ++ [x9]).length c9), (72, .pointer (some ⟨gb, 0 + t, none⟩))]) ⟨rfl, rfl, rfl, rfl, rfl, rfl, rfl, rfl, congrArg some e22, congrArg some e23, trivial⟩ ?_;clear AL AF AA AO;refine ol (ji (by kernel_rfl) (fun _ _ d_ _ _ h => by cases d_ <;> exact h) ?_);have hO9 := Wc22.1
   have hN9 := Wc22.2;obtain ⟨r', hr'⟩ : ∃ r' : GR BE, r' = (A9, c9, r.2.2 ++ [x9]) := ⟨_, rfl⟩;have hr'2 : r'.2.2 = r.2.2 ++ [x9] := by rw [hr']
   have hro' : w6.ownsRow bz 82 2 (grV r') r'.2.2.length (r'.2.2.flatMap enB) := by rw [hr']; exact hO9
   have hNn : ∀ k, (grV r').ownBlock = some k → (grV r).ownBlock = some k ∨ szK ≤ k := by rw [hr']; exact hN9
   have Bb9 := qn Mk.bk.out hro (by decide) hxd;have hs9 := hxd.size;rw [← hszK] at hs9;refine zw (qi (cs' := ((rowsB.set t r').map grV).toArray) sz78 rfl rfl Bb9 rfl rfl (by rw [List.size_toArray, List.length_map]; omega) (by rw [Nat.zero_add, ← gr_set, hr']; rfl) ?_);rintro wM Bs Es
   have M9 := Mk.putB hr hr'2 hro' hxd (by rw [← hszK]; exact hNn) Bs Es (by rw [hx9]; exact hI8.up hsk) (by
    rw [hx9];intro h0 q q' e hw;obtain ⟨g', o', e', hg', _⟩ := hI8.row h0;rw [show C = some ⟨q, q', none⟩ from e] at e';cases e'
    have h1 := hq8 q q' e;have h2 := hwrk q hw;omega)
   have hown : ∀ q, Mut [(grV r).ownBlock] q → bz ≤ q := ycv hro;have hgbz : bz ≤ gb := by omega
   have hE9 := (hEk.step hxd (fun q hq => Or.inl (hown q hq))).step Es (fun q hq => Or.inl (show bz ≤ q by have := qt hq; omega));have hW9 := (hWk.mid hxd (fun q hq => hwrk q (hZw q hq))).mid Es (fun q hq => hwrk q (Or.inr (Or.inl (qt hq))));have hwr9 : ∀ q, Wr go gb gd (rowsB.set t r') rowsD q → q < lo ∨ n8 ≤ q := fun q hq => by
    rcases Wr_setB hq with h | h
    · exact hwrk q h
    · rcases hNn q h with h | h
      · exact hwrk q (hZw q (Or.inl h.symm))
      · right; omega
   have hitk : (itB f a)[k]? = some (((t : Nat) : Int), x9.1) := by rw [hit, List.getElem?_map, hy, hx9, ← ht]; rfl
   have hLl : t < (LB rowsB).length := by unfold LB; rw [List.length_map]; omega
   refine yc (zf (zh (zj (mvx rfl (za rfl (qc rfl rfl (yg (by omega)) (avx rfl (yc ?_))))))))
   exact yt (k + 1, rowsB.set t r') (by show ws8.length - (k + 1) < ws8.length - k; omega) ⟨rfl, rfl, rfl, rfl, rfl, rfl, rfl, rfl, trivial⟩ (⟨hkl, hE9, by have := Es.size; omega, M9, hW9, hwr9, by rw [List.length_set]; exact hlBk, by rw [LB_set hr hr'2]; exact hPBk.step hitk hLl, by rw [LB_set hr hr'2, zwv hLl]; omega⟩)
  ·
   have hk := of_decide_eq_false hk;have hke : k = ws8.length := by omega
   have hitl : (itB f a).length = k := by rw [hit, List.length_map, hke]
   have hPB1 := hPBk.next (Nat.le_of_eq hitl);have hSB1 : xa ((LB rowsB).map List.length) ≤ cnt (itB f) (a + 1) := by
    have : cnt (itB f) (a + 1) = cnt (itB f) a + (itB f a).length := rfl;omega
   have hFk : FnA n0 w5 p f := hF.low (X := fun q => bz ≤ q) ⟨hEk, fun q h => by have h : bz ≤ q := h; omega⟩;refine qe (zm (zm (ya (zh (srx (za rfl (zb Tryd.underlying27 rfl gz (by decide) rfl (za rfl (zg Tryd.underlying24 rfl rfl Mk.fb (by rw [hfv]; rfl) ?_)))))))));obtain ⟨gi, oi, hAi, hgi, hcx⟩ := hFk.ins.row.at hx
   obtain ⟨hI, B, cB, hcB, hl, hcells⟩ := hcx;refine mvx rfl (za rfl (yi (j := a) Tryd.underlying24 vx (congrArg (fun z ↦ some (Value.slice z f.ins.length p.ci)) hAi) rfl rfl hal' (za rfl (jb (cs := (jr x B cB).toArray) Tryd.underlying41 rfl vx rfl rfl (fun j v hj ↦ hcells j v (by simpa using hj)) ?_))));obtain ⟨lo2, hlo2⟩ : ∃ lo2, lo2 = w5.heap.size := ⟨_, rfl⟩
   have hloz : bz ≤ lo2 := by rw [hlo2, hb0]; exact hEk.size
   refine za rfl (yf en28 rfl ((zfq _ x B cB n0 hl hFk.size).mono ?_));rintro e w7 ⟨A10, c10, rfl, hO10, hb⟩;refine ⟨_, rfl, ?_⟩;have E10 := Ext.of_below hb No;have M10 := Mk.no E10;have hE10 := hEk.step E10 (fun _ h => h.elim);rw [← hlo2] at hO10;obtain ⟨n10, hn10⟩ : ∃ n10, n10 = w7.heap.size := ⟨_, rfl⟩
   have hlt10 : ∀ q, (Value.slice A10 (yu x).length c10).ownBlock = some q → lo2 ≤ q ∧ q < n10 := fun q hq => ⟨jj hO10 q hq, by rw [hn10]; exact qy hO10 q hq⟩;have hwr10 : ∀ q, Wr go gb gd rowsB rowsD q → q < lo2 ∨ n10 ≤ q := fun q hq => Or.inl (by rw [hlo2]; exact Mk.wlt hq);obtain ⟨rs, hrs⟩ : ∃ rs, rs = yu x := ⟨_, rfl⟩;rw [← hrs] at hO10 hlt10
   have hitd : itD f a = rs.map fun q => (q, a) := by rw [zzx hx, hrs]
   refine anx rfl (srx (anx rfl (yb (zy 10 (.slice A10 rs.length c10) rfl ((by rw [hrs] : (.slice A10 (yu x).length c10 : Value) = _)) (qu (ι := Nat × List (GR Nat)) (fun (k, rowsD) => [(1, .pointer (some ⟨g1, 0, none⟩)), (3, .int .i64 ((n : Nat) : Int)), (4, .slice (some ⟨go, 0, none⟩) N N), (5, .slice (some ⟨gb, 0, none⟩) N N), (6, .slice (some ⟨gd, 0, none⟩) R R), (7, .int .i64 ((a : Nat) : Int)), (10, .slice A10 rs.length c10), (11, .int .i64 ((k : Nat) : Int))]) (fun (k, rowsD) w' => k ≤ rs.length ∧ Ext (fun q => bz ≤ q) w w' ∧ n10 ≤ w'.heap.size ∧ DM bz go gb gd g1 N n fv (gs ++ [gr]) (Q ++ [List.replicate n 0]) rowsB rowsD w' ∧ w'.ownsRow lo2 3 1 (.slice A10 rs.length c10) rs.length (yz rs) ∧ (∀ q, Wr go gb gd rowsB rowsD q → q < lo2 ∨ n10 ≤ q) ∧ rowsD.length = R ∧ Prog (itD f) a k (LD rowsD) ∧ xa ((LD rowsD).map List.length) ≤ cnt (itD f) a + k) (fun (k, _) => rs.length - k) (0, rowsD) ⟨rfl, rfl, rfl, rfl, rfl, rfl, rfl, rfl, trivial⟩ (⟨Nat.zero_le _, hE10, by rw [hn10]; exact Nat.le_refl _, M10, hO10, hwr10, hlD, hPD, hSD⟩) ?_)))))
   rintro ⟨k, rowsD⟩ w9 ⟨hk10, hEk2, hsk2, Mk2, hOk2, hwrk2, hlDk, hPDk, hSDk⟩;refine zp (srx (mvx rfl (mvx rfl (za rfl (yw Tryd.underlying28 rfl (za rfl (yy rfl rfl (rnx (zr rfl (fun hk2 => ?_) (fun hk2 => ?_))))))))))
   ·
    have hk2 := of_decide_eq_true hk2;have hkl2 : k < rs.length := by omega
    obtain ⟨y, hy⟩ : ∃ y, rs[k]? = some y := ⟨_, List.getElem?_eq_getElem hkl2⟩;have hyin := (zjk hs hx).1 y (by rw [← hrs]; exact List.mem_of_getElem? hy);obtain ⟨t, ht⟩ : ∃ t : Nat, y = (t : Int) := ⟨y.toNat, by omega⟩;have htR : t < R := by omega
    obtain ⟨g8, hA8, hg8a, hg8b, hc8⟩ := jm hOk2 (by omega);have hcy := hc8 k (.int .i64 ((t : Nat) : Int)) (by unfold yz; rw [List.getElem?_map, hy, ht]; rfl);obtain ⟨r, hr⟩ : ∃ r, rowsD[t]? = some r := ⟨_, List.getElem?_eq_getElem (by omega)⟩;have hcr := Mk2.rd.cell hr;have hrm := List.mem_of_getElem? hr;have hro := Mk2.rd.own r hrm
    have hZw : ∀ q, Mut [(grV r).ownBlock] q → Wr go gb gd rowsB rowsD q := fun q hq => Or.inr (Or.inr (Or.inr (Or.inr ⟨r, hrm, jo hq⟩)));have hl8 := hlt10 g8 (by rw [hA8]; rfl);have hZ8 : ¬ Mut [(grV r).ownBlock] g8 := fun hq => by have := hwrk2 g8 (hZw g8 hq); omega
    have hZd : ¬ Mut [(grV r).ownBlock] gd := fun hq => by
     obtain ⟨cu, hcu⟩ := zcx hro (jo hq);exact absurd (kx hcu Mk2.rd.out) (by decide)
    obtain ⟨szK, hszK⟩ : ∃ szK, szK = w9.heap.size := ⟨_, rfl⟩;have hcnt : cnt (itD f) a + k ≤ 2097152 := by
     have h1 := cnt_le (itD f) (a := a + 1) (N := f.ins.length) (by omega);have h2 := yek f;have h3 : cnt (itD f) (a + 1) = cnt (itD f) a + (itD f a).length := rfl;rw [hitd, List.length_map] at h3;omega
    have hrl : r.2.2.length ≤ 2097152 := by
     have h1 := zez (L := LD rowsD) t;rw [zsq hr] at h1;omega
    have hrl9 : (r.2.2 ++ [a]).length = r.2.2.length + 1 := by rw [List.length_append]; rfl
    refine zq (zh (zp (yb (kr je (kt 16 rfl ?_)))));refine aw_one 14 (Mut [(grV r).ownBlock]) (fun k hk => qy hro k (jo hk)) (kl [Fx.of (.slice (some ⟨gd, 0, none⟩) R R),
     Fx.of (.slice A10 rs.length c10),
     Fx.of (.int .i64 ((k : Nat) : Int)),
     Fx.of (.pointer (some ⟨g8, 0 + k, none⟩)),
     Fx.of (.int .i64 ((t : Nat) : Int)),
     Fx.of (.slice (some ⟨gd, 0, none⟩) R R),
     Fx.of (.slice A10 rs.length c10),
     Fx.of (.int .i64 ((k : Nat) : Int)),
     Fx.of (.pointer (some ⟨g8, 0 + k, none⟩)),
     Fx.of (.int .i64 ((t : Nat) : Int)),
     Fx.of (.pointer (some ⟨gd, 0 + t, none⟩)),
     Fx.of (.slice r.1 r.2.2.length r.2.1),
     Fx.of (.int .i64 ((a : Nat) : Int)),
     ⟨Nat, fun gx => .slice (some ⟨gx, 0, none⟩) 1 1, fun gx b => (Blk b gx 3 #[.int .i64 ((a : Nat) : Int)])⟩,
     ⟨(Option Addr × Nat), fun (A9, c9) => .slice A9 (r.2.2 ++ [a]).length c9, fun (A9, c9) b => ((b.ownsRow bz 3 1 (.slice A9 (r.2.2 ++ [a]).length c9) (r.2.2 ++ [a]).length ((r.2.2 ++ [a]).flatMap enD) ∧ ∀ k, (Value.slice A9 (r.2.2 ++ [a]).length c9).ownBlock = some k → (grV r).ownBlock = some k ∨ szK ≤ k))⟩,
     Fx.of (.pointer (some ⟨gd, 0 + t, none⟩))]) rfl ?_ ?_
    · refine ⟨?_, ?_, ?_, ?_, ?_, ?_, ?_, ?_, ?_, ?_, ?_, ?_, ?_, ?_, ?_, ?_, trivial⟩
      · intro vs X wq K KQ;exact zl rfl ⟨Below.refl _ _, Left.of rfl⟩
      · intro vs X wq K KQ;exact zl rfl ⟨Below.refl _ _, Left.of rfl⟩
      · intro vs X wq K KQ;exact zl rfl ⟨Below.refl _ _, Left.of rfl⟩
      · intro vs X wq K KQ;obtain ⟨_, e1, k1⟩ := K.dep 1 rfl rfl rfl;refine zd 86 (.slice A10 rs.length c10) rfl e1 ?_;obtain ⟨_, e2, k2⟩ := K.dep 2 rfl rfl rfl;refine zd 87 (.int .i64 ((k : Nat) : Int)) rfl e2 ?_;exact zk (j := k) Tryd.underlying28 sz3 (congrArg (fun z ↦ some (Value.slice z rs.length c10)) hA8) rfl rfl hkl2 ⟨Below.refl _ _, Left.of rfl⟩
      · intro vs X wq K KQ;have LE := K.1;obtain ⟨_, e3, k3⟩ := K.dep 3 rfl rfl rfl;refine zd 88 (.pointer (some ⟨g8, 0 + k, none⟩)) rfl e3 ?_;exact zt Tryd.underlying3 rfl rfl (by rw [Nat.zero_add]; exact xi LE hZ8 hcy) ⟨Below.refl _ _, Left.of rfl⟩
      · intro vs X wq K KQ;exact zl rfl ⟨Below.refl _ _, Left.of rfl⟩
      · intro vs X wq K KQ;exact zl rfl ⟨Below.refl _ _, Left.of rfl⟩
      · intro vs X wq K KQ;exact zl rfl ⟨Below.refl _ _, Left.of rfl⟩
      · intro vs X wq K KQ;obtain ⟨_, e6, k6⟩ := K.dep 6 rfl rfl rfl;refine zd 91 (.slice A10 rs.length c10) rfl e6 ?_;obtain ⟨_, e7, k7⟩ := K.dep 7 rfl rfl rfl;refine zd 92 (.int .i64 ((k : Nat) : Int)) rfl e7 ?_;exact zk (j := k) Tryd.underlying28 sz3 (congrArg (fun z ↦ some (Value.slice z rs.length c10)) hA8) rfl rfl hkl2 ⟨Below.refl _ _, Left.of rfl⟩
      · intro vs X wq K KQ;have LE := K.1;obtain ⟨_, e8, k8⟩ := K.dep 8 rfl rfl rfl;refine zd 93 (.pointer (some ⟨g8, 0 + k, none⟩)) rfl e8 ?_;exact zt Tryd.underlying3 rfl rfl (by rw [Nat.zero_add]; exact xi LE hZ8 hcy) ⟨Below.refl _ _, Left.of rfl⟩
      · intro vs X wq K KQ;obtain ⟨_, e5, k5⟩ := K.dep 5 rfl rfl rfl;refine zd 90 (.slice (some ⟨gd, 0, none⟩) R R) rfl e5 ?_;obtain ⟨_, e9, k9⟩ := K.dep 9 rfl rfl rfl;refine zd 94 (.int .i64 ((t : Nat) : Int)) rfl e9 ?_;exact zk (j := t) Tryd.underlying59 gu rfl rfl rfl htR ⟨Below.refl _ _, Left.of rfl⟩
      · intro vs X wq K KQ;have LE := K.1;obtain ⟨_, e10, k10⟩ := K.dep 10 rfl rfl rfl;refine zd 95 (.pointer (some ⟨gd, 0 + t, none⟩)) rfl e10 ?_;exact zt Tryd.underlying28 rfl rfl (by rw [Nat.zero_add]; exact xi LE hZd hcr) ⟨Below.refl _ _, Left.of rfl⟩
      · intro vs X wq K KQ;exact zl rfl ⟨Below.refl _ _, Left.of rfl⟩
      · intro vs X wq K KQ;have XN := K.2.1;obtain ⟨_, e12, k12⟩ := K.dep 12 rfl rfl rfl;refine zd 97 (.int .i64 ((a : Nat) : Int)) rfl e12 (qv (cs := #[.int .i64 ((a : Nat) : Int)]) Tryd.underlying28 sz3 zr3 (by decide) rfl (by rw [ym]; rfl) ?_);intro gx w5 Bx hb Gx;exact ⟨hb, ⟨gx, rfl, Per.blk Bx (fun hx => by have := XN gx hx; omega)⟩⟩
      · intro vs X wq K KQ;have LQ := KQ rfl;obtain ⟨_, e11, k11⟩ := K.dep 11 rfl rfl rfl;refine zd 96 (.slice r.1 r.2.2.length r.2.1) rfl e11 ?_;obtain ⟨gx, e13, k13⟩ := K.dep 13 rfl rfl rfl
        refine zd 98 (.slice (some ⟨gx, 0, none⟩) 1 1) rfl e13 (ju (n' := (r.2.2 ++ [a]).length) (xs' := (r.2.2 ++ [a]).flatMap enD) Tryd.underlying28 ou rfl (by decide) rfl (owns_no LQ hro) rfl (vn (k13.here) (k13.here).lt rfl) (by simp [Value.oneCell']) hrl9.symm (by rw [List.flatMap_append]; rfl) (by rw [hrl9]; unfold maxLen; omega) (by rw [hrl9]; omega) (by rw [hb0]; exact Nat.le_trans hEk2.size LQ.size) ?_)
        intro A9 c9 w6 O9 hb N9;exact ⟨hb, ⟨(A9, c9), rfl, (fun z hz => ⟨qf O9 hz (fun _ _ h => h.elim), fun k hk => (N9 k hk).imp id fun h => by rw [hszK]; exact Nat.le_trans LQ.size h⟩)⟩⟩
      · intro vs X wq K KQ;obtain ⟨_, e0, k0⟩ := K.dep 0 rfl rfl rfl;refine zd 85 (.slice (some ⟨gd, 0, none⟩) R R) rfl e0 ?_;obtain ⟨_, e4, k4⟩ := K.dep 4 rfl rfl rfl;refine zd 89 (.int .i64 ((t : Nat) : Int)) rfl e4 ?_;exact zk (j := t) Tryd.underlying59 gu rfl rfl rfl htR ⟨Below.refl _ _, Left.of rfl⟩
    intro vs w10 LE AO AL AF AA;have hxd : Ext (Mut [(grV r).ownBlock]) (w9) w10 := ((Ext.refl _ (w9)).drew).trans LE;obtain ⟨⟨A9, c9⟩, e14, k14⟩ := AL.2.2.2.2.2.2.2.2.2.2.2.2.2.2.1;obtain ⟨_, e15, k15⟩ := AL.2.2.2.2.2.2.2.2.2.2.2.2.2.2.2.1;have Wc14 := k14.here
    refine vq (τ := [(1, _), (3, _), (4, _), (5, _), (6, _), (7, _), (10, _), (11, _), (99, .slice A9 (r.2.2 ++ [a]).length c9), (100, .pointer (some ⟨gd, 0 + t, none⟩))]) ⟨rfl, rfl, rfl, rfl, rfl, rfl, rfl, rfl, congrArg some e14, congrArg some e15, trivial⟩ ?_;clear AL AF AA AO;refine ol (ji (by kernel_rfl) (fun _ _ d_ _ _ h => by cases d_ <;> exact h) ?_);have hO9 := Wc14.1
    have hN9 := Wc14.2;obtain ⟨r', hr'⟩ : ∃ r' : GR Nat, r' = (A9, c9, r.2.2 ++ [a]) := ⟨_, rfl⟩;have hr'2 : r'.2.2 = r.2.2 ++ [a] := by rw [hr']
    have hro' : w10.ownsRow bz 3 1 (grV r') r'.2.2.length (r'.2.2.flatMap enD) := by rw [hr']; exact hO9
    have hNn : ∀ k, (grV r').ownBlock = some k → (grV r).ownBlock = some k ∨ szK ≤ k := by rw [hr']; exact hN9
    have Bb9 := qn Mk2.rd.out hro (by decide) hxd;have hs9 := hxd.size;rw [← hszK] at hs9;refine zw (qi (cs' := ((rowsD.set t r').map grV).toArray) gu rfl rfl Bb9 rfl rfl (by rw [List.size_toArray, List.length_map]; omega) (by rw [Nat.zero_add, ← gr_set, hr']; rfl) ?_);rintro wM Bs Es;have M9 := Mk2.putD hr hro' hxd (by rw [← hszK]; exact hNn) Bs Es
    have hgdz : bz ≤ gd := by omega
    have hE9 := (hEk2.step hxd (fun q hq => Or.inl (ycv hro q hq))).step Es (fun q hq => Or.inl (show bz ≤ q by have := qt hq; omega));have hO10k := qf (qf hOk2 hxd (fun q hq hm => by have h1 := hlt10 q hq; have h2 := hwrk2 q (hZw q hm); omega)) Es (fun q hq hm => by have h1 := hlt10 q hq; have h2 := hwrk2 q (Or.inr (Or.inr (Or.inl (qt hm)))); omega)
    have hwr9 : ∀ q, Wr go gb gd rowsB (rowsD.set t r') q → q < lo2 ∨ n10 ≤ q := fun q hq => by
     rcases Wr_setD hq with h | h
     · exact hwrk2 q h
     · rcases hNn q h with h | h
       · exact hwrk2 q (hZw q (Or.inl h.symm))
       · right; omega
    have hitk : (itD f a)[k]? = some (((t : Nat) : Int), a) := by rw [hitd, List.getElem?_map, hy, ht]; rfl
    have hLl : t < (LD rowsD).length := by unfold LD; rw [List.length_map]; omega
    refine yc (zf (zh (zj (mvx rfl (za rfl (qc rfl rfl (yg (by omega)) (avx rfl (yc ?_))))))))
    exact yt (k + 1, rowsD.set t r') (by show rs.length - (k + 1) < rs.length - k; omega) ⟨rfl, rfl, rfl, rfl, rfl, rfl, rfl, rfl, trivial⟩ (⟨hkl2, hE9, by have := Es.size; omega, M9, hO10k, hwr9, by rw [List.length_set]; exact hlDk, by rw [zsz hr hr'2]; exact hPDk.step hitk hLl, by rw [zsz hr hr'2, zwv hLl]; omega⟩)
   ·
    have hk2 := of_decide_eq_false hk2;have hke2 : k = rs.length := by omega
    have hitl2 : (itD f a).length = k := by rw [hitd, List.length_map, hke2]
    have hPD1 := hPDk.next (Nat.le_of_eq hitl2);have hSD1 : xa ((LD rowsD).map List.length) ≤ cnt (itD f) (a + 1) := by
     have : cnt (itD f) (a + 1) = cnt (itD f) a + (itD f a).length := rfl;omega
    refine qe (zm (zm (ya (zf (zh (zj (mvx rfl (za rfl (qc rfl rfl (yg (by omega)) (avx rfl (yc ?_)))))))))))
    exact yt (a + 1, gs ++ [gr], Q ++ [List.replicate n 0], rowsB, rowsD) (by show N - (a + 1) < N - a; omega) ⟨rfl, rfl, rfl, rfl, rfl, rfl, trivial⟩ (⟨hal, hEk2, Mk2, by rw [hQ, ← List.replicate_succ'], hlBk, hlDk, hPB1, hPD1, hSB1, hSD1⟩)
 ·
  have hi := of_decide_eq_false hi;have hae : a = N := by omega
  rw [hae] at hPB hPD hQ;have hBok := prog_B (by rw [← hN]; exact hPB);have hDok := fun r => prog_D (f := f) (L := LD rowsD) (by rw [← hN]; exact hPD) r;obtain ⟨wS, hwS⟩ : ∃ wS, wS = w2 := ⟨_, rfl⟩;rw [← hwS] at Ma hEa;have hBS := Ma.backs;have hLBl : (LB rowsB).length = N := by unfold LB; rw [List.length_map]; exact hlB
  have hK : ∀ r W, ((LD rowsD).getD r []).length + xn N (LB rowsB) W r ≤ 8796093022208 := fun r W => by
   have h1 := zez (L := LD rowsD) r;have h2 := yek f;have h3 : cnt (itD f) a ≤ cnt (itD f) f.ins.length := cnt_le _ (by omega);have h4 := unset_le (N := N) (r := r) (B := LB rowsB) (W := W) (M := 3145728) (fun q => by
    have h1 := zez (L := LB rowsB) q;have h2 := cnt_B f a;omega)
   have h5 : N * 3145728 ≤ 1048576 * 3145728 := Nat.mul_le_mul_right _ hNb;omega
  refine qe (zm (zm (ya (zh (zp (srx (anx rfl (yb (qu (ι := Nat × List (List Nat)) (fun (r, W) => [(1, .pointer (some ⟨g1, 0, none⟩)), (4, .slice (some ⟨go, 0, none⟩) N N), (5, .slice (some ⟨gb, 0, none⟩) N N), (6, .slice (some ⟨gd, 0, none⟩) R R), (12, .int .i64 ((r : Nat) : Int))]) (fun (r, W) w' => r ≤ R ∧ Ext (SprX gs wS.heap.size) wS w' ∧ RowsB 55 35 bz w' go N n gs W ∧ W.length = N ∧ (∀ a q, q < r → (vj W a q = true ↔ Liv f a q)) ∧ ∀ a q, r ≤ q → vj W a q = false) (fun (r, _) => R - r) (0, Q) ⟨rfl, rfl, rfl, rfl, rfl, trivial⟩ (⟨Nat.zero_le _, by rw [hwS]; exact Ext.refl _ _, by rw [← hwS]; exact Ma.q, by rw [hQ, List.length_replicate], fun a q h => absurd h (Nat.not_lt_zero _), fun a q _ => by rw [hQ]; exact bitW_none _ _ _ _⟩) ?_)))))))))
  rintro ⟨r, W⟩ w12 ⟨hrR, hEr, hRW, hWl, hbit, hzero⟩;have hfr := spr_blk Ma.q Ma.fb (by decide) hEr
  refine zp (srx (mvx rfl (za rfl (zb Tryd.underlying27 rfl sz3 (by decide) rfl (za rfl (zg Tryd.underlying3 rfl rfl hfr (by rw [hfv]; rfl) (qr 103 (.int .i64 ((R : Nat) : Int)) rfl ((by rw [hRr] : (.int .i64 f.regs : Value) = _)) (za rfl (yy rfl rfl (rnx (zr rfl (fun hi2 => ?_) (fun hi2 => ?_))))))))))))
  ·
   have hi2 := of_decide_eq_true hi2;have hrl : r < R := by omega
   obtain ⟨d, hd⟩ : ∃ d, rowsD[r]? = some d := ⟨_, List.getElem?_eq_getElem (by omega)⟩;have hbd := spr_blk Ma.q Ma.rd.out (by decide) hEr;have hcd : w12.cell? ⟨gd, r, none⟩ = some (grV d) := by rw [hbd.cell, List.getElem?_toArray, List.getElem?_map, hd]; rfl
   have hdo := hDok r;have hKr := hK r W;rw [zsq hd] at hdo hKr;have hDA := Ma.reads hd (by have h1 := zez (L := LD rowsD) r; rw [zsq hd] at h1; have h2 := yek f; have h3 : cnt (itD f) a ≤ cnt (itD f) f.ins.length := cnt_le _ (by omega); omega) (fun q hq => by
    obtain ⟨i, hi, _⟩ := (hdo q).1 hq;have := (List.getElem?_eq_some_iff.1 hi).1;omega)
   have hDA2 := (hDA.lowU (Ma.q.lowU hEr)).up hEr.size;have hBA2 := (hBS.lowU (Ma.q.lowU hEr)).up hEr.size
   refine zq (zh (zp (yb (zj (mvx rfl (mvx rfl (mvx rfl (mvx rfl (za rfl (zk (j := r) Tryd.underlying59 gu rfl rfl rfl hrl (za rfl (zt Tryd.underlying28 rfl rfl (by rw [Nat.zero_add]; exact hcd) (mvx rfl (za rfl (yf en43 rfl ((spread_any f _ bz go gb N n gs W (LB rowsB) hRW hWl hN.symm hn1 (by rw [hb0]; exact Nat.le_trans hEa.size hEr.size) hBA2 hLBl hBok hs r (by omega) (fun a => hzero a r (Nat.le_refl _)) d.2.2 d.1 d.2.1 hDA2 hdo hKr N).mono ?_))))))))))))))))
   rintro e w13 ⟨rfl, W', hR2, hl2, hlv, hoth, hX2⟩;refine ⟨_, rfl, ?_⟩;have hb1 : ∀ a q, q < r + 1 → (vj W' a q = true ↔ Liv f a q) := fun a q hq => by
    rcases Nat.lt_or_ge q r with h | h
    · rw [hoth a q (by omega)]; exact hbit a q h
    · obtain rfl : q = r := by omega
      exact hlv a
   have hb2 : ∀ a q, r + 1 ≤ q → vj W' a q = false := fun a q hq => by rw [hoth a q (by omega)]; exact hzero a q (by omega)
   have hE2 := hEr.step hX2 (fun q hq => by
    rcases hq with hq | hq
    · exact Or.inl (Or.inl hq)
    · exact Or.inr (Nat.le_trans hEr.size hq))
   refine yc (zf (zh (zj (mvx rfl (za rfl (qc rfl rfl (yg (by omega)) (avx rfl (yc ?_))))))));exact yt (r + 1, W') (by show R - (r + 1) < R - r; omega) ⟨rfl, rfl, rfl, rfl, rfl, trivial⟩ (⟨hrl, hE2, hR2, hl2, hb1, hb2⟩)
  ·
   have hi2 := of_decide_eq_false hi2;have hre : r = R := by omega
   have hfin : Ext (fun q => bz ≤ q) w w12 := hEa.step hEr (fun q hq => Or.inl (show bz ≤ q by
    rcases hq with hq | hq
    · exact Ma.q.ge q hq
    · have := hEa.size; have hq : wS.heap.size ≤ q := hq; omega))
   have hbits : ∀ a q, vj W a q = true ↔ Liv f a q := fun a q => by
    rcases Nat.lt_or_ge q r with h | h
    · exact hbit a q h
    · rw [hzero a q h];exact ⟨fun h => (by cases h), fun hl => by have := (liv_in hs hl).2; omega⟩
   refine qe (zm (zm (ya (zh (srx (mvx rfl (anx rfl (zv (zu (rs := [.tmp 2]) (vs := [_]) rfl ⟨rfl, trivial⟩ ?_)))))))));exact ⟨some ⟨go, 0, none⟩, N, W, by rw [← hN]; rfl, by rw [← hN, ← hwn]; exact zix hRW hWl, hbits, hRW.rows (by omega), hfin.below (fun q h => by rw [hb0] at h; exact h)⟩
end
end Go.Proofs.YtppdgjlmeahimaaDoor
namespace Go.Proofs.YtppdgjlmeahimaaDoor
open Go.RowKit
set_option maxRecDepth 100000
def okP (f : LFn) (i : LIns) (k t w o : Nat) : Prop := Liv f t o ∧ o ≠ w ∧ ¬ (i.op = 4 ∧ k = 0 ∧ ((o : Nat) : Int) = i.a)
def IP (f : LFn) (a0 k0 n0 o0 : Nat) (L : List (List Nat)) : Prop := ∀ w o, o ∈ L.getD w [] ↔ ∃ (a : Nat) (i : LIns) (k t : Nat) (ws : List Int) (nn : Nat), f.ins[a]? = some i ∧ (vg f a i)[k]? = some (((t : Nat) : Int), ws) ∧ ws[nn]? = some ((w : Nat) : Int) ∧ okP f i k t w o ∧ (a < a0 ∨ (a = a0 ∧ (k < k0 ∨ (k = k0 ∧ (nn < n0 ∨ (nn = n0 ∧ o < o0))))))
section
variable {f : LFn} {a0 k0 n0 o0 : Nat} {L : List (List Nat)}
theorem IP.start (R : Nat) : IP f 0 0 0 0 (List.replicate R []) := fun w o => by
 constructor
 · intro h;rw [List.getD_eq_getElem?_getD, List.getElem?_replicate] at h;split at h <;> cases h
 · rintro ⟨a, i, k, t, ws, nn, _, _, _, _, h⟩;omega
theorem IP.yes {i : LIns} {t w : Nat} {ws : List Int} (h : IP f a0 k0 n0 o0 L) (hi : f.ins[a0]? = some i) (hk : (vg f a0 i)[k0]? = some (((t : Nat) : Int), ws)) (hn : ws[n0]? = some ((w : Nat) : Int)) (hw : w < L.length) (hok : okP f i k0 t w o0) : IP f a0 k0 n0 (o0 + 1) (L.set w (L.getD w [] ++ [o0])) := fun w' o => by
 have hg : (L.set w (L.getD w [] ++ [o0])).getD w' [] = if w' = w then L.getD w [] ++ [o0] else L.getD w' [] := by
  rw [List.getD_eq_getElem?_getD, List.getD_eq_getElem?_getD (i := w'), List.getElem?_set];by_cases e : w = w'
  · subst e; simp [hw]
  · have : ¬ w' = w := fun h => e h.symm;simp [e, this]
 rw [hg];constructor
 · intro hm;by_cases e : w' = w
   · subst e;rw [if_pos rfl] at hm;rcases List.mem_append.1 hm with hm | hm
     · obtain ⟨a, i', k, t', ws', nn, h1, h2, h3, h4, h5⟩ := (h w' o).1 hm;exact ⟨a, i', k, t', ws', nn, h1, h2, h3, h4, by omega⟩
     · rw [List.mem_singleton.1 hm];exact ⟨a0, i, k0, t, ws, n0, hi, hk, hn, hok, by omega⟩
   · rw [if_neg e] at hm;obtain ⟨a, i', k, t', ws', nn, h1, h2, h3, h4, h5⟩ := (h w' o).1 hm;exact ⟨a, i', k, t', ws', nn, h1, h2, h3, h4, by omega⟩
 · rintro ⟨a, i', k, t', ws', nn, h1, h2, h3, h4, h5⟩;by_cases e : a = a0 ∧ k = k0 ∧ nn = n0 ∧ o = o0
   · obtain ⟨rfl, rfl, rfl, rfl⟩ := e;rw [hi] at h1;obtain rfl := Option.some.inj h1;rw [hk] at h2;have h2 := Option.some.inj h2;have e2 : ws = ws' := congrArg Prod.snd h2;subst e2;rw [hn] at h3;have e3 : w' = w := by have := Option.some.inj h3; omega
     rw [if_pos e3];simp
   · have h6 := (h w' o).2 ⟨a, i', k, t', ws', nn, h1, h2, h3, h4, by omega⟩;split
     · rename_i e1
       subst e1;exact List.mem_append_left _ h6
     · exact h6
theorem IP.no {i : LIns} {t w : Nat} {ws : List Int} (h : IP f a0 k0 n0 o0 L) (hi : f.ins[a0]? = some i) (hk : (vg f a0 i)[k0]? = some (((t : Nat) : Int), ws)) (hn : ws[n0]? = some ((w : Nat) : Int)) (hok : ¬ okP f i k0 t w o0) : IP f a0 k0 n0 (o0 + 1) L := fun w' o => by
 rw [h w' o];constructor
 · rintro ⟨a, i', k, t', ws', nn, h1, h2, h3, h4, h5⟩;exact ⟨a, i', k, t', ws', nn, h1, h2, h3, h4, by omega⟩
 · rintro ⟨a, i', k, t', ws', nn, h1, h2, h3, h4, h5⟩;refine ⟨a, i', k, t', ws', nn, h1, h2, h3, h4, ?_⟩;by_cases e : a = a0 ∧ k = k0 ∧ nn = n0 ∧ o = o0
   · exfalso
     obtain ⟨rfl, rfl, rfl, rfl⟩ := e;rw [hi] at h1;obtain rfl := Option.some.inj h1;rw [hk] at h2;have h2 := Option.some.inj h2;have e1 : ((t : Nat) : Int) = ((t' : Nat) : Int) := congrArg Prod.fst h2;have e2 : ws = ws' := congrArg Prod.snd h2;subst e2;rw [hn] at h3;have e3 : w = w' := by have := Option.some.inj h3; omega
     have e4 : t = t' := by omega
     subst e3; subst e4;exact hok h4
   · omega
theorem IP.nextN (hs : vh f = true) {R : Nat} (hR : f.regs = ((R : Nat) : Int)) (h : IP f a0 k0 n0 o0 L) (ho : R ≤ o0) : IP f a0 k0 (n0 + 1) 0 L := fun w' o => by
 rw [h w' o];constructor
 · rintro ⟨a, i', k, t', ws', nn, h1, h2, h3, h4, h5⟩;exact ⟨a, i', k, t', ws', nn, h1, h2, h3, h4, by omega⟩
 · rintro ⟨a, i', k, t', ws', nn, h1, h2, h3, h4, h5⟩;have := (liv_in hs h4.1).2;exact ⟨a, i', k, t', ws', nn, h1, h2, h3, h4, by omega⟩
theorem IP.nextK {i : LIns} {t : Nat} {ws : List Int} (h : IP f a0 k0 n0 0 L) (hi : f.ins[a0]? = some i) (hk : (vg f a0 i)[k0]? = some (((t : Nat) : Int), ws)) (hn : ws.length ≤ n0) : IP f a0 (k0 + 1) 0 0 L := fun w' o => by
 rw [h w' o];constructor
 · rintro ⟨a, i', k, t', ws', nn, h1, h2, h3, h4, h5⟩;exact ⟨a, i', k, t', ws', nn, h1, h2, h3, h4, by omega⟩
 · rintro ⟨a, i', k, t', ws', nn, h1, h2, h3, h4, h5⟩;refine ⟨a, i', k, t', ws', nn, h1, h2, h3, h4, ?_⟩;by_cases e : a = a0 ∧ k = k0
   · obtain ⟨rfl, rfl⟩ := e;rw [hi] at h1;obtain rfl := Option.some.inj h1;rw [hk] at h2;have e2 : ws = ws' := congrArg Prod.snd (Option.some.inj h2);subst e2;have := (List.getElem?_eq_some_iff.1 h3).1;omega
   · omega
theorem IP.nextK' {i : LIns} {t : Nat} {ws : List Int} (h : IP f a0 k0 n0 0 L) (hi : f.ins[a0]? = some i) (hk : (vg f a0 i)[k0]? = some (((t : Nat) : Int), ws)) (hn : ws.length ≤ n0) : IP f a0 (k0 + 1) 0 0 L := IP.nextK h hi hk hn
theorem IP.nextA {i : LIns} (h : IP f a0 k0 0 0 L) (hi : f.ins[a0]? = some i) (hk : (vg f a0 i).length ≤ k0) : IP f (a0 + 1) 0 0 0 L := fun w' o => by
 rw [h w' o];constructor
 · rintro ⟨a, i', k, t', ws', nn, h1, h2, h3, h4, h5⟩;exact ⟨a, i', k, t', ws', nn, h1, h2, h3, h4, by omega⟩
 · rintro ⟨a, i', k, t', ws', nn, h1, h2, h3, h4, h5⟩;refine ⟨a, i', k, t', ws', nn, h1, h2, h3, h4, ?_⟩;by_cases e : a = a0
   · subst e;rw [hi] at h1;obtain rfl := Option.some.inj h1;have := (List.getElem?_eq_some_iff.1 h2).1;omega
   · omega
theorem IP.fin (h : IP f f.ins.length 0 0 0 L) (w o : Nat) : o ∈ L.getD w [] ↔ Met f w o := by
 rw [h w o];constructor
 · rintro ⟨a, i, k, t, ws, nn, h1, h2, h3, h4, _⟩;exact ⟨a, i, k, t, ws, h1, h2, List.mem_of_getElem? h3, h4.1, h4.2.1, h4.2.2⟩
 · rintro ⟨a, i, k, t, ws, h1, h2, h3, h4, h5, h6⟩;obtain ⟨nn, hn⟩ := List.mem_iff_getElem?.1 h3;exact ⟨a, i, k, t, ws, nn, h1, h2, hn, ⟨h4, h5, h6⟩, Or.inl (List.getElem?_eq_some_iff.1 h1).1⟩
end
/-! ### how many -/
def itW (f : LFn) (a : Nat) : List (Int × Unit) := match f.ins[a]? with
 | some i => (vg f a i).flatMap fun p => p.2.map fun q => (q, ())
 | none => []
theorem itW_some {f : LFn} {a : Nat} {i : LIns} (h : f.ins[a]? = some i) : itW f a = (vg f a i).flatMap fun p => p.2.map fun q => (q, ()) := by unfold itW; rw [h]
def preW (ws : List (Int × List Int)) (k : Nat) : Nat := ((ws.take k).flatMap fun p => p.2.map fun (q : Int) => (q, ())).length
theorem preW_succ {ws : List (Int × List Int)} {k : Nat} {y : Int × List Int} (h : ws[k]? = some y) : preW ws (k + 1) = preW ws k + y.2.length := by
 unfold preW;rw [List.take_add_one, h, Option.toList_some, List.flatMap_append, List.length_append];simp
theorem preW_all {ws : List (Int × List Int)} {k : Nat} (h : ws.length ≤ k) : preW ws k = (ws.flatMap fun p => p.2.map fun (q : Int) => (q, ())).length := by
 unfold preW; rw [List.take_of_length_le h]
theorem preW_le {ws : List (Int × List Int)} {k : Nat} : preW ws k ≤ (ws.flatMap fun p => p.2.map fun (q : Int) => (q, ())).length := by
 have e : ws = ws.take k ++ ws.drop k := (List.take_append_drop k ws).symm;have h : (ws.flatMap fun p => p.2.map fun (q : Int) => (q, ())) = ((ws.take k).flatMap fun p => p.2.map fun (q : Int) => (q, ())) ++ ((ws.drop k).flatMap fun p => p.2.map fun (q : Int) => (q, ())) := by
  rw [← List.flatMap_append, List.take_append_drop]
 unfold preW;rw [h, List.length_append];omega
theorem writes_len2 (i : LIns) : (yj i).length ≤ 1 + i.l.length := by
 unfold yj;split
 · omega
 · split <;> simp <;> omega
theorem waysW_len (f : LFn) (a : Nat) (i : LIns) : ((vg f a i).flatMap fun p => p.2.map fun (q : Int) => (q, ())).length ≤ 2 + i.l.length := by
 unfold vg;rw [List.flatMap_append, List.length_append];have h1 : ((ja i (yo i (a : Int))).flatMap fun p => p.2.map fun (q : Int) => (q, ())).length ≤ 1 + i.l.length := by
  have hw := writes_len2 i;cases yo i (a : Int) with
  | nil => simp [ja]
  | cons t l =>
   have hz : ((l.map fun t => ((t, []) : Int × List Int)).flatMap fun p => p.2.map fun (q : Int) => (q, ())).length = 0 := by
    induction l with
    | nil => rfl
    | cons x l ih => simpa using ih
   show ((((t, if i.op = 18 then [] else yj i) : Int × List Int) :: l.map fun t => (t, [])).flatMap fun p => p.2.map fun (q : Int) => (q, ())).length ≤ _
   rw [List.flatMap_cons, List.length_append, hz, List.length_map];show (if i.op = 18 then [] else yj i).length + 0 ≤ _
   split
   · simp
   · omega
 have h2 : ((zkv f a i).flatMap fun p => p.2.map fun (q : Int) => (q, ())).length ≤ 1 := by
  unfold zkv;split
  · simp
  · split <;> simp
 omega
theorem cnt_W (f : LFn) : ∀ a, cnt (itW f) a ≤ 2 * ((f.ins.take a).map fun x => x.l.length + 1).sum
 | 0 => Nat.le_refl _
 | a + 1 => by
  have := cnt_W f a;unfold cnt;cases hi : f.ins[a]? with
  | none =>
   have h : itW f a = [] := by unfold itW; rw [hi]
   have hl : f.ins.length ≤ a := by
    rcases Nat.lt_or_ge a f.ins.length with h1 | h1
    · rw [List.getElem?_eq_getElem h1] at hi; cases hi
    · exact h1
   rw [h, List.take_of_length_le (by omega)];rw [List.take_of_length_le hl] at this;simpa using this
  | some i =>
   have h1 := waysW_len f a i;rw [itW_some hi];have e : f.ins.take (a + 1) = f.ins.take a ++ [i] := by rw [List.take_add_one, hi]; rfl
   rw [e, List.map_append, List.sum_append, List.map_cons, List.map_nil, List.sum_cons, List.sum_nil];omega
theorem cnt_W_all (f : LFn) : cnt (itW f) f.ins.length ≤ 2 * (f.ins.map fun x => x.l.length + 1).sum := by
 have := cnt_W f f.ins.length;rwa [List.take_length] at this
end Go.Proofs.YtppdgjlmeahimaaDoor
namespace Go.Proofs.YtppdgjlmeahimaaDoor
open Go.RowKit
set_option maxRecDepth 100000
attribute [local irreducible] OW RS
structure IM (nL go g1 n0 : Nat) (fv : Array Value) (rows : List (GR Nat)) (AL : Option Addr) (W : List (List Nat)) (p : Pl) (f : LFn) (w : World) : Prop where
 g : GrowB enD 28 3 1 nL go rows w
 fb : Blk w g1 27 fv
 live : RowsW nL w AL W
 fn : FnA n0 w p f
 h1 : g1 < nL
 h0 : n0 ≤ nL
 hg : nL ≤ go
def Wi (go : Nat) (rows : List (GR Nat)) (k : Nat) : Prop := k = go ∨ ∃ r ∈ rows, (grV r).ownBlock = some k
section
variable {nL go g1 n0 : Nat} {fv : Array Value} {rows : List (GR Nat)} {AL : Option Addr} {W : List (List Nat)} {p : Pl} {f : LFn} {w w1 w2 : World}
theorem IM.no (h : IM nL go g1 n0 fv rows AL W p f w) (k : Ext No w w1) : IM nL go g1 n0 fv rows AL W p f w1 :=
 ⟨h.g.no k, h.fb.ext k (fun h => h.elim), h.live.low (X := No) ⟨k, fun _ h => h.elim⟩, h.fn.low (X := No) ⟨k, fun _ h => h.elim⟩, h.h1, h.h0, h.hg⟩
theorem IM.wge (h : IM nL go g1 n0 fv rows AL W p f w) {q : Nat} (hq : Wi go rows q) : nL ≤ q := by
 rcases hq with rfl | ⟨r, hr, hq⟩
 · exact h.hg
 · exact jj (h.g.own r hr) q hq
theorem IM.wlt (h : IM nL go g1 n0 fv rows AL W p f w) {q : Nat} (hq : Wi go rows q) : q < w.heap.size := by
 rcases hq with rfl | ⟨r, hr, hq⟩
 · exact h.g.out.lt
 · exact h.g.lt hr hq
theorem IM.put (h : IM nL go g1 n0 fv rows AL W p f w) {i : Nat} {r r' : GR Nat} (hi : rows[i]? = some r)
 (h1 : w1.ownsRow nL 3 1 (grV r') r'.2.2.length (r'.2.2.flatMap enD)) (k1 : Ext (Mut [(grV r).ownBlock]) w w1) (hnew : ∀ k, (grV r').ownBlock = some k → (grV r).ownBlock = some k ∨ w.heap.size ≤ k)
 (h2 : Blk w2 go 28 ((rows.set i r').map grV).toArray) (k2 : Ext (Mut [some go]) w1 w2) : IM nL go g1 n0 fv (rows.set i r') AL W p f w2 := by
 have hrm := List.mem_of_getElem? hi;have g1' : ∀ q, Mut [(grV r).ownBlock] q → nL ≤ q := fun q hq => h.wge (Or.inr ⟨r, hrm, jo hq⟩);have g2' : ∀ q, Mut [some go] q → nL ≤ q := fun q hq => h.wge (Or.inl (qt hq));have := h.h1;have := h.h0;exact ⟨h.g.put hi (by decide) h1 k1 hnew h2 k2, (h.fb.ext k1 fun hq => by have := g1' _ hq; omega).ext k2 fun hq => by have := g2' _ hq; omega,
  (h.live.low ⟨k1, g1'⟩).low ⟨k2, g2'⟩, (h.fn.low ⟨k1, fun q hq => by have := g1' q hq; omega⟩).low ⟨k2, fun q hq => by have := g2' q hq; omega⟩, h.h1, h.h0, h.hg⟩
theorem Wi_set {i k : Nat} {r' : GR Nat} (h : Wi go (rows.set i r') k) : Wi go rows k ∨ (grV r').ownBlock = some k := by
 rcases h with h | ⟨r, hr, h⟩
 · exact Or.inl (Or.inl h)
 · rcases List.mem_or_eq_of_mem_set hr with hr | rfl
   · exact Or.inl (Or.inr ⟨r, hr, h⟩)
   · exact Or.inr h
end
section
variable (w : World) (p : Pl) (f : LFn) (n0 : Nat) (hF : FnA n0 w p f) (hs : vh f = true) (hbk : (f.ins.map fun x => x.l.length + 1).sum ≤ 1048576)
include hF hs hbk
theorem interfere_any (R : Nat) (hRr : f.regs = (R : Int)) : Calls Tryd.prog 24 #[fnV p f] w fun e w' => ∃ go rows, e = .returned (.slice (some ⟨go, 0, none⟩) R R) ∧ rows.length = R ∧ (∀ r o, o ∈ (LD rows).getD r [] ↔ Met f r o) ∧ (∃ nL, GrowB enD 28 3 1 nL go rows w') ∧ Below w.heap.size w w' := by
 obtain ⟨hr0, hr1, hp0, hp1, hne⟩ := gl hs;obtain ⟨N, hN⟩ : ∃ N, N = f.ins.length := ⟨_, rfl⟩;obtain ⟨bz, hb0⟩ : ∃ bz, bz = w.heap.size := ⟨_, rfl⟩;have hNb : N ≤ 1048576 := by rw [hN]; exact Nat.le_trans (ins_le f) hbk
 have hn0 := hF.size;have hR6 : R ≤ 65536 := by omega
 have hmul : ∀ c, c ≤ 2097152 → R * c ≤ 137438953472 := fun c hc => Nat.le_trans (Nat.mul_le_mul hR6 hc) (by decide);refine qs Tryd.func24 rfl Tryd.ntmps24 rfl (srx (za rfl (vk rfl ?_)));rintro g1 wA B1 E1 G1;have hFA : FnA n0 wA p f := hF.low (X := No) ⟨E1, fun _ h => h.elim⟩
 refine anx rfl (srx (za rfl (zo Tryd.underlying27 rfl jp rfl B1 rfl (za rfl (yf en22 rfl ((rlive_any _ p f n0 hFA hs hbk).mono ?_))))));rintro e w1 ⟨AL, cL, W, rfl, hW64, hbit, hA, hb⟩;refine ⟨_, rfl, ?_⟩;have E2 := Ext.of_below hb No;obtain ⟨nL, hnL⟩ : ∃ nL, nL = w1.heap.size := ⟨_, rfl⟩;rw [← hnL] at hA;have hFB := hFA.low (X := No) ⟨E2, fun _ h => h.elim⟩
 have B1b := B1.ext E2 (fun h => h.elim);have h1L : g1 < nL := by rw [hnL]; exact B1b.lt
 have h0L : n0 ≤ nL := by have := E1.size; have := E2.size; omega
 refine anx rfl (srx (za rfl (zb Tryd.underlying27 rfl sz3 (by decide) rfl (za rfl (zg Tryd.underlying3 rfl rfl B1b rfl (za rfl (zbz (n := R) Tryd.underlying59 inf28 rfl rfl rfl hRr hRr (by omega) (by omega) ?_)))))));rintro go wC Bo E3 Go;have hs1 := E1.size;have hs2 := E2.size;have hs3 := E3.size
 obtain ⟨fv, hfv⟩ : ∃ fv : Array Value, fv = #[.string f.name, .int .i64 f.params, .int .i64 f.regs, .int .i64 f.frees, .bool f.gen, .int .i64 f.bound, .slice p.an f.names.length p.cn, .slice p.ac f.consts.length p.cc, .slice p.ai f.ins.length p.ci, .slice p.ar f.rgs.length p.cr] := ⟨_, rfl⟩;have M0 : IM nL go g1 n0 fv (List.replicate R (none, 0, [])) AL W p f wC :=
  ⟨GrowB.nil R Bo, by rw [hfv]; exact B1b.ext E3 (fun h => h.elim), hA.low (X := No) ⟨E3, fun _ h => h.elim⟩, hFB.low (X := No) ⟨E3, fun _ h => h.elim⟩, h1L, h0L, by omega⟩
 have hEC : Ext (fun q => bz ≤ q) w wC := ((E1.mono (Y := fun q => bz ≤ q) (fun _ h _ => h.elim)).step E2 (fun _ h => h.elim)).step E3 (fun _ h => h.elim)
 refine anx rfl (zp (srx (anx rfl (yb (qu (ι := Nat × List (GR Nat)) (fun (a, rows) => [(1, .pointer (some ⟨g1, 0, none⟩)), (3, .slice AL f.ins.length cL), (4, .slice (some ⟨go, 0, none⟩) R R), (5, .int .i64 ((a : Nat) : Int))]) (fun (a, rows) w' => a ≤ N ∧ Ext (fun q => bz ≤ q) w w' ∧ IM nL go g1 n0 fv rows AL W p f w' ∧ rows.length = R ∧ IP f a 0 0 0 (LD rows) ∧ xa ((LD rows).map List.length) ≤ R * cnt (itW f) a) (fun (a, _) => N - a) (0, List.replicate R (none, 0, [])) ⟨rfl, rfl, rfl, rfl, trivial⟩ (⟨Nat.zero_le _, hEC, M0, List.length_replicate, by rw [LD_nil]; exact IP.start R, by rw [LD_nil, sum_zero]; exact Nat.zero_le _⟩) ?_)))))
 rintro ⟨a, rows⟩ w3 ⟨haN, hEa, Ma, hla, hPa, hSa⟩;refine zp (srx (mvx rfl (za rfl (zb Tryd.underlying27 rfl gz (by decide) rfl (za rfl (zg Tryd.underlying24 rfl rfl Ma.fb (by rw [hfv]; rfl) (za rfl (yw Tryd.underlying24 rfl (za rfl (yy rfl rfl (rnx (zr rfl (fun hi => ?_) (fun hi => ?_)))))))))))))
 ·
  have hi := of_decide_eq_true hi;have hal : a < N := by omega
  have hal' : a < f.ins.length := by omega
  obtain ⟨x, hx⟩ : ∃ x, f.ins[a]? = some x := ⟨_, List.getElem?_eq_getElem hal'⟩;obtain ⟨gi, oi, hAi, hgi, hcx⟩ := Ma.fn.ins.row.at hx;obtain ⟨hI, B, cB, hcB, hl, hcells⟩ := hcx
  refine zq (zh (zp (yb (srx (za rfl (zb Tryd.underlying27 rfl gz (by decide) rfl (za rfl (zg Tryd.underlying24 rfl rfl Ma.fb (by rw [hfv]; rfl) (mvx rfl (za rfl (yi (j := a) Tryd.underlying24 vx (congrArg (fun z ↦ some (Value.slice z f.ins.length p.ci)) hAi) rfl rfl hal' (za rfl (jb (cs := (jr x B cB).toArray) Tryd.underlying41 rfl vx rfl rfl (fun j v hj ↦ hcells j v (by simpa using hj)) (za rfl (qb zpk ?_)))))))))))))))
  rintro g6 wE B60 E5 G6;refine zw (qz vx rfl rfl B60 rfl rfl rfl ?_);rintro wF B6 E6;have Me := Ma.no E5;have hg6 : nL ≤ g6 := by have := Ma.g.out.lt; have := Ma.hg; omega
  have M6 : IM nL go g1 n0 fv rows AL W p f wF := ⟨Me.g.blk B60 (by decide) (by decide) E6, zjx Me.fb B60 (by decide) E6, Me.live.low ⟨E6, fun q hq => by have := qt hq; omega⟩, Me.fn.low ⟨E6, fun q hq => by have := qt hq; have := Me.h0; omega⟩, Me.h1, Me.h0, Me.hg⟩;have hE6 := (hEa.step E5 (fun _ h => h.elim)).step E6 (fun q hq => Or.inl (show bz ≤ q by have := qt hq; omega))
  refine rnx (srx (za rfl (zo Tryd.underlying27 rfl jp rfl M6.fb (by rw [hfv]; rfl) (qr 29 (.agg #[.string f.name, .int .i64 f.params, .int .i64 f.regs, .int .i64 f.frees, .bool f.gen, .int .i64 f.bound, .slice p.an f.names.length p.cn, .slice p.ac f.consts.length p.cc, .slice p.ai f.ins.length p.ci, .slice p.ar f.rgs.length p.cr]) rfl ((by rw [hfv] : (.agg fv : Value) = _)) (mvx rfl (za rfl (yf en42 rfl ((rways_any _ p f n0 M6.fn a x hx).mono ?_))))))))
  rintro e w4 ⟨A8, c8, rfl, hW8, hb⟩;refine ⟨_, rfl, ?_⟩;have E7 := Ext.of_below hb No;have M7 := M6.no E7;have hE7 := hE6.step E7 (fun _ h => h.elim);have B67 := B6.ext E7 (fun h => h.elim);obtain ⟨lo, hlo⟩ : ∃ lo, lo = wF.heap.size := ⟨_, rfl⟩;obtain ⟨n8, hn8⟩ : ∃ n8, n8 = w4.heap.size := ⟨_, rfl⟩;rw [← hlo, ← hn8] at hW8
  have hwr7 : ∀ q, Wi go rows q → q < lo ∨ n8 ≤ q := fun q hq => Or.inl (by rw [hlo]; exact M6.wlt hq);have hlen8 := ybv f a x;have hct1 : cnt (itW f) (a + 1) = cnt (itW f) a + (itW f a).length := rfl;have hct2 := cnt_le (itW f) (a := a + 1) (N := f.ins.length) (by omega);have hct3 := cnt_W_all f;obtain ⟨ws8, hws8⟩ : ∃ ws8, ws8 = vg f a x := ⟨_, rfl⟩;have hitw := itW_some hx
  rw [← hws8] at hW8 hlen8 hitw
  refine anx rfl (srx (anx rfl (yb (zy 7 (.slice A8 ws8.length c8) rfl ((by rw [hws8] : (.slice A8 (vg f a x).length c8 : Value) = _)) (qu (ι := Nat × List (GR Nat)) (fun (k, rows) => [(1, .pointer (some ⟨g1, 0, none⟩)), (3, .slice AL f.ins.length cL), (4, .slice (some ⟨go, 0, none⟩) R R), (5, .int .i64 ((a : Nat) : Int)), (6, .pointer (some ⟨g6, 0, none⟩)), (7, .slice A8 ws8.length c8), (8, .int .i64 ((k : Nat) : Int))]) (fun (k, rows) w' => k ≤ ws8.length ∧ Ext (fun q => bz ≤ q) w w' ∧ n8 ≤ w'.heap.size ∧ IM nL go g1 n0 fv rows AL W p f w' ∧ Blk w' g6 41 (jr x B cB).toArray ∧ WaysA lo n8 w' A8 ws8 ∧ (∀ q, Wi go rows q → q < lo ∨ n8 ≤ q) ∧ rows.length = R ∧ IP f a k 0 0 (LD rows) ∧ xa ((LD rows).map List.length) ≤ R * (cnt (itW f) a + preW ws8 k)) (fun (k, _) => ws8.length - k) (0, rows) ⟨rfl, rfl, rfl, rfl, rfl, rfl, rfl, trivial⟩ (⟨Nat.zero_le _, hE7, by rw [hn8]; exact Nat.le_refl _, M7, B67, hW8, hwr7, hla, hPa, hSa⟩) ?_)))))
  rintro ⟨k, rows⟩ w6 ⟨hkl, hEk, hsk, Mk, B6k, hWk, hwrk, hlk, hPk, hSk⟩;refine zp (srx (mvx rfl (mvx rfl (za rfl (yw Tryd.underlying76 rfl (za rfl (yy rfl rfl (rnx (zr rfl (fun hk => ?_) (fun hk => ?_))))))))))
  ·
   have hk := of_decide_eq_true hk;have hkl2 : k < ws8.length := by omega
   obtain ⟨y, hy⟩ : ∃ y, ws8[k]? = some y := ⟨_, List.getElem?_eq_getElem hkl2⟩;have hyw : y ∈ vg f a x := by rw [← hws8]; exact List.mem_of_getElem? hy
   have hyin := yhx hs hx hyw;obtain ⟨t, ht⟩ : ∃ t : Nat, y.1 = (t : Int) := ⟨y.1.toNat, by omega⟩;have htN : t < f.ins.length := by omega
   have hyt : (vg f a x)[k]? = some (((t : Nat) : Int), y.2) := by rw [← hws8, hy, ← ht]
   have hpre := preW_succ hy;have hprel := preW_le (ws := ws8) (k := k + 1);have hcap : cnt (itW f) a + preW ws8 k + y.2.length ≤ 2097152 := by rw [hitw] at hct1; omega
   refine zq (zh (zp (yb (srx (anx rfl (yb (qu (ι := Nat × List (GR Nat)) (fun (nn, rows) => [(1, .pointer (some ⟨g1, 0, none⟩)), (3, .slice AL f.ins.length cL), (4, .slice (some ⟨go, 0, none⟩) R R), (5, .int .i64 ((a : Nat) : Int)), (6, .pointer (some ⟨g6, 0, none⟩)), (7, .slice A8 ws8.length c8), (8, .int .i64 ((k : Nat) : Int)), (9, .int .i64 ((nn : Nat) : Int))]) (fun (nn, rows) w' => nn ≤ y.2.length ∧ Ext (fun q => bz ≤ q) w w' ∧ n8 ≤ w'.heap.size ∧ IM nL go g1 n0 fv rows AL W p f w' ∧ Blk w' g6 41 (jr x B cB).toArray ∧ WaysA lo n8 w' A8 ws8 ∧ (∀ q, Wi go rows q → q < lo ∨ n8 ≤ q) ∧ rows.length = R ∧ IP f a k nn 0 (LD rows) ∧ xa ((LD rows).map List.length) ≤ R * (cnt (itW f) a + preW ws8 k + nn)) (fun (nn, _) => y.2.length - nn) (0, rows) ⟨rfl, rfl, rfl, rfl, rfl, rfl, rfl, rfl, trivial⟩ (⟨Nat.zero_le _, hEk, hsk, Mk, B6k, hWk, hwrk, hlk, hPk, hSk⟩) ?_)))))))
   rintro ⟨nn, rows⟩ w8 ⟨hnl, hEn, hsn, Mn, B6n, hWn, hwrn, hln, hPn, hSn⟩;obtain ⟨g8, o8, hA8, hg8, C, cC, hI8, hq8, hc8⟩ := RowS.at hWn.row hy
   refine zp (srx (mvx rfl (mvx rfl (mvx rfl (za rfl (yi (j := k) Tryd.underlying76 oz (congrArg (fun z ↦ some (Value.slice z ws8.length c8)) hA8) rfl rfl hkl2 (za rfl (zb Tryd.underlying80 rfl gu (by decide) rfl (za rfl (zt Tryd.underlying28 rfl rfl (hc8 1 _ rfl) (za rfl (yw Tryd.underlying28 rfl (za rfl (yy rfl rfl (rnx (zr rfl (fun hn => ?_) (fun hn => ?_)))))))))))))))))
   ·
    have hn := of_decide_eq_true hn;have hnl2 : nn < y.2.length := by omega
    obtain ⟨wz, hwz⟩ : ∃ wz, y.2[nn]? = some wz := ⟨_, List.getElem?_eq_getElem hnl2⟩;have hwin := hyin.2 wz (List.mem_of_getElem? hwz);obtain ⟨wn, hwn⟩ : ∃ wn : Nat, wz = (wn : Int) := ⟨wz.toNat, by omega⟩;have hwt : y.2[nn]? = some ((wn : Nat) : Int) := by rw [hwz, hwn]
    have hwR : wn < R := by omega
    obtain ⟨gC, oC, hAC, hgC, hcC⟩ := hI8.cell hwt
    refine zq (zh (zp (yb (srx (mvx rfl (mvx rfl (za rfl (yi (j := k) Tryd.underlying76 oz (congrArg (fun z ↦ some (Value.slice z ws8.length c8)) hA8) rfl rfl hkl2 (za rfl (zb Tryd.underlying80 rfl gu (by decide) rfl (za rfl (zt Tryd.underlying28 rfl rfl (hc8 1 _ rfl) (mvx rfl (za rfl (zk (j := nn) Tryd.underlying28 sz3 (congrArg (fun z ↦ some (Value.slice z y.2.length cC)) hAC) rfl rfl hnl2 (za rfl (zt Tryd.underlying3 rfl rfl hcC (anx rfl (srx (anx rfl (yb (qu (ι := Nat × List (GR Nat)) (fun (o, rows) => [(1, .pointer (some ⟨g1, 0, none⟩)), (3, .slice AL f.ins.length cL), (4, .slice (some ⟨go, 0, none⟩) R R), (5, .int .i64 ((a : Nat) : Int)), (6, .pointer (some ⟨g6, 0, none⟩)), (7, .slice A8 ws8.length c8), (8, .int .i64 ((k : Nat) : Int)), (9, .int .i64 ((nn : Nat) : Int)), (10, .int .i64 ((wn : Nat) : Int)), (11, .int .i64 ((o : Nat) : Int))]) (fun (o, rows) w' => o ≤ R ∧ Ext (fun q => bz ≤ q) w w' ∧ n8 ≤ w'.heap.size ∧ IM nL go g1 n0 fv rows AL W p f w' ∧ Blk w' g6 41 (jr x B cB).toArray ∧ WaysA lo n8 w' A8 ws8 ∧ (∀ q, Wi go rows q → q < lo ∨ n8 ≤ q) ∧ rows.length = R ∧ IP f a k nn o (LD rows) ∧ xa ((LD rows).map List.length) ≤ R * (cnt (itW f) a + preW ws8 k + nn) + o) (fun (o, _) => R - o) (0, rows) ⟨rfl, rfl, rfl, rfl, rfl, rfl, rfl, rfl, rfl, rfl, trivial⟩ (⟨Nat.zero_le _, hEn, hsn, Mn, B6n, hWn, hwrn, hln, hPn, hSn⟩) ?_))))))))))))))))))))))
    rintro ⟨o, rows⟩ w10 ⟨hoR, hEo, hso, Mo, B6o, hWo, hwro, hlo, hPo, hSo⟩;have hmulo := hmul (cnt (itW f) a + preW ws8 k + nn) (by omega)
    refine zp (srx (mvx rfl (za rfl (zb Tryd.underlying27 rfl sz3 (by decide) rfl (za rfl (zg Tryd.underlying3 rfl rfl Mo.fb (by rw [hfv]; rfl) (qr 58 (.int .i64 ((R : Nat) : Int)) rfl ((by rw [hRr] : (.int .i64 f.regs : Value) = _)) (za rfl (yy rfl rfl (rnx (zr rfl (fun ho => ?_) (fun ho => ?_))))))))))))
    ·
     have ho := of_decide_eq_true ho;have hoR : o < R := by omega
     have e0 : Ext No w10 w10 := Ext.refl _ _;refine zq (zh (zp (yb (zp (srx (mvx rfl (mvx rfl (za rfl (yn rfl rfl (mvx rfl (yx 65 rfl (fun h64 => ?_) (fun h64 => ?_))))))))))))
     ·
      have h64 : o = wn := by have := eq_of_beq h64; omega
      refine za rfl (zc rfl (za rfl (zc rfl (za rfl (zc rfl (za rfl (zc rfl (za rfl (zc rfl (za rfl (zc rfl (za rfl (zc rfl (za rfl (zc rfl (za rfl (zc rfl (za rfl (zc rfl (za rfl (zc rfl (za rfl (zx rfl rfl (mvx rfl (za rfl (zc rfl (za rfl (zc rfl (za rfl (zc rfl (za rfl (zc rfl (za rfl (yp rfl rfl (za rfl (yp rfl rfl (za rfl (zc rfl (za rfl (zc rfl (za rfl (yp rfl rfl (za rfl (yp rfl rfl (za rfl (yp rfl rfl (za rfl (yp rfl rfl (za rfl (zc rfl (za rfl (zx rfl rfl (rnx (yr rfl (qe (zm (ya (zh (zj (mvx rfl (za rfl (qc rfl rfl (yg (by omega)) (avx rfl (yc ?_))))))))))))))))))))))))))))))))))))))))))))))))))))))))))))))))
      exact yt (o + 1, rows) (by show R - (o + 1) < R - o; omega) ⟨rfl, rfl, rfl, rfl, rfl, rfl, rfl, rfl, rfl, rfl, trivial⟩ (⟨hoR, hEo.step e0 (fun _ h => h.elim), by have := e0.size; omega, Mo.no e0, B6o.ext e0 (fun h => h.elim), hWo.mid e0 (fun _ h => h.elim), hwro, hlo, IP.no hPo hx hyt hwt (fun h => h.2.1 h64), by omega⟩)
     ·
      have h64 : o ≠ wn := fun e => by subst e; simp at h64
      obtain ⟨g8, o8, hA8, hg8, C, cC, hI8, hq8, hc8⟩ := RowS.at hWo.row hy;rw [ht] at hc8;obtain ⟨row, hrow⟩ : ∃ row, W[t]? = some row := ⟨_, List.getElem?_eq_getElem (by rw [hW64.1]; exact htN)⟩;obtain ⟨gL, oL, hAL, hgL, BL, cBL, hU, hcL⟩ := RowS.at Mo.live hrow;rw [Nat.mul_one] at hcL;have hbw : gn row o = vj W t o := by unfold vj; rw [List.getD_eq_getElem?_getD, hrow]; rfl
      refine onx rfl (zl rfl (onx rfl (zl rfl (onx rfl (zl rfl (onx rfl (yi (j := k) Tryd.underlying76 oz (congrArg (fun z ↦ some (Value.slice z ws8.length c8)) hA8) rfl rfl hkl2 (onx rfl (zb Tryd.underlying80 rfl sz3 (by decide) rfl (onx rfl (zt Tryd.underlying3 rfl rfl (hc8 0 _ rfl) (onx rfl (zk (j := t) Tryd.underlying52 zhk (congrArg (fun z ↦ some (Value.slice z f.ins.length cL)) hAL) rfl rfl htN (onx rfl (zt Tryd.underlying55 rfl rfl hcL (onx rfl (zl rfl (onx rfl (yf en23 rfl ((is_any _ BL cBL nL row hU o (by omega)).mono ?_))))))))))))))))))))
      rintro e w11 ⟨rfl, hb⟩;refine ⟨_, rfl, ?_⟩;have eI := Ext.of_below hb No;refine onx rfl (jg rfl (za rfl (yd rfl rfl (mvx rfl (yx 78 rfl (fun h75 => ?_) (fun h75 => ?_))))))
      ·
       have h75 : gn row o = false := by simpa using h75
       rw [hbw] at h75
       refine za rfl (zc rfl (za rfl (zc rfl (za rfl (zc rfl (za rfl (zc rfl (za rfl (yp rfl rfl (za rfl (yp rfl rfl (za rfl (zc rfl (za rfl (zc rfl (za rfl (yp rfl rfl (za rfl (yp rfl rfl (za rfl (yp rfl rfl (za rfl (yp rfl rfl (za rfl (zc rfl (za rfl (zx rfl rfl (rnx (yr rfl (qe (zm (ya (zh (zj (mvx rfl (za rfl (qc rfl rfl (yg (by omega)) (avx rfl (yc ?_)))))))))))))))))))))))))))))))))))))))
       exact yt (o + 1, rows) (by show R - (o + 1) < R - o; omega) ⟨rfl, rfl, rfl, rfl, rfl, rfl, rfl, rfl, rfl, rfl, trivial⟩ (⟨hoR, hEo.step eI (fun _ h => h.elim), by have := eI.size; omega, Mo.no eI, B6o.ext eI (fun h => h.elim), hWo.mid eI (fun _ h => h.elim), hwro, hlo, IP.no hPo hx hyt hwt (fun h => by have := (hbit t o).2 h.1; rw [this] at h75; cases h75), by omega⟩)
      ·
       have h75 : gn row o = true := by simpa using h75
       rw [hbw] at h75;refine onx rfl (zb Tryd.underlying41 rfl sz3 (by decide) rfl (onx rfl (zg Tryd.underlying3 rfl rfl (B6o.ext eI (fun h ↦ h.elim)) rfl (onx rfl (yn rfl rfl (onx rfl (zl rfl (yx 82 rfl (fun h81 => ?_) (fun h81 => ?_)))))))))
       ·
        have h81 : x.op = 4 := eq_of_beq h81;refine onx rfl (zl rfl (onx rfl (yn rfl rfl (onx rfl (zx rfl rfl (onx rfl (zl rfl (yx 86 rfl (fun h84 => ?_) (fun h84 => ?_)))))))))
        ·
         have h84 : k = 0 := by have := eq_of_beq h84; omega
         refine onx rfl (zl rfl (onx rfl (zb Tryd.underlying41 rfl sz3 (by decide) rfl (onx rfl (zg Tryd.underlying3 rfl rfl (B6o.ext eI (fun h ↦ h.elim)) rfl (onx rfl (yn rfl rfl (onx rfl (zx rfl rfl (za rfl (yd rfl rfl (rnx (zr rfl (fun h90 => ?_) (fun h90 => ?_))))))))))))))
         ·
          have h90 : ((o : Nat) : Int) = x.a := eq_of_beq h90;refine qe (zm (ya (zh (zj (mvx rfl (za rfl (qc rfl rfl (yg (by omega)) (avx rfl (yc ?_)))))))))
          exact yt (o + 1, rows) (by show R - (o + 1) < R - o; omega) ⟨rfl, rfl, rfl, rfl, rfl, rfl, rfl, rfl, rfl, rfl, trivial⟩ (⟨hoR, hEo.step eI (fun _ h => h.elim), by have := eI.size; omega, Mo.no eI, B6o.ext eI (fun h => h.elim), hWo.mid eI (fun _ h => h.elim), hwro, hlo, IP.no hPo hx hyt hwt (fun h => h.2.2 ⟨h81, h84, h90⟩), by omega⟩)
         ·
          have h90 : ((o : Nat) : Int) ≠ x.a := by simpa using h90
          have hok : okP f x k t wn o := ⟨(hbit t o).1 h75, h64, (fun h => h90 h.2.2)⟩;have Mz := Mo.no eI;obtain ⟨r, hr⟩ : ∃ r, rows[wn]? = some r := ⟨_, List.getElem?_eq_getElem (by omega)⟩;have hcr := Mz.g.cell hr;have hrm := List.mem_of_getElem? hr;have hro := Mz.g.own r hrm;have hrl : r.2.2.length ≤ 274877906944 := by
           have h1 := zez (L := LD rows) wn;rw [zsq hr] at h1;omega
          have hrl9 : (r.2.2 ++ [o]).length = r.2.2.length + 1 := by rw [List.length_append]; rfl
          refine zq (zh (zj (mvx rfl (mvx rfl (mvx rfl (mvx rfl (za rfl (zk (j := wn) Tryd.underlying59 gu rfl rfl rfl hwR (za rfl (zt Tryd.underlying28 rfl rfl (by rw [Nat.zero_add]; exact hcr) (mvx rfl (za rfl (yl (cs := #[.int .i64 ((o : Nat) : Int)]) Tryd.underlying28 sz3 zr3 (by decide) rfl (by rw [ym]; rfl) ?_)))))))))))))
          rintro gy wY By E5 Gy;have My := Mz.no E5;have hroy := My.g.own r hrm;have hs5 := E5.size;have hs4 := eI.size;have hsz := hEo.size
          refine za rfl (ju (n' := (r.2.2 ++ [o]).length) (xs' := (r.2.2 ++ [o]).flatMap enD) Tryd.underlying28 ou rfl (by decide) rfl hroy rfl (vn By By.lt rfl) (by simp [Value.oneCell']) hrl9.symm (by rw [List.flatMap_append]; rfl) (by rw [hrl9]; unfold maxLen; omega) (by rw [hrl9]; omega) (by have := My.g.out.lt; have := My.hg; omega) ?_);rintro A9 c9 wZ O9 E6 N9
          obtain ⟨r', hr'⟩ : ∃ r' : GR Nat, r' = (A9, c9, r.2.2 ++ [o]) := ⟨_, rfl⟩;have hr'2 : r'.2.2 = r.2.2 ++ [o] := by rw [hr']
          have hro' : wZ.ownsRow nL 3 1 (grV r') r'.2.2.length (r'.2.2.flatMap enD) := by rw [hr']; exact O9
          have hNn : ∀ k, (grV r').ownBlock = some k → (grV r).ownBlock = some k ∨ wY.heap.size ≤ k := by rw [hr']; exact N9
          have Bg := qn My.g.out hroy (by decide) E6;have hs6 := E6.size;refine za rfl (zk (j := wn) Tryd.underlying59 gu rfl rfl rfl hwR (zw (qi (cs' := ((rows.set wn r').map grV).toArray) gu rfl rfl Bg rfl rfl (by rw [List.size_toArray, List.length_map]; omega) (by rw [Nat.zero_add, ← gr_set, hr']; rfl) ?_)));rintro wX Bs E7
          have M9 := My.put hr hro' E6 hNn Bs E7;have hZw : ∀ q, Mut [(grV r).ownBlock] q → Wi go rows q := fun q hq => Or.inr ⟨r, hrm, jo hq⟩
          have hE9 := (((hEo.step eI (fun _ h => h.elim)).step E5 (fun _ h => h.elim)).step E6 (fun q hq => Or.inl (show bz ≤ q by have := My.wge (hZw q hq); omega))).step E7 (fun q hq => Or.inl (show bz ≤ q by have := My.wge (Or.inl (qt hq)); omega))
          have hW9 := (((hWo.mid eI (fun _ h => h.elim)).mid E5 (fun _ h => h.elim)).mid E6 (fun q hq => hwro q (hZw q hq))).mid E7 (fun q hq => hwro q (Or.inl (qt hq)));have B69 := zjx (qn ((B6o.ext eI (fun h => h.elim)).ext E5 (fun h => h.elim)) hroy (by decide) E6) Bg (by decide) E7;have hwr9 : ∀ q, Wi go (rows.set wn r') q → q < lo ∨ n8 ≤ q := fun q hq => by
           rcases Wi_set hq with h | h
           · exact hwro q h
           · rcases hNn q h with h | h
             · exact hwro q (hZw q (Or.inl h.symm))
             · right; omega
          have hLl : wn < (LD rows).length := by unfold LD; rw [List.length_map]; omega
          refine yc (zf (zh (zj (mvx rfl (za rfl (qc rfl rfl (yg (by omega)) (avx rfl (yc ?_))))))))
          exact yt (o + 1, rows.set wn r') (by show R - (o + 1) < R - o; omega) ⟨rfl, rfl, rfl, rfl, rfl, rfl, rfl, rfl, rfl, rfl, trivial⟩ (⟨hoR, hE9, by have := E7.size; omega, M9, B69, hW9, hwr9, by rw [List.length_set]; exact hlo, by rw [zsz hr hr'2]; exact IP.yes hPo hx hyt hwt hLl hok, by rw [zsz hr hr'2, zwv hLl]; omega⟩)
        ·
         have h84 : k ≠ 0 := fun e => by subst e; simp at h84
         have hok : okP f x k t wn o := ⟨(hbit t o).1 h75, h64, (fun h => h84 h.2.1)⟩;have Mz := Mo.no eI;obtain ⟨r, hr⟩ : ∃ r, rows[wn]? = some r := ⟨_, List.getElem?_eq_getElem (by omega)⟩;have hcr := Mz.g.cell hr;have hrm := List.mem_of_getElem? hr;have hro := Mz.g.own r hrm;have hrl : r.2.2.length ≤ 274877906944 := by
          have h1 := zez (L := LD rows) wn;rw [zsq hr] at h1;omega
         have hrl9 : (r.2.2 ++ [o]).length = r.2.2.length + 1 := by rw [List.length_append]; rfl
         refine za rfl (zc rfl (za rfl (zc rfl (za rfl (zc rfl (za rfl (zc rfl (onx rfl (yd rfl rfl (za rfl (yd rfl rfl (rnx (qp rfl (zq (zh (zj (mvx rfl (mvx rfl (mvx rfl (mvx rfl (za rfl (zk (j := wn) Tryd.underlying59 gu rfl rfl rfl hwR (za rfl (zt Tryd.underlying28 rfl rfl (by rw [Nat.zero_add]; exact hcr) (mvx rfl (za rfl (yl (cs := #[.int .i64 ((o : Nat) : Int)]) Tryd.underlying28 sz3 zr3 (by decide) rfl (by rw [ym]; rfl) ?_)))))))))))))))))))))))))))
         rintro gy wY By E5 Gy;have My := Mz.no E5;have hroy := My.g.own r hrm;have hs5 := E5.size;have hs4 := eI.size;have hsz := hEo.size
         refine za rfl (ju (n' := (r.2.2 ++ [o]).length) (xs' := (r.2.2 ++ [o]).flatMap enD) Tryd.underlying28 ou rfl (by decide) rfl hroy rfl (vn By By.lt rfl) (by simp [Value.oneCell']) hrl9.symm (by rw [List.flatMap_append]; rfl) (by rw [hrl9]; unfold maxLen; omega) (by rw [hrl9]; omega) (by have := My.g.out.lt; have := My.hg; omega) ?_);rintro A9 c9 wZ O9 E6 N9
         obtain ⟨r', hr'⟩ : ∃ r' : GR Nat, r' = (A9, c9, r.2.2 ++ [o]) := ⟨_, rfl⟩;have hr'2 : r'.2.2 = r.2.2 ++ [o] := by rw [hr']
         have hro' : wZ.ownsRow nL 3 1 (grV r') r'.2.2.length (r'.2.2.flatMap enD) := by rw [hr']; exact O9
         have hNn : ∀ k, (grV r').ownBlock = some k → (grV r).ownBlock = some k ∨ wY.heap.size ≤ k := by rw [hr']; exact N9
         have Bg := qn My.g.out hroy (by decide) E6;have hs6 := E6.size;refine za rfl (zk (j := wn) Tryd.underlying59 gu rfl rfl rfl hwR (zw (qi (cs' := ((rows.set wn r').map grV).toArray) gu rfl rfl Bg rfl rfl (by rw [List.size_toArray, List.length_map]; omega) (by rw [Nat.zero_add, ← gr_set, hr']; rfl) ?_)));rintro wX Bs E7
         have M9 := My.put hr hro' E6 hNn Bs E7;have hZw : ∀ q, Mut [(grV r).ownBlock] q → Wi go rows q := fun q hq => Or.inr ⟨r, hrm, jo hq⟩;have hE9 := (((hEo.step eI (fun _ h => h.elim)).step E5 (fun _ h => h.elim)).step E6 (fun q hq => Or.inl (show bz ≤ q by have := My.wge (hZw q hq); omega))).step E7 (fun q hq => Or.inl (show bz ≤ q by have := My.wge (Or.inl (qt hq)); omega))
         have hW9 := (((hWo.mid eI (fun _ h => h.elim)).mid E5 (fun _ h => h.elim)).mid E6 (fun q hq => hwro q (hZw q hq))).mid E7 (fun q hq => hwro q (Or.inl (qt hq)));have B69 := zjx (qn ((B6o.ext eI (fun h => h.elim)).ext E5 (fun h => h.elim)) hroy (by decide) E6) Bg (by decide) E7;have hwr9 : ∀ q, Wi go (rows.set wn r') q → q < lo ∨ n8 ≤ q := fun q hq => by
          rcases Wi_set hq with h | h
          · exact hwro q h
          · rcases hNn q h with h | h
            · exact hwro q (hZw q (Or.inl h.symm))
            · right; omega
         have hLl : wn < (LD rows).length := by unfold LD; rw [List.length_map]; omega
         refine yc (zf (zh (zj (mvx rfl (za rfl (qc rfl rfl (yg (by omega)) (avx rfl (yc ?_))))))))
         exact yt (o + 1, rows.set wn r') (by show R - (o + 1) < R - o; omega) ⟨rfl, rfl, rfl, rfl, rfl, rfl, rfl, rfl, rfl, rfl, trivial⟩ (⟨hoR, hE9, by have := E7.size; omega, M9, B69, hW9, hwr9, by rw [List.length_set]; exact hlo, by rw [zsz hr hr'2]; exact IP.yes hPo hx hyt hwt hLl hok, by rw [zsz hr hr'2, zwv hLl]; omega⟩)
       ·
        have h81 : x.op ≠ 4 := by simpa using h81
        have hok : okP f x k t wn o := ⟨(hbit t o).1 h75, h64, (fun h => h81 h.1)⟩;have Mz := Mo.no eI;obtain ⟨r, hr⟩ : ∃ r, rows[wn]? = some r := ⟨_, List.getElem?_eq_getElem (by omega)⟩;have hcr := Mz.g.cell hr;have hrm := List.mem_of_getElem? hr;have hro := Mz.g.own r hrm;have hrl : r.2.2.length ≤ 274877906944 := by
         have h1 := zez (L := LD rows) wn;rw [zsq hr] at h1;omega
        have hrl9 : (r.2.2 ++ [o]).length = r.2.2.length + 1 := by rw [List.length_append]; rfl
        refine za rfl (zc rfl (za rfl (zc rfl (onx rfl (yd rfl rfl (onx rfl (zl rfl (za rfl (zc rfl (za rfl (zc rfl (za rfl (zc rfl (za rfl (zc rfl (onx rfl (yd rfl rfl (za rfl (yd rfl rfl (rnx (qp rfl (zq (zh (zj (mvx rfl (mvx rfl (mvx rfl (mvx rfl (za rfl (zk (j := wn) Tryd.underlying59 gu rfl rfl rfl hwR (za rfl (zt Tryd.underlying28 rfl rfl (by rw [Nat.zero_add]; exact hcr) (mvx rfl (za rfl (yl (cs := #[.int .i64 ((o : Nat) : Int)]) Tryd.underlying28 sz3 zr3 (by decide) rfl (by rw [ym]; rfl) ?_)))))))))))))))))))))))))))))))))))
        rintro gy wY By E5 Gy;have My := Mz.no E5;have hroy := My.g.own r hrm;have hs5 := E5.size;have hs4 := eI.size;have hsz := hEo.size
        refine za rfl (ju (n' := (r.2.2 ++ [o]).length) (xs' := (r.2.2 ++ [o]).flatMap enD) Tryd.underlying28 ou rfl (by decide) rfl hroy rfl (vn By By.lt rfl) (by simp [Value.oneCell']) hrl9.symm (by rw [List.flatMap_append]; rfl) (by rw [hrl9]; unfold maxLen; omega) (by rw [hrl9]; omega) (by have := My.g.out.lt; have := My.hg; omega) ?_);rintro A9 c9 wZ O9 E6 N9
        obtain ⟨r', hr'⟩ : ∃ r' : GR Nat, r' = (A9, c9, r.2.2 ++ [o]) := ⟨_, rfl⟩;have hr'2 : r'.2.2 = r.2.2 ++ [o] := by rw [hr']
        have hro' : wZ.ownsRow nL 3 1 (grV r') r'.2.2.length (r'.2.2.flatMap enD) := by rw [hr']; exact O9
        have hNn : ∀ k, (grV r').ownBlock = some k → (grV r).ownBlock = some k ∨ wY.heap.size ≤ k := by rw [hr']; exact N9
        have Bg := qn My.g.out hroy (by decide) E6;have hs6 := E6.size;refine za rfl (zk (j := wn) Tryd.underlying59 gu rfl rfl rfl hwR (zw (qi (cs' := ((rows.set wn r').map grV).toArray) gu rfl rfl Bg rfl rfl (by rw [List.size_toArray, List.length_map]; omega) (by rw [Nat.zero_add, ← gr_set, hr']; rfl) ?_)));rintro wX Bs E7
        have M9 := My.put hr hro' E6 hNn Bs E7;have hZw : ∀ q, Mut [(grV r).ownBlock] q → Wi go rows q := fun q hq => Or.inr ⟨r, hrm, jo hq⟩;have hE9 := (((hEo.step eI (fun _ h => h.elim)).step E5 (fun _ h => h.elim)).step E6 (fun q hq => Or.inl (show bz ≤ q by have := My.wge (hZw q hq); omega))).step E7 (fun q hq => Or.inl (show bz ≤ q by have := My.wge (Or.inl (qt hq)); omega))
        have hW9 := (((hWo.mid eI (fun _ h => h.elim)).mid E5 (fun _ h => h.elim)).mid E6 (fun q hq => hwro q (hZw q hq))).mid E7 (fun q hq => hwro q (Or.inl (qt hq)));have B69 := zjx (qn ((B6o.ext eI (fun h => h.elim)).ext E5 (fun h => h.elim)) hroy (by decide) E6) Bg (by decide) E7;have hwr9 : ∀ q, Wi go (rows.set wn r') q → q < lo ∨ n8 ≤ q := fun q hq => by
         rcases Wi_set hq with h | h
         · exact hwro q h
         · rcases hNn q h with h | h
           · exact hwro q (hZw q (Or.inl h.symm))
           · right; omega
        have hLl : wn < (LD rows).length := by unfold LD; rw [List.length_map]; omega
        refine yc (zf (zh (zj (mvx rfl (za rfl (qc rfl rfl (yg (by omega)) (avx rfl (yc ?_))))))))
        exact yt (o + 1, rows.set wn r') (by show R - (o + 1) < R - o; omega) ⟨rfl, rfl, rfl, rfl, rfl, rfl, rfl, rfl, rfl, rfl, trivial⟩ (⟨hoR, hE9, by have := E7.size; omega, M9, B69, hW9, hwr9, by rw [List.length_set]; exact hlo, by rw [zsz hr hr'2]; exact IP.yes hPo hx hyt hwt hLl hok, by rw [zsz hr hr'2, zwv hLl]; omega⟩)
    ·
     have ho := of_decide_eq_false ho;have hoe : o = R := by omega
     refine qe (zm (zm (ya (zf (zh (zj (mvx rfl (za rfl (qc rfl rfl (yg (by omega)) (avx rfl (yc ?_)))))))))))
     exact yt (nn + 1, rows) (by show y.2.length - (nn + 1) < y.2.length - nn; omega) ⟨rfl, rfl, rfl, rfl, rfl, rfl, rfl, rfl, trivial⟩ (⟨hnl2, hEo, hso, Mo, B6o, hWo, hwro, hlo, IP.nextN hs hRr hPo (by omega), by rw [← Nat.add_assoc, Nat.mul_succ]; omega⟩)
   ·
    have hn := of_decide_eq_false hn;have hne2 : nn = y.2.length := by omega
    refine qe (zm (zm (ya (zf (zh (zj (mvx rfl (za rfl (qc rfl rfl (yg (by omega)) (avx rfl (yc ?_)))))))))))
    exact yt (k + 1, rows) (by show ws8.length - (k + 1) < ws8.length - k; omega) ⟨rfl, rfl, rfl, rfl, rfl, rfl, rfl, trivial⟩ (⟨hkl2, hEn, hsn, Mn, B6n, hWn, hwrn, hln, hPn.nextK' hx hyt (Nat.le_of_eq hne2.symm), by rw [hpre, ← Nat.add_assoc, ← hne2]; exact hSn⟩)
  ·
   have hk := of_decide_eq_false hk;have hke : k = ws8.length := by omega
   have hall := preW_all (ws := ws8) (k := k) (by omega);refine qe (zm (zm (ya (zf (zh (zj (mvx rfl (za rfl (qc rfl rfl (yg (by omega)) (avx rfl (yc ?_)))))))))))
   exact yt (a + 1, rows) (by show N - (a + 1) < N - a; omega) ⟨rfl, rfl, rfl, rfl, trivial⟩ (⟨hal, hEk, Mk, hlk, IP.nextA hPk hx (by rw [← hws8]; omega), by rw [hct1, hitw, ← hall]; exact hSk⟩)
 ·
  have hi := of_decide_eq_false hi;have hae : a = f.ins.length := by omega
  rw [hae] at hPa;refine qe (zm (zm (ya (zh (srx (mvx rfl (anx rfl (zv (zu (rs := [.tmp 2]) (vs := [_]) rfl ⟨rfl, trivial⟩ ?_)))))))));exact ⟨go, rows, rfl, hla, fun r o => hPa.fin r o, ⟨nL, Ma.g⟩, hEa.below (fun q h => by rw [hb0] at h; exact h)⟩
end
end Go.Proofs.YtppdgjlmeahimaaDoor
namespace Go.Proofs.YtppdgjlmeahimaaDoor
open Go.RowKit
set_option maxRecDepth 100000
attribute [local irreducible] OW RS
theorem owns_max {w : World} {base s n c : Nat} {e : TypeId} {A : Option Addr} {xs : List Value} (h : w.ownsRow base e s (.slice A n c) n xs) : n ≤ 9223372036854775807 := by
 rcases h.2 with ⟨_, h0⟩ | ⟨g, cap, cur, hv, hb, hh, hn, hm, _⟩
 · rw [h0]; decide
 · unfold maxLen at hm; omega
section
variable (w : World) (p : Pl) (f : LFn) (n0 : Nat) (hF : FnA n0 w p f) (hbk : (f.ins.map fun x => x.l.length + 1).sum ≤ 1048576) (A : Option Addr) (c n1 : Nat) (m : List Int) (hm : IntsA n1 w A m) (n : Int) (hn1 : n1 ≤ w.heap.size)
include hF hbk hm hn1
theorem rright_any : Calls Tryd.prog 10 #[fnV p f, .slice A m.length c, .int .i64 n] w fun e w' => ∃ b, e = .returned (.bool b) ∧ (b = true ↔ jq f m n) ∧ Below w.heap.size w w' := by
 obtain ⟨bz, hb0⟩ : ∃ bz, bz = w.heap.size := ⟨_, rfl⟩;have hml := hm.len;have _ := hn1;have hn0 := hF.size;refine qs Tryd.func10 rfl Tryd.ntmps10 rfl (srx (za rfl (vk rfl ?_)));rintro g1 wA B1 E1 G1;have hFA : FnA n0 wA p f := hF.low (X := No) ⟨E1, fun _ h => h.elim⟩
 refine anx rfl (zp (srx (za rfl (zo Tryd.underlying27 rfl jp rfl B1 rfl (za rfl (yf en12 rfl ((rsound_any _ p f n0 hFA).mono ?_)))))));rintro e w1 ⟨rfl, hb⟩;refine ⟨_, rfl, ?_⟩;have E2 := Ext.of_below hb No;have B2 := B1.ext E2 (fun h => h.elim);have hF2 := hFA.low (X := No) ⟨E2, fun _ h => h.elim⟩;have hE2 : Ext No w w1 := E1.trans E2;by_cases hs : vh f = true
 ·
  obtain ⟨hr0, hr1, hp0, hp1, hne⟩ := gl hs;obtain ⟨R, hRr⟩ : ∃ R : Nat, f.regs = (R : Int) := ⟨f.regs.toNat, by omega⟩;have hN0 : 0 < f.ins.length := List.length_pos_iff.2 hne
  refine qr 13 (.bool true) rfl ((by rw [hs] : (.bool (vh f) : Value) = _)) (za rfl (jg rfl (mvx rfl (onx rfl (zl rfl (onx rfl (yw Tryd.underlying28 rfl (onx rfl (zb Tryd.underlying27 rfl sz3 (by decide) rfl (onx rfl (zg Tryd.underlying3 rfl rfl B2 rfl (onx rfl (vb rfl rfl (za rfl (yd rfl rfl (mvx rfl (yx 22 rfl (fun h1 => ?_) (fun h1 => ?_))))))))))))))))))
  ·
   have h1 : (m.length : Int) ≠ f.regs := by simpa using h1
   refine za rfl (zc rfl (za rfl (zc rfl (za rfl (zc rfl (za rfl (zc rfl (za rfl (zx rfl rfl (mvx rfl (za rfl (zc rfl (za rfl (zc rfl (za rfl (zc rfl (za rfl (zc rfl (za rfl (zx rfl rfl (rnx (yr rfl (srx (anx rfl (zv (ze (zu (rs := [.tmp 6]) (vs := [_]) rfl ⟨rfl, trivial⟩ ?_)))))))))))))))))))))))))))
   exact ⟨false, rfl, ⟨fun h => (by cases h), fun h => absurd h (fun h => h1 h.2.1)⟩, hE2.toBelow⟩
  ·
   have h1 : (m.length : Int) = f.regs := by simpa using h1
   have hmR : m.length = R := by omega
   refine onx rfl (zl rfl (onx rfl (zb Tryd.underlying27 rfl sz3 (by decide) rfl (onx rfl (zg Tryd.underlying3 rfl rfl B2 rfl (onx rfl (yy rfl rfl (za rfl (yd rfl rfl (mvx rfl (yx 28 rfl (fun h2 => ?_) (fun h2 => ?_))))))))))))
   ·
    have h2 := of_decide_eq_true h2;refine za rfl (zc rfl (za rfl (zc rfl (za rfl (zc rfl (za rfl (zc rfl (za rfl (zx rfl rfl (rnx (yr rfl (srx (anx rfl (zv (ze (zu (rs := [.tmp 6]) (vs := [_]) rfl ⟨rfl, trivial⟩ ?_))))))))))))))))
    exact ⟨false, rfl, ⟨fun h => (by cases h), fun h => absurd h (fun h => absurd h.2.2.1 (by omega))⟩, hE2.toBelow⟩
   ·
    have h2 := of_decide_eq_false h2;refine onx rfl (zl rfl (onx rfl (zb Tryd.underlying27 rfl sz3 (by decide) rfl (onx rfl (zg Tryd.underlying3 rfl rfl B2 rfl (onx rfl (xb rfl rfl (za rfl (yd rfl rfl (rnx (zr rfl (fun h3 => ?_) (fun h3 => ?_))))))))))))
    ·
     have h3 := of_decide_eq_true h3;refine srx (anx rfl (zv (ze (zu (rs := [.tmp 6]) (vs := [_]) rfl ⟨rfl, trivial⟩ ?_))));exact ⟨false, rfl, ⟨fun h => (by cases h), fun h => absurd h (fun h => absurd h.2.2.2.1 (by omega))⟩, hE2.toBelow⟩
    ·
     have h3 := of_decide_eq_false h3;refine zq (zh (srx (za rfl (zo Tryd.underlying27 rfl jp rfl B2 rfl (za rfl (yf en22 rfl ((rlive_any _ p f n0 hF2 hs hbk).mono ?_)))))));rintro e w2 ⟨AL, cL, W, rfl, hW64, hbit, hA, hb⟩;refine ⟨_, rfl, ?_⟩;have E3 := Ext.of_below hb No;have B3 := B2.ext E3 (fun h => h.elim);have hF3 := hF2.low (X := No) ⟨E3, fun _ h => h.elim⟩
     have hE3 := hE2.trans E3;obtain ⟨wS, hwS⟩ : ∃ wS, wS = w2 := ⟨_, rfl⟩;rw [← hwS] at B3 hF3 hE3 hA;have hmS : IntsA n1 wS A m := hm.low (X := No) ⟨hE3, fun _ h => h.elim⟩
     refine anx rfl (zp (srx (anx rfl (yb (qu (ι := Nat) (fun r => [(1, .slice A m.length c), (2, .int .i64 n), (3, .pointer (some ⟨g1, 0, none⟩)), (7, .slice AL f.ins.length cL), (8, .int .i64 ((r : Nat) : Int))]) (fun r w' => r ≤ R ∧ Ext No wS w' ∧ ∀ (r' : Nat) (x : Int), r' < r → m[r']? = some x → zbq f n r' x) (fun r => R - r) 0 ⟨rfl, rfl, rfl, rfl, rfl, trivial⟩ (⟨Nat.zero_le _, by rw [hwS]; exact Ext.refl _ _, fun r' x h => absurd h (Nat.not_lt_zero _)⟩) ?_)))))
     rintro r w4 ⟨hrR, hEr, hok⟩;have B4 := B3.ext hEr (fun h => h.elim)
     refine zp (srx (mvx rfl (za rfl (zb Tryd.underlying27 rfl sz3 (by decide) rfl (za rfl (zg Tryd.underlying3 rfl rfl B4 rfl (qr 38 (.int .i64 ((R : Nat) : Int)) rfl ((by rw [hRr] : (.int .i64 f.regs : Value) = _)) (za rfl (yy rfl rfl (rnx (zr rfl (fun hi => ?_) (fun hi => ?_))))))))))))
     ·
      have hi := of_decide_eq_true hi;have hrl : r < R := by omega
      have hrm : r < m.length := by omega
      obtain ⟨y, hy⟩ : ∃ y, m[r]? = some y := ⟨_, List.getElem?_eq_getElem hrm⟩;have hm4 : IntsA n1 w4 A m := hmS.low (X := No) ⟨hEr, fun _ h => h.elim⟩;have hA4 : RowsW wS.heap.size w4 AL W := hA.low (X := No) ⟨hEr, fun _ h => h.elim⟩;obtain ⟨gm, om, hAm, hgm, hcm⟩ := hm4.cell hy;have hbel : Below w.heap.size w w4 := (hE3.trans hEr).toBelow
      have hno : ¬ zbq f n r y → ¬ jq f m n := fun h h2 => h (h2.2.2.2.2.1 r y hy)
      refine zq (zh (zp (yb (zp (srx (mvx rfl (mvx rfl (za rfl (zk (j := r) Tryd.underlying28 sz3 (congrArg (fun z ↦ some (Value.slice z m.length c)) hAm) rfl rfl hrm (za rfl (zt Tryd.underlying3 rfl rfl hcm (za rfl (yy rfl rfl (mvx rfl (yx 47 rfl (fun q1 => ?_) (fun q1 => ?_))))))))))))))))
      ·
       have q1 := of_decide_eq_true q1
       refine za rfl (zc rfl (za rfl (zc rfl (za rfl (zc rfl (za rfl (zc rfl (za rfl (zc rfl (za rfl (zc rfl (za rfl (zx rfl rfl (mvx rfl (za rfl (zc rfl (za rfl (zc rfl (za rfl (zc rfl (za rfl (zc rfl (za rfl (zc rfl (za rfl (yp rfl rfl (za rfl (yp rfl rfl (za rfl (yp rfl rfl (za rfl (yp rfl rfl (za rfl (yp rfl rfl (za rfl (yp rfl rfl (za rfl (zc rfl (za rfl (zx rfl rfl (rnx (yr rfl (srx (anx rfl (zv (ze (zi (ze (ze (zi (ze (zu (rs := [.tmp 6]) (vs := [_]) rfl ⟨rfl, trivial⟩ ?_))))))))))))))))))))))))))))))))))))))))))))))))))))
       exact ⟨false, rfl, ⟨fun h => (by cases h), fun h => absurd h (fun h => hno (fun h => absurd h.1 (by omega)) h)⟩, hbel⟩
      ·
       have hy0 : 0 ≤ y := by have := of_decide_eq_false q1; omega
       refine onx rfl (zl rfl (onx rfl (zl rfl (onx rfl (zk (j := r) Tryd.underlying28 sz3 (congrArg (fun z ↦ some (Value.slice z m.length c)) hAm) rfl rfl hrm (onx rfl (zt Tryd.underlying3 rfl rfl hcm (onx rfl (zl rfl (onx rfl (jd rfl rfl (za rfl (yd rfl rfl (mvx rfl (yx 55 rfl (fun q2 => ?_) (fun q2 => ?_))))))))))))))))
       ·
        have q2 := of_decide_eq_true q2
        refine za rfl (zc rfl (za rfl (zc rfl (za rfl (zc rfl (za rfl (zc rfl (za rfl (zc rfl (za rfl (yp rfl rfl (za rfl (yp rfl rfl (za rfl (yp rfl rfl (za rfl (yp rfl rfl (za rfl (yp rfl rfl (za rfl (yp rfl rfl (za rfl (zc rfl (za rfl (zx rfl rfl (rnx (yr rfl (srx (anx rfl (zv (ze (zi (ze (ze (zi (ze (zu (rs := [.tmp 6]) (vs := [_]) rfl ⟨rfl, trivial⟩ ?_)))))))))))))))))))))))))))))))))))))
        exact ⟨false, rfl, ⟨fun h => (by cases h), fun h => absurd h (fun h => hno (fun h => absurd h.2.1 (by omega)) h)⟩, hbel⟩
       ·
        have hyn : y < n := by have := of_decide_eq_false q2; omega
        refine onx rfl (zl rfl (onx rfl (zb Tryd.underlying27 rfl sz3 (by decide) rfl (onx rfl (zg Tryd.underlying3 rfl rfl B4 rfl (onx rfl (yy rfl rfl (onx rfl (zl rfl (yx 60 rfl (fun q3 => ?_) (fun q3 => ?_)))))))))))
        ·
         have q3 := of_decide_eq_true q3
         refine onx rfl (zl rfl (onx rfl (zl rfl (onx rfl (zk (j := r) Tryd.underlying28 sz3 (congrArg (fun z ↦ some (Value.slice z m.length c)) hAm) rfl rfl hrm (onx rfl (zt Tryd.underlying3 rfl rfl hcm (onx rfl (zl rfl (onx rfl (vb rfl rfl (onx rfl (zx rfl rfl (za rfl (yd rfl rfl (rnx (zr rfl (fun q4 => ?_) (fun q4 => ?_))))))))))))))))))
         ·
          have q4 : y ≠ (r : Int) := by simpa using q4
          refine srx (anx rfl (zv (ze (zi (ze (ze (zi (ze (zu (rs := [.tmp 6]) (vs := [_]) rfl ⟨rfl, trivial⟩ ?_)))))))));exact ⟨false, rfl, ⟨fun h => (by cases h), fun h => absurd h (fun h => hno (fun h => q4 (h.2.2.1 q3)) h)⟩, hbel⟩
         ·
          have q4 : y = (r : Int) := by simpa using q4
          have hyp : (r : Int) < f.params → y = (r : Int) := fun _ => q4;refine zq (zh (zp ?_));refine jx (No) Mut.none_ [] [] (kl [Fx.of (.int .i64 ((r : Nat) : Int)),
           Fx.of (.pointer (some ⟨g1, 1, none⟩)),
           Fx.of (.int .i64 f.params),
           Fx.of (.bool false),
           Fx.of (.bool false),
           Fx.of undef,
           Fx.of undef,
           Fx.of undef,
           Fx.of undef,
           Fx.of undef,
           Fx.of undef,
           Fx.of undef,
           Fx.of (.bool false),
           Fx.of (.bool false),
           Fx.of undef,
           Fx.of undef,
           Fx.of undef,
           Fx.of undef,
           Fx.of undef,
           Fx.of (.bool false)]) je rfl trivial (fun _ h => by cases h) ?_ ?_
          · refine ⟨?_, ?_, ?_, ?_, ?_, ?_, ?_, ?_, ?_, ?_, ?_, ?_, ?_, ?_, ?_, ?_, ?_, ?_, ?_, ?_, trivial⟩
            · intro vs X wq K;exact zl rfl ⟨Below.refl _ _, Left.of rfl⟩
            · intro vs X wq K;exact zb Tryd.underlying27 rfl sz3 (by decide) rfl ⟨Below.refl _ _, Left.of rfl⟩
            · intro vs X wq K;have LE := K.1;obtain ⟨_, e1, k1⟩ := K.dep 1 rfl rfl rfl;refine zd 70 (.pointer (some ⟨g1, 1, none⟩)) rfl e1 ?_;exact zg Tryd.underlying3 rfl rfl (vr LE B4) rfl ⟨Below.refl _ _, Left.of rfl⟩
            · intro vs X wq K;obtain ⟨_, e0, k0⟩ := K.dep 0 rfl rfl rfl;refine zd 69 (.int .i64 ((r : Nat) : Int)) rfl e0 ?_;obtain ⟨_, e2, k2⟩ := K.dep 2 rfl rfl rfl;refine zd 71 (.int .i64 f.params) rfl e2 ?_;exact jd rfl rfl ⟨Below.refl _ _, Left.of ((by rw [decide_eq_false]; omega : (.bool (decide (f.params ≤ ((r : Nat) : Int))) : Value) = _))⟩
            · intro vs X wq K;obtain ⟨_, e3, k3⟩ := K.dep 3 rfl rfl rfl;refine zd 72 (.bool false) rfl e3 ?_;exact zl rfl ⟨Below.refl _ _, Left.of rfl⟩
            · intro vs X wq K;obtain ⟨_, e4, k4⟩ := K.dep 4 rfl rfl rfl;refine zd 73 (.bool false) rfl e4 ?_;exact zc rfl ⟨Below.refl _ _, Left.of rfl⟩
            · intro vs X wq K;obtain ⟨_, e4, k4⟩ := K.dep 4 rfl rfl rfl;refine zd 73 (.bool false) rfl e4 ?_;exact zc rfl ⟨Below.refl _ _, Left.of rfl⟩
            · intro vs X wq K;obtain ⟨_, e5, k5⟩ := K.dep 5 rfl rfl rfl;refine zd 74 (undef) rfl e5 ?_;obtain ⟨_, e6, k6⟩ := K.dep 6 rfl rfl rfl;refine zd 75 (undef) rfl e6 ?_;obtain ⟨_, e4, k4⟩ := K.dep 4 rfl rfl rfl;refine zd 73 (.bool false) rfl e4 ?_;exact zc rfl ⟨Below.refl _ _, Left.of rfl⟩
            · intro vs X wq K;obtain ⟨_, e7, k7⟩ := K.dep 7 rfl rfl rfl;refine zd 76 (undef) rfl e7 ?_;obtain ⟨_, e4, k4⟩ := K.dep 4 rfl rfl rfl;refine zd 73 (.bool false) rfl e4 ?_;exact zc rfl ⟨Below.refl _ _, Left.of rfl⟩
            · intro vs X wq K;obtain ⟨_, e4, k4⟩ := K.dep 4 rfl rfl rfl;refine zd 73 (.bool false) rfl e4 ?_;exact zc rfl ⟨Below.refl _ _, Left.of rfl⟩
            · intro vs X wq K;obtain ⟨_, e9, k9⟩ := K.dep 9 rfl rfl rfl;refine zd 78 (undef) rfl e9 ?_;obtain ⟨_, e4, k4⟩ := K.dep 4 rfl rfl rfl;refine zd 73 (.bool false) rfl e4 ?_;exact zc rfl ⟨Below.refl _ _, Left.of rfl⟩
            · intro vs X wq K;obtain ⟨_, e8, k8⟩ := K.dep 8 rfl rfl rfl;refine zd 77 (undef) rfl e8 ?_;obtain ⟨_, e10, k10⟩ := K.dep 10 rfl rfl rfl;refine zd 79 (undef) rfl e10 ?_;obtain ⟨_, e4, k4⟩ := K.dep 4 rfl rfl rfl;refine zd 73 (.bool false) rfl e4 ?_;exact zc rfl ⟨Below.refl _ _, Left.of rfl⟩
            · intro vs X wq K;obtain ⟨_, e4, k4⟩ := K.dep 4 rfl rfl rfl;refine zd 73 (.bool false) rfl e4 ?_;obtain ⟨_, e11, k11⟩ := K.dep 11 rfl rfl rfl;refine zd 80 (undef) rfl e11 ?_;exact yd rfl rfl ⟨Below.refl _ _, Left.of rfl⟩
            · intro vs X wq K;obtain ⟨_, e12, k12⟩ := K.dep 12 rfl rfl rfl;refine zd 81 (.bool false) rfl e12 ?_;exact zl rfl ⟨Below.refl _ _, Left.of rfl⟩
            · intro vs X wq K;obtain ⟨_, e13, k13⟩ := K.dep 13 rfl rfl rfl;refine zd 82 (.bool false) rfl e13 ?_;exact zc rfl ⟨Below.refl _ _, Left.of rfl⟩
            · intro vs X wq K;obtain ⟨_, e14, k14⟩ := K.dep 14 rfl rfl rfl;refine zd 83 (undef) rfl e14 ?_;obtain ⟨_, e13, k13⟩ := K.dep 13 rfl rfl rfl;refine zd 82 (.bool false) rfl e13 ?_;exact zc rfl ⟨Below.refl _ _, Left.of rfl⟩
            · intro vs X wq K;obtain ⟨_, e15, k15⟩ := K.dep 15 rfl rfl rfl;refine zd 84 (undef) rfl e15 ?_;obtain ⟨_, e13, k13⟩ := K.dep 13 rfl rfl rfl;refine zd 82 (.bool false) rfl e13 ?_;exact zc rfl ⟨Below.refl _ _, Left.of rfl⟩
            · intro vs X wq K;obtain ⟨_, e13, k13⟩ := K.dep 13 rfl rfl rfl;refine zd 82 (.bool false) rfl e13 ?_;exact zc rfl ⟨Below.refl _ _, Left.of rfl⟩
            · intro vs X wq K;obtain ⟨_, e16, k16⟩ := K.dep 16 rfl rfl rfl;refine zd 85 (undef) rfl e16 ?_;obtain ⟨_, e17, k17⟩ := K.dep 17 rfl rfl rfl;refine zd 86 (undef) rfl e17 ?_;obtain ⟨_, e13, k13⟩ := K.dep 13 rfl rfl rfl;refine zd 82 (.bool false) rfl e13 ?_;exact zc rfl ⟨Below.refl _ _, Left.of rfl⟩
            · intro vs X wq K;obtain ⟨_, e13, k13⟩ := K.dep 13 rfl rfl rfl;refine zd 82 (.bool false) rfl e13 ?_;obtain ⟨_, e18, k18⟩ := K.dep 18 rfl rfl rfl;refine zd 87 (undef) rfl e18 ?_;exact yd rfl rfl ⟨Below.refl _ _, Left.of rfl⟩
          intro vs w5 LE AO AL AF AA;have hbd : Below (w4).heap.size (w4) w5 := (((Ext.refl No (w4)).drew).trans LE).toBelow;obtain ⟨_, e19, k19⟩ := AL.2.2.2.2.2.2.2.2.2.2.2.2.2.2.2.2.2.2.2.1;refine vq (τ := [(1, _), (2, _), (3, _), (7, _), (8, _), (88, .bool false)]) ⟨rfl, rfl, rfl, rfl, rfl, congrArg some e19, trivial⟩ ?_;clear AL AF AA AO;have hb2 := hbd
          refine zh (qp rfl (zq (zf (zh (zj (mvx rfl (za rfl (qc rfl rfl (yg (by omega)) (avx rfl (yc ?_))))))))));exact yt (r + 1) (by show R - (r + 1) < R - r; omega) ⟨rfl, rfl, rfl, rfl, rfl, trivial⟩ (⟨hrl, hEr.trans (Ext.of_below hbd No), xk hy hok ⟨hy0, hyn, hyp, fun h => absurd h (by omega)⟩⟩)
        ·
         have q3 := of_decide_eq_false q3;have hyp : (r : Int) < f.params → y = (r : Int) := fun h => absurd h q3;by_cases q5 : y < f.params
         ·
          obtain ⟨row, hrow⟩ : ∃ row, W[0]? = some row := ⟨_, List.getElem?_eq_getElem (by rw [hW64.1]; exact hN0)⟩;obtain ⟨gL, oL, hAL, hgL, BL, cBL, hU, hcL⟩ := RowS.at hA4 hrow;rw [Nat.zero_mul, Nat.add_zero] at hcL;have hbw : gn row r = vj W 0 r := by unfold vj; rw [List.getD_eq_getElem?_getD, hrow]; rfl
          refine za rfl (zc rfl (za rfl (zc rfl (za rfl (zc rfl (za rfl (zc rfl (za rfl (zc rfl (za rfl (zc rfl (onx rfl (yd rfl rfl (za rfl (yd rfl rfl (rnx (qp rfl (zq (zh (zp ?_))))))))))))))))))));refine jx (No) Mut.none_ [] [] (kl [Fx.of (.int .i64 ((r : Nat) : Int)),
           Fx.of (.pointer (some ⟨g1, 1, none⟩)),
           Fx.of (.int .i64 f.params),
           Fx.of (.bool true),
           Fx.of (.bool true),
           Fx.of (.slice A m.length c),
           Fx.of (.int .i64 ((r : Nat) : Int)),
           Fx.of (.pointer (some ⟨gm, om + r, none⟩)),
           Fx.of (.int .i64 y),
           Fx.of (.pointer (some ⟨g1, 1, none⟩)),
           Fx.of (.int .i64 f.params),
           Fx.of (.bool true),
           Fx.of (.bool true),
           Fx.of (.bool true),
           Fx.of (.slice AL f.ins.length cL),
           Fx.of (.pointer (some ⟨gL, oL + 0, none⟩)),
           Fx.of (.slice BL row.length cBL),
           Fx.of (.int .i64 ((r : Nat) : Int)),
           Fx.of (.bool (gn row r)),
           Fx.of (.bool (gn row r))]) je rfl trivial (fun _ h => by cases h) ?_ ?_
          · refine ⟨?_, ?_, ?_, ?_, ?_, ?_, ?_, ?_, ?_, ?_, ?_, ?_, ?_, ?_, ?_, ?_, ?_, ?_, ?_, ?_, trivial⟩
            · intro vs X wq K;exact zl rfl ⟨Below.refl _ _, Left.of rfl⟩
            · intro vs X wq K;exact zb Tryd.underlying27 rfl sz3 (by decide) rfl ⟨Below.refl _ _, Left.of rfl⟩
            · intro vs X wq K;have LE := K.1;obtain ⟨_, e1, k1⟩ := K.dep 1 rfl rfl rfl;refine zd 70 (.pointer (some ⟨g1, 1, none⟩)) rfl e1 ?_;exact zg Tryd.underlying3 rfl rfl (vr LE B4) rfl ⟨Below.refl _ _, Left.of rfl⟩
            · intro vs X wq K;obtain ⟨_, e0, k0⟩ := K.dep 0 rfl rfl rfl;refine zd 69 (.int .i64 ((r : Nat) : Int)) rfl e0 ?_;obtain ⟨_, e2, k2⟩ := K.dep 2 rfl rfl rfl;refine zd 71 (.int .i64 f.params) rfl e2 ?_;exact jd rfl rfl ⟨Below.refl _ _, Left.of ((by rw [decide_eq_true]; omega : (.bool (decide (f.params ≤ ((r : Nat) : Int))) : Value) = _))⟩
            · intro vs X wq K;obtain ⟨_, e3, k3⟩ := K.dep 3 rfl rfl rfl;refine zd 72 (.bool true) rfl e3 ?_;exact zl rfl ⟨Below.refl _ _, Left.of rfl⟩
            · intro vs X wq K;obtain ⟨_, e4, k4⟩ := K.dep 4 rfl rfl rfl;refine zd 73 (.bool true) rfl e4 ?_;exact qq rfl (zl rfl ⟨Below.refl _ _, Left.of rfl⟩)
            · intro vs X wq K;obtain ⟨_, e4, k4⟩ := K.dep 4 rfl rfl rfl;refine zd 73 (.bool true) rfl e4 ?_;exact qq rfl (zl rfl ⟨Below.refl _ _, Left.of rfl⟩)
            · intro vs X wq K;obtain ⟨_, e5, k5⟩ := K.dep 5 rfl rfl rfl;refine zd 74 (.slice A m.length c) rfl e5 ?_;obtain ⟨_, e6, k6⟩ := K.dep 6 rfl rfl rfl;refine zd 75 (.int .i64 ((r : Nat) : Int)) rfl e6 ?_;obtain ⟨_, e4, k4⟩ := K.dep 4 rfl rfl rfl;refine zd 73 (.bool true) rfl e4 ?_
              exact qq rfl (zk (j := r) Tryd.underlying28 sz3 (congrArg (fun z ↦ some (Value.slice z m.length c)) hAm) rfl rfl hrm ⟨Below.refl _ _, Left.of rfl⟩)
            · intro vs X wq K;have LE := K.1;obtain ⟨_, e7, k7⟩ := K.dep 7 rfl rfl rfl;refine zd 76 (.pointer (some ⟨gm, om + r, none⟩)) rfl e7 ?_;obtain ⟨_, e4, k4⟩ := K.dep 4 rfl rfl rfl;refine zd 73 (.bool true) rfl e4 ?_;exact qq rfl (zt Tryd.underlying3 rfl rfl (js LE hcm) ⟨Below.refl _ _, Left.of rfl⟩)
            · intro vs X wq K;obtain ⟨_, e4, k4⟩ := K.dep 4 rfl rfl rfl;refine zd 73 (.bool true) rfl e4 ?_;exact qq rfl (zb Tryd.underlying27 rfl sz3 (by decide) rfl ⟨Below.refl _ _, Left.of rfl⟩)
            · intro vs X wq K;have LE := K.1;obtain ⟨_, e9, k9⟩ := K.dep 9 rfl rfl rfl;refine zd 78 (.pointer (some ⟨g1, 1, none⟩)) rfl e9 ?_;obtain ⟨_, e4, k4⟩ := K.dep 4 rfl rfl rfl;refine zd 73 (.bool true) rfl e4 ?_;exact qq rfl (zg Tryd.underlying3 rfl rfl (vr LE B4) rfl ⟨Below.refl _ _, Left.of rfl⟩)
            · intro vs X wq K;obtain ⟨_, e8, k8⟩ := K.dep 8 rfl rfl rfl;refine zd 77 (.int .i64 y) rfl e8 ?_;obtain ⟨_, e10, k10⟩ := K.dep 10 rfl rfl rfl;refine zd 79 (.int .i64 f.params) rfl e10 ?_;obtain ⟨_, e4, k4⟩ := K.dep 4 rfl rfl rfl;refine zd 73 (.bool true) rfl e4 ?_
              exact qq rfl (yy rfl rfl ⟨Below.refl _ _, Left.of ((by rw [decide_eq_true q5] : (.bool (decide (y < f.params)) : Value) = _))⟩)
            · intro vs X wq K;obtain ⟨_, e4, k4⟩ := K.dep 4 rfl rfl rfl;refine zd 73 (.bool true) rfl e4 ?_;obtain ⟨_, e11, k11⟩ := K.dep 11 rfl rfl rfl;refine zd 80 (.bool true) rfl e11 ?_;exact zx rfl rfl ⟨Below.refl _ _, Left.of rfl⟩
            · intro vs X wq K;obtain ⟨_, e12, k12⟩ := K.dep 12 rfl rfl rfl;refine zd 81 (.bool true) rfl e12 ?_;exact zl rfl ⟨Below.refl _ _, Left.of rfl⟩
            · intro vs X wq K;obtain ⟨_, e13, k13⟩ := K.dep 13 rfl rfl rfl;refine zd 82 (.bool true) rfl e13 ?_;exact qq rfl (zl rfl ⟨Below.refl _ _, Left.of rfl⟩)
            · intro vs X wq K;obtain ⟨_, e14, k14⟩ := K.dep 14 rfl rfl rfl;refine zd 83 (.slice AL f.ins.length cL) rfl e14 ?_;obtain ⟨_, e13, k13⟩ := K.dep 13 rfl rfl rfl;refine zd 82 (.bool true) rfl e13 ?_;exact qq rfl (zk (j := 0) Tryd.underlying52 zhk (congrArg (fun z ↦ some (Value.slice z f.ins.length cL)) hAL) rfl rfl hN0 ⟨Below.refl _ _, Left.of rfl⟩)
            · intro vs X wq K;have LE := K.1;obtain ⟨_, e15, k15⟩ := K.dep 15 rfl rfl rfl;refine zd 84 (.pointer (some ⟨gL, oL + 0, none⟩)) rfl e15 ?_;obtain ⟨_, e13, k13⟩ := K.dep 13 rfl rfl rfl;refine zd 82 (.bool true) rfl e13 ?_;exact qq rfl (zt Tryd.underlying55 rfl rfl (js LE hcL) ⟨Below.refl _ _, Left.of rfl⟩)
            · intro vs X wq K;obtain ⟨_, e13, k13⟩ := K.dep 13 rfl rfl rfl;refine zd 82 (.bool true) rfl e13 ?_;exact qq rfl (zl rfl ⟨Below.refl _ _, Left.of rfl⟩)
            · intro vs X wq K;have LE := K.1;obtain ⟨_, e16, k16⟩ := K.dep 16 rfl rfl rfl;refine zd 85 (.slice BL row.length cBL) rfl e16 ?_;obtain ⟨_, e17, k17⟩ := K.dep 17 rfl rfl rfl;refine zd 86 (.int .i64 ((r : Nat) : Int)) rfl e17 ?_;obtain ⟨_, e13, k13⟩ := K.dep 13 rfl rfl rfl
              refine zd 82 (.bool true) rfl e13 (qq rfl (yf en23 rfl ((is_any _ BL cBL wS.heap.size row (hU.low (X := No) ⟨(Ext.refl No _).drew.trans LE, fun _ h => h.elim⟩) r (by omega)).mono ?_)));rintro e w2 ⟨rfl, hb⟩;exact ⟨_, rfl, hb, Left.of rfl⟩
            · intro vs X wq K;obtain ⟨_, e13, k13⟩ := K.dep 13 rfl rfl rfl;refine zd 82 (.bool true) rfl e13 ?_;obtain ⟨_, e18, k18⟩ := K.dep 18 rfl rfl rfl;refine zd 87 (.bool (gn row r)) rfl e18 ?_;exact zx rfl rfl ⟨Below.refl _ _, Left.of rfl⟩
          intro vs w6 LE AO AL AF AA;have hbd : Below (w4).heap.size (w4) w6 := (((Ext.refl No (w4)).drew).trans LE).toBelow;obtain ⟨_, e19, k19⟩ := AL.2.2.2.2.2.2.2.2.2.2.2.2.2.2.2.2.2.2.2.1;refine vq (τ := [(1, _), (2, _), (3, _), (7, _), (8, _), (88, .bool (gn row r))]) ⟨rfl, rfl, rfl, rfl, rfl, congrArg some e19, trivial⟩ ?_;clear AL AF AA AO
          refine zh (zr rfl (fun q7 => ?_) (fun q7 => ?_))
          ·
           rw [hbw] at q7;have q7 := (hbit 0 r).1 q7;refine srx (anx rfl (zv (zi (ze (ze (zi (ze (zu (rs := [.tmp 6]) (vs := [_]) rfl ⟨rfl, trivial⟩ ?_))))))));exact ⟨false, rfl, ⟨fun h => (by cases h), fun h => absurd h (fun h => hno (fun h => h.2.2.2 (by omega) q5 q7) h)⟩, (hE3.trans (hEr.trans (Ext.of_below hbd No))).toBelow⟩
          ·
           rw [hbw] at q7;have q7 : ¬ Liv f 0 r := fun h => by rw [(hbit 0 r).2 h] at q7; cases q7
           have hb2 := hbd;refine zq (zf (zh (zj (mvx rfl (za rfl (qc rfl rfl (yg (by omega)) (avx rfl (yc ?_))))))));exact yt (r + 1) (by show R - (r + 1) < R - r; omega) ⟨rfl, rfl, rfl, rfl, rfl, trivial⟩ (⟨hrl, hEr.trans (Ext.of_below hbd No), xk hy hok ⟨hy0, hyn, hyp, fun _ _ => q7⟩⟩)
         ·
          refine za rfl (zc rfl (za rfl (zc rfl (za rfl (zc rfl (za rfl (zc rfl (za rfl (zc rfl (za rfl (zc rfl (onx rfl (yd rfl rfl (za rfl (yd rfl rfl (rnx (qp rfl (zq (zh (zp ?_))))))))))))))))))));refine jx (No) Mut.none_ [] [] (kl [Fx.of (.int .i64 ((r : Nat) : Int)),
           Fx.of (.pointer (some ⟨g1, 1, none⟩)),
           Fx.of (.int .i64 f.params),
           Fx.of (.bool true),
           Fx.of (.bool true),
           Fx.of (.slice A m.length c),
           Fx.of (.int .i64 ((r : Nat) : Int)),
           Fx.of (.pointer (some ⟨gm, om + r, none⟩)),
           Fx.of (.int .i64 y),
           Fx.of (.pointer (some ⟨g1, 1, none⟩)),
           Fx.of (.int .i64 f.params),
           Fx.of (.bool false),
           Fx.of (.bool false),
           Fx.of (.bool false),
           Fx.of undef,
           Fx.of undef,
           Fx.of undef,
           Fx.of undef,
           Fx.of undef,
           Fx.of (.bool false)]) je rfl trivial (fun _ h => by cases h) ?_ ?_
          · refine ⟨?_, ?_, ?_, ?_, ?_, ?_, ?_, ?_, ?_, ?_, ?_, ?_, ?_, ?_, ?_, ?_, ?_, ?_, ?_, ?_, trivial⟩
            · intro vs X wq K;exact zl rfl ⟨Below.refl _ _, Left.of rfl⟩
            · intro vs X wq K;exact zb Tryd.underlying27 rfl sz3 (by decide) rfl ⟨Below.refl _ _, Left.of rfl⟩
            · intro vs X wq K;have LE := K.1;obtain ⟨_, e1, k1⟩ := K.dep 1 rfl rfl rfl;refine zd 70 (.pointer (some ⟨g1, 1, none⟩)) rfl e1 ?_;exact zg Tryd.underlying3 rfl rfl (vr LE B4) rfl ⟨Below.refl _ _, Left.of rfl⟩
            · intro vs X wq K;obtain ⟨_, e0, k0⟩ := K.dep 0 rfl rfl rfl;refine zd 69 (.int .i64 ((r : Nat) : Int)) rfl e0 ?_;obtain ⟨_, e2, k2⟩ := K.dep 2 rfl rfl rfl;refine zd 71 (.int .i64 f.params) rfl e2 ?_;exact jd rfl rfl ⟨Below.refl _ _, Left.of ((by rw [decide_eq_true]; omega : (.bool (decide (f.params ≤ ((r : Nat) : Int))) : Value) = _))⟩
            · intro vs X wq K;obtain ⟨_, e3, k3⟩ := K.dep 3 rfl rfl rfl;refine zd 72 (.bool true) rfl e3 ?_;exact zl rfl ⟨Below.refl _ _, Left.of rfl⟩
            · intro vs X wq K;obtain ⟨_, e4, k4⟩ := K.dep 4 rfl rfl rfl;refine zd 73 (.bool true) rfl e4 ?_;exact qq rfl (zl rfl ⟨Below.refl _ _, Left.of rfl⟩)
            · intro vs X wq K;obtain ⟨_, e4, k4⟩ := K.dep 4 rfl rfl rfl;refine zd 73 (.bool true) rfl e4 ?_;exact qq rfl (zl rfl ⟨Below.refl _ _, Left.of rfl⟩)
            · intro vs X wq K;obtain ⟨_, e5, k5⟩ := K.dep 5 rfl rfl rfl;refine zd 74 (.slice A m.length c) rfl e5 ?_;obtain ⟨_, e6, k6⟩ := K.dep 6 rfl rfl rfl;refine zd 75 (.int .i64 ((r : Nat) : Int)) rfl e6 ?_;obtain ⟨_, e4, k4⟩ := K.dep 4 rfl rfl rfl;refine zd 73 (.bool true) rfl e4 ?_
              exact qq rfl (zk (j := r) Tryd.underlying28 sz3 (congrArg (fun z ↦ some (Value.slice z m.length c)) hAm) rfl rfl hrm ⟨Below.refl _ _, Left.of rfl⟩)
            · intro vs X wq K;have LE := K.1;obtain ⟨_, e7, k7⟩ := K.dep 7 rfl rfl rfl;refine zd 76 (.pointer (some ⟨gm, om + r, none⟩)) rfl e7 ?_;obtain ⟨_, e4, k4⟩ := K.dep 4 rfl rfl rfl;refine zd 73 (.bool true) rfl e4 ?_;exact qq rfl (zt Tryd.underlying3 rfl rfl (js LE hcm) ⟨Below.refl _ _, Left.of rfl⟩)
            · intro vs X wq K;obtain ⟨_, e4, k4⟩ := K.dep 4 rfl rfl rfl;refine zd 73 (.bool true) rfl e4 ?_;exact qq rfl (zb Tryd.underlying27 rfl sz3 (by decide) rfl ⟨Below.refl _ _, Left.of rfl⟩)
            · intro vs X wq K;have LE := K.1;obtain ⟨_, e9, k9⟩ := K.dep 9 rfl rfl rfl;refine zd 78 (.pointer (some ⟨g1, 1, none⟩)) rfl e9 ?_;obtain ⟨_, e4, k4⟩ := K.dep 4 rfl rfl rfl;refine zd 73 (.bool true) rfl e4 ?_;exact qq rfl (zg Tryd.underlying3 rfl rfl (vr LE B4) rfl ⟨Below.refl _ _, Left.of rfl⟩)
            · intro vs X wq K;obtain ⟨_, e8, k8⟩ := K.dep 8 rfl rfl rfl;refine zd 77 (.int .i64 y) rfl e8 ?_;obtain ⟨_, e10, k10⟩ := K.dep 10 rfl rfl rfl;refine zd 79 (.int .i64 f.params) rfl e10 ?_;obtain ⟨_, e4, k4⟩ := K.dep 4 rfl rfl rfl;refine zd 73 (.bool true) rfl e4 ?_
              exact qq rfl (yy rfl rfl ⟨Below.refl _ _, Left.of ((by rw [decide_eq_false q5] : (.bool (decide (y < f.params)) : Value) = _))⟩)
            · intro vs X wq K;obtain ⟨_, e4, k4⟩ := K.dep 4 rfl rfl rfl;refine zd 73 (.bool true) rfl e4 ?_;obtain ⟨_, e11, k11⟩ := K.dep 11 rfl rfl rfl;refine zd 80 (.bool false) rfl e11 ?_;exact zx rfl rfl ⟨Below.refl _ _, Left.of rfl⟩
            · intro vs X wq K;obtain ⟨_, e12, k12⟩ := K.dep 12 rfl rfl rfl;refine zd 81 (.bool false) rfl e12 ?_;exact zl rfl ⟨Below.refl _ _, Left.of rfl⟩
            · intro vs X wq K;obtain ⟨_, e13, k13⟩ := K.dep 13 rfl rfl rfl;refine zd 82 (.bool false) rfl e13 ?_;exact zc rfl ⟨Below.refl _ _, Left.of rfl⟩
            · intro vs X wq K;obtain ⟨_, e14, k14⟩ := K.dep 14 rfl rfl rfl;refine zd 83 (undef) rfl e14 ?_;obtain ⟨_, e13, k13⟩ := K.dep 13 rfl rfl rfl;refine zd 82 (.bool false) rfl e13 ?_;exact zc rfl ⟨Below.refl _ _, Left.of rfl⟩
            · intro vs X wq K;obtain ⟨_, e15, k15⟩ := K.dep 15 rfl rfl rfl;refine zd 84 (undef) rfl e15 ?_;obtain ⟨_, e13, k13⟩ := K.dep 13 rfl rfl rfl;refine zd 82 (.bool false) rfl e13 ?_;exact zc rfl ⟨Below.refl _ _, Left.of rfl⟩
            · intro vs X wq K;obtain ⟨_, e13, k13⟩ := K.dep 13 rfl rfl rfl;refine zd 82 (.bool false) rfl e13 ?_;exact zc rfl ⟨Below.refl _ _, Left.of rfl⟩
            · intro vs X wq K;obtain ⟨_, e16, k16⟩ := K.dep 16 rfl rfl rfl;refine zd 85 (undef) rfl e16 ?_;obtain ⟨_, e17, k17⟩ := K.dep 17 rfl rfl rfl;refine zd 86 (undef) rfl e17 ?_;obtain ⟨_, e13, k13⟩ := K.dep 13 rfl rfl rfl;refine zd 82 (.bool false) rfl e13 ?_;exact zc rfl ⟨Below.refl _ _, Left.of rfl⟩
            · intro vs X wq K;obtain ⟨_, e13, k13⟩ := K.dep 13 rfl rfl rfl;refine zd 82 (.bool false) rfl e13 ?_;obtain ⟨_, e18, k18⟩ := K.dep 18 rfl rfl rfl;refine zd 87 (undef) rfl e18 ?_;exact yd rfl rfl ⟨Below.refl _ _, Left.of rfl⟩
          intro vs w7 LE AO AL AF AA;have hbd : Below (w4).heap.size (w4) w7 := (((Ext.refl No (w4)).drew).trans LE).toBelow;obtain ⟨_, e19, k19⟩ := AL.2.2.2.2.2.2.2.2.2.2.2.2.2.2.2.2.2.2.2.1;refine vq (τ := [(1, _), (2, _), (3, _), (7, _), (8, _), (88, .bool false)]) ⟨rfl, rfl, rfl, rfl, rfl, congrArg some e19, trivial⟩ ?_;clear AL AF AA AO;have hb2 := hbd
          refine zh (qp rfl (zq (zf (zh (zj (mvx rfl (za rfl (qc rfl rfl (yg (by omega)) (avx rfl (yc ?_))))))))));exact yt (r + 1) (by show R - (r + 1) < R - r; omega) ⟨rfl, rfl, rfl, rfl, rfl, trivial⟩ (⟨hrl, hEr.trans (Ext.of_below hbd No), xk hy hok ⟨hy0, hyn, hyp, fun _ h => absurd h q5⟩⟩)
     ·
      have hi := of_decide_eq_false hi;have hre : r = R := by omega
      have hF4 := hF3.low (X := No) ⟨hEr, fun _ h => h.elim⟩;refine qe (zm (zm (ya (zh (srx (za rfl (zo Tryd.underlying27 rfl jp rfl B4 rfl (za rfl (yf en24 rfl ((interfere_any _ p f n0 hF4 hs hbk R hRr).mono ?_))))))))));rintro e w8 ⟨go, rows, rfl, hrl, hmet, ⟨nG, hG⟩, hb⟩;refine ⟨_, rfl, ?_⟩;have E5 := Ext.of_below hb No
      have B5 := B4.ext E5 (fun h => h.elim);have hE5 := (hE3.trans hEr).trans E5;obtain ⟨wI, hwI⟩ : ∃ wI, wI = w8 := ⟨_, rfl⟩;rw [← hwI] at B5 hE5 hG;have hmI : IntsA n1 wI A m := hm.low (X := No) ⟨hE5, fun _ h => h.elim⟩
      refine anx rfl (zp (srx (anx rfl (yb (qu (ι := Nat) (fun r => [(1, .slice A m.length c), (3, .pointer (some ⟨g1, 0, none⟩)), (9, .slice (some ⟨go, 0, none⟩) R R), (10, .int .i64 ((r : Nat) : Int))]) (fun r w' => r ≤ R ∧ Ext No wI w' ∧ ∀ (r' o : Nat) (x y : Int), r' < r → Met f r' o → m[r']? = some x → m[o]? = some y → x ≠ y) (fun r => R - r) 0 ⟨rfl, rfl, rfl, rfl, trivial⟩ (⟨Nat.zero_le _, by rw [hwI]; exact Ext.refl _ _, fun r' o x y h => absurd h (Nat.not_lt_zero _)⟩) ?_)))))
      rintro r w10 ⟨hrR2, hEr2, hok2⟩;have B6 := B5.ext hEr2 (fun h => h.elim)
      refine zp (srx (mvx rfl (za rfl (zb Tryd.underlying27 rfl sz3 (by decide) rfl (za rfl (zg Tryd.underlying3 rfl rfl B6 rfl (qr 93 (.int .i64 ((R : Nat) : Int)) rfl ((by rw [hRr] : (.int .i64 f.regs : Value) = _)) (za rfl (yy rfl rfl (rnx (zr rfl (fun hi2 => ?_) (fun hi2 => ?_))))))))))))
      ·
       have hi2 := of_decide_eq_true hi2;have hrl2 : r < R := by omega
       obtain ⟨d, hd⟩ : ∃ d, rows[r]? = some d := ⟨_, List.getElem?_eq_getElem (by omega)⟩;have hmr := hmet r;have hdl := owns_max (hG.own d (List.mem_of_getElem? hd));rw [zsq hd] at hmr;obtain ⟨x, hx⟩ : ∃ x, m[r]? = some x := ⟨_, List.getElem?_eq_getElem (by omega)⟩
       refine zq (zh (zp (yb (srx (anx rfl (yb (qu (ι := Nat) (fun k => [(1, .slice A m.length c), (3, .pointer (some ⟨g1, 0, none⟩)), (9, .slice (some ⟨go, 0, none⟩) R R), (10, .int .i64 ((r : Nat) : Int)), (11, .int .i64 ((k : Nat) : Int))]) (fun k w' => k ≤ d.2.2.length ∧ Ext No wI w' ∧ ∀ (j o : Nat) (y : Int), j < k → d.2.2[j]? = some o → m[o]? = some y → x ≠ y) (fun k => d.2.2.length - k) 0 ⟨rfl, rfl, rfl, rfl, rfl, trivial⟩ (⟨Nat.zero_le _, hEr2, fun j o y h => absurd h (Nat.not_lt_zero _)⟩) ?_)))))))
       rintro k w12 ⟨hkl, hEk, hokk⟩;have hGk := hG.no hEk;have hcd := hGk.cell hd
       refine zp (srx (mvx rfl (mvx rfl (mvx rfl (za rfl (zk (j := r) Tryd.underlying59 gu rfl rfl rfl hrl2 (za rfl (zt Tryd.underlying28 rfl rfl (by rw [Nat.zero_add]; exact hcd) (za rfl (yw Tryd.underlying28 rfl (za rfl (yy rfl rfl (rnx (zr rfl (fun hk => ?_) (fun hk => ?_)))))))))))))))
       ·
        have hk := of_decide_eq_true hk;have hkl2 : k < d.2.2.length := by omega
        obtain ⟨o, ho⟩ : ∃ o, d.2.2[k]? = some o := ⟨_, List.getElem?_eq_getElem hkl2⟩;have hmo := (hmr o).1 (List.mem_of_getElem? ho);have hoR : o < R := by
         obtain ⟨_, _, _, _, _, _, _, _, hl, _⟩ := hmo;have := (liv_in hs hl).2;omega
        obtain ⟨y, hy⟩ : ∃ y, m[o]? = some y := ⟨_, List.getElem?_eq_getElem (by omega)⟩;have hmk : IntsA n1 w12 A m := hmI.low (X := No) ⟨hEk, fun _ h => h.elim⟩;obtain ⟨gm, om, hAm, hgm, hcx⟩ := hmk.cell hx;obtain ⟨gm2, om2, hAm2, hgm2, hcy⟩ := hmk.cell hy;rw [hAm] at hAm2;cases hAm2
        obtain ⟨gd, hAd, hgd1, hgd2, hcs⟩ := jm (hGk.own d (List.mem_of_getElem? hd)) (by omega);have hco := hcs k _ (by have := ziv (en := enD) (s := 1) (i := 0) (fun _ => rfl) ho rfl; rwa [Nat.mul_one, Nat.add_zero] at this);refine zq (zh (zp (yb (zp ?_))));refine jx (No) Mut.none_ [] [] (kl [Fx.of (.slice A m.length c),
         Fx.of (.slice (some ⟨go, 0, none⟩) R R),
         Fx.of (.int .i64 ((r : Nat) : Int)),
         Fx.of (.pointer (some ⟨go, 0 + r, none⟩)),
         Fx.of (.slice d.1 d.2.2.length d.2.1),
         Fx.of (.int .i64 ((k : Nat) : Int)),
         Fx.of (.pointer (some ⟨gd, 0 + k, none⟩)),
         Fx.of (.int .i64 ((o : Nat) : Int)),
         Fx.of (.pointer (some ⟨gm, om + o, none⟩)),
         Fx.of (.int .i64 y),
         Fx.of (.slice A m.length c),
         Fx.of (.int .i64 ((r : Nat) : Int)),
         Fx.of (.pointer (some ⟨gm, om + r, none⟩)),
         Fx.of (.int .i64 x),
         Fx.of (.bool (y == x))]) je rfl trivial (fun _ h => by cases h) ?_ ?_
        · refine ⟨?_, ?_, ?_, ?_, ?_, ?_, ?_, ?_, ?_, ?_, ?_, ?_, ?_, ?_, ?_, trivial⟩
          · intro vs X wq K;exact zl rfl ⟨Below.refl _ _, Left.of rfl⟩
          · intro vs X wq K;exact zl rfl ⟨Below.refl _ _, Left.of rfl⟩
          · intro vs X wq K;exact zl rfl ⟨Below.refl _ _, Left.of rfl⟩
          · intro vs X wq K;obtain ⟨_, e1, k1⟩ := K.dep 1 rfl rfl rfl;refine zd 107 (.slice (some ⟨go, 0, none⟩) R R) rfl e1 ?_;obtain ⟨_, e2, k2⟩ := K.dep 2 rfl rfl rfl;refine zd 108 (.int .i64 ((r : Nat) : Int)) rfl e2 ?_;exact zk (j := r) Tryd.underlying59 gu rfl rfl rfl hrl2 ⟨Below.refl _ _, Left.of rfl⟩
          · intro vs X wq K;have LE := K.1;obtain ⟨_, e3, k3⟩ := K.dep 3 rfl rfl rfl;refine zd 109 (.pointer (some ⟨go, 0 + r, none⟩)) rfl e3 ?_;exact zt Tryd.underlying28 rfl rfl (by rw [Nat.zero_add]; exact js LE hcd) ⟨Below.refl _ _, Left.of rfl⟩
          · intro vs X wq K;exact zl rfl ⟨Below.refl _ _, Left.of rfl⟩
          · intro vs X wq K;obtain ⟨_, e4, k4⟩ := K.dep 4 rfl rfl rfl;refine zd 110 (.slice d.1 d.2.2.length d.2.1) rfl e4 ?_;obtain ⟨_, e5, k5⟩ := K.dep 5 rfl rfl rfl;refine zd 111 (.int .i64 ((k : Nat) : Int)) rfl e5 ?_;exact zk (j := k) Tryd.underlying28 sz3 (congrArg (fun z ↦ some (Value.slice z d.2.2.length d.2.1)) hAd) rfl rfl hkl2 ⟨Below.refl _ _, Left.of rfl⟩
          · intro vs X wq K;have LE := K.1;obtain ⟨_, e6, k6⟩ := K.dep 6 rfl rfl rfl;refine zd 112 (.pointer (some ⟨gd, 0 + k, none⟩)) rfl e6 ?_;exact zt Tryd.underlying3 rfl rfl (by rw [Nat.zero_add]; exact js LE hco) ⟨Below.refl _ _, Left.of rfl⟩
          · intro vs X wq K;obtain ⟨_, e0, k0⟩ := K.dep 0 rfl rfl rfl;refine zd 106 (.slice A m.length c) rfl e0 ?_;obtain ⟨_, e7, k7⟩ := K.dep 7 rfl rfl rfl;refine zd 113 (.int .i64 ((o : Nat) : Int)) rfl e7 ?_;exact zk (j := o) Tryd.underlying28 sz3 (congrArg (fun z ↦ some (Value.slice z m.length c)) hAm) rfl rfl (by omega) ⟨Below.refl _ _, Left.of rfl⟩
          · intro vs X wq K;have LE := K.1;obtain ⟨_, e8, k8⟩ := K.dep 8 rfl rfl rfl;refine zd 114 (.pointer (some ⟨gm, om + o, none⟩)) rfl e8 ?_;exact zt Tryd.underlying3 rfl rfl (js LE hcy) ⟨Below.refl _ _, Left.of rfl⟩
          · intro vs X wq K;exact zl rfl ⟨Below.refl _ _, Left.of rfl⟩
          · intro vs X wq K;exact zl rfl ⟨Below.refl _ _, Left.of rfl⟩
          · intro vs X wq K;obtain ⟨_, e10, k10⟩ := K.dep 10 rfl rfl rfl;refine zd 116 (.slice A m.length c) rfl e10 ?_;obtain ⟨_, e11, k11⟩ := K.dep 11 rfl rfl rfl;refine zd 117 (.int .i64 ((r : Nat) : Int)) rfl e11 ?_;exact zk (j := r) Tryd.underlying28 sz3 (congrArg (fun z ↦ some (Value.slice z m.length c)) hAm) rfl rfl (by omega) ⟨Below.refl _ _, Left.of rfl⟩
          · intro vs X wq K;have LE := K.1;obtain ⟨_, e12, k12⟩ := K.dep 12 rfl rfl rfl;refine zd 118 (.pointer (some ⟨gm, om + r, none⟩)) rfl e12 ?_;exact zt Tryd.underlying3 rfl rfl (js LE hcx) ⟨Below.refl _ _, Left.of rfl⟩
          · intro vs X wq K;obtain ⟨_, e9, k9⟩ := K.dep 9 rfl rfl rfl;refine zd 115 (.int .i64 y) rfl e9 ?_;obtain ⟨_, e13, k13⟩ := K.dep 13 rfl rfl rfl;refine zd 119 (.int .i64 x) rfl e13 ?_;exact yn rfl rfl ⟨Below.refl _ _, Left.of rfl⟩
        intro vs w13 LE AO AL AF AA;have hbd : Below (w12).heap.size (w12) w13 := (((Ext.refl No (w12)).drew).trans LE).toBelow;obtain ⟨_, e14, k14⟩ := AL.2.2.2.2.2.2.2.2.2.2.2.2.2.2.1;refine vq (τ := [(1, _), (3, _), (9, _), (10, _), (11, _), (120, .bool (y == x))]) ⟨rfl, rfl, rfl, rfl, rfl, congrArg some e14, trivial⟩ ?_;clear AL AF AA AO;have hEd := hEk.trans (Ext.of_below hbd No)
        refine zh (zr rfl (fun hq => ?_) (fun hq => ?_))
        ·
         have hq : y = x := eq_of_beq hq;refine srx (anx rfl (zv (zi (ze (ze (zi (zi (ze (ze (zi (ze (zu (rs := [.tmp 6]) (vs := [_]) rfl ⟨rfl, trivial⟩ ?_))))))))))))
         exact ⟨false, rfl, ⟨fun h => (by cases h), fun h => absurd h (fun h => h.2.2.2.2.2 r o x y hmo hx hy hq.symm)⟩, (hE5.trans hEd).toBelow⟩
        ·
         have hq : y ≠ x := by simpa using hq
         have hk3 : ∀ (j o : Nat) (y : Int), j < k + 1 → d.2.2[j]? = some o → m[o]? = some y → x ≠ y := fun j o2 y2 hj ho2 hy2 => by
          rcases Nat.lt_or_ge j k with h | h
          · exact hokk j o2 y2 h ho2 hy2
          · obtain rfl : j = k := by omega
            rw [ho] at ho2;obtain rfl := Option.some.inj ho2;rw [hy] at hy2;obtain rfl := Option.some.inj hy2;exact fun e => hq e.symm
         refine zq (zf (zh (zj (mvx rfl (za rfl (qc rfl rfl (yg (by omega)) (avx rfl (yc ?_))))))));exact yt (k + 1) (by show d.2.2.length - (k + 1) < d.2.2.length - k; omega) ⟨rfl, rfl, rfl, rfl, rfl, trivial⟩ (⟨hkl2, hEd, hk3⟩)
       ·
        have hk := of_decide_eq_false hk;have hr3 : ∀ (r' o : Nat) (x y : Int), r' < r + 1 → Met f r' o → m[r']? = some x → m[o]? = some y → x ≠ y := fun r' o x' y' hr' hM hx' hy' => by
         rcases Nat.lt_or_ge r' r with h | h
         · exact hok2 r' o x' y' h hM hx' hy'
         · obtain rfl : r' = r := by omega
           rw [hx] at hx';obtain rfl := Option.some.inj hx';obtain ⟨j, hj⟩ := List.mem_iff_getElem?.1 ((hmr o).2 hM);exact hokk j o y' (by have := (List.getElem?_eq_some_iff.1 hj).1; omega) hj hy'
        refine qe (zm (zm (ya (zf (zh (zj (mvx rfl (za rfl (qc rfl rfl (yg (by omega)) (avx rfl (yc ?_)))))))))));exact yt (r + 1) (by show R - (r + 1) < R - r; omega) ⟨rfl, rfl, rfl, rfl, trivial⟩ (⟨hrl2, hEk, hr3⟩)
      ·
       have hi2 := of_decide_eq_false hi2;have hre2 : r = R := by omega
       have hfin : jq f m n := ⟨hs, h1, by omega, by omega, fun r' x hx => hok _ x (by have := (List.getElem?_eq_some_iff.1 hx).1; omega) hx, fun r' o x y hM hx hy => hok2 r' o x y (by have := (List.getElem?_eq_some_iff.1 hx).1; omega) hM hx hy⟩
       refine qe (zm (zm (ya (zh (srx (anx rfl (zv (zu (rs := [.tmp 6]) (vs := [_]) rfl ⟨rfl, trivial⟩ ?_))))))));exact ⟨true, rfl, ⟨fun _ => hfin, fun _ => rfl⟩, (hE5.trans hEr2).toBelow⟩
 ·
  have hs : vh f = false := by simpa using hs
  refine qr 13 (.bool false) rfl ((by rw [hs] : (.bool (vh f) : Value) = _)) (za rfl (jg rfl (mvx rfl (za rfl (zc rfl (za rfl (zc rfl (za rfl (zc rfl (za rfl (zc rfl (za rfl (zc rfl (za rfl (zx rfl rfl (mvx rfl (za rfl (zc rfl (za rfl (zc rfl (za rfl (zc rfl (za rfl (zc rfl (za rfl (zx rfl rfl (mvx rfl (za rfl (zc rfl (za rfl (zc rfl (za rfl (zc rfl (za rfl (zc rfl (za rfl (zx rfl rfl (rnx (yr rfl (srx (anx rfl (zv (ze (zu (rs := [.tmp 6]) (vs := [_]) rfl ⟨rfl, trivial⟩ ?_))))))))))))))))))))))))))))))))))))))))))))
  exact ⟨false, rfl, ⟨fun h => (by cases h), fun h => absurd h (fun h => by rw [h.1] at hs; cases hs)⟩, hE2.toBelow⟩
end
end Go.Proofs.YtppdgjlmeahimaaDoor
namespace Go.Proofs.YtppdgjlmeahimaaDoor
structure Greedy (f : LFn) (W : List (List Nat)) (ms : List Int) : Prop where
 low : ∀ (r : Nat) (x : Int), ms[r]? = some x → (r : Int) < f.params → x = (r : Int)
 high : ∀ (r : Nat) (x : Int), ms[r]? = some x → f.params ≤ (r : Int) → ∃ least, (least = 0 ∨ least = f.params) ∧ (Liv f 0 r → least = f.params) ∧ FreeP (W.getD r []) (ms.take r) least x
theorem Greedy.le {f : LFn} {W : List (List Nat)} {ms : List Int} (h : Greedy f W ms) (hp : 0 ≤ f.params) {r : Nat} {x : Int} (hx : ms[r]? = some x) : 0 ≤ x ∧ x ≤ (r : Int) := by
 have hr := (List.getElem?_eq_some_iff.1 hx).1;rcases Int.lt_or_le (r : Int) f.params with h1 | h1
 · have := h.low r x hx h1; omega
 · obtain ⟨least, h2, _, h3, _, h4⟩ := h.high r x hx h1;have h0 : 0 ≤ x := by rcases h2 with h2 | h2 <;> omega
   refine ⟨h0, ?_⟩;have := many_in x.toNat 0 (ms.take r) fun i hi => by
    rw [Int.zero_add];rcases Int.lt_or_le (i : Int) least with h5 | h5
    · have h6 : least = f.params := by rcases h2 with h2 | h2 <;> omega
      have h7 : i < ms.length := by omega
      have h8 : ms[i]? = some ms[i] := List.getElem?_eq_getElem h7;have h9 := h.low i _ h8 (by omega);refine List.mem_of_getElem? (i := i) ?_;rw [List.getElem?_take, if_pos (by omega), h8, h9]
    · obtain ⟨o, h6, _⟩ := h4 (i : Int) h5 (by omega);exact List.mem_of_getElem? h6
   rw [List.length_take] at this;omega
theorem greedy_right {f : LFn} {W : List (List Nat)} {ms : List Int} {n : Int} (hs : vh f = true) (hW : ∀ a b, vj W a b = true ↔ (Met f a b ∨ Met f b a)) (h : Greedy f W ms) (hl : (ms.length : Int) = f.regs) (h1 : f.params ≤ n) (h2 : ∀ x ∈ ms, x < n) (h3 : n = f.params ∨ ∃ x ∈ ms, n = x + 1) : jq f ms n := by
 obtain ⟨hr0, hr1, hp0, hp1, hne⟩ := gl hs;have key : ∀ (r o : Nat) (x : Int), r < o → vj W o r = true → ms[r]? = some x → ms[o]? = some x → False := fun r o x hro hb hx hy => by
  rcases Int.lt_or_le (o : Int) f.params with h4 | h4
  · have h5 := h.low r x hx (by omega);have h6 := h.low o x hy h4;omega
  · obtain ⟨least, _, _, _, h5, _⟩ := h.high o x hy h4;exact h5 ⟨r, by rw [List.getElem?_take, if_pos hro]; exact hx, hb⟩
 refine ⟨hs, hl, h1, ?_, fun r x hx => ⟨(h.le hp0 hx).1, h2 x (List.mem_of_getElem? hx), fun h4 => h.low r x hx h4, fun h4 h5 h6 => ?_⟩, fun r o x y hM hx hy hxy => ?_⟩
 · rcases h3 with h3 | ⟨x, hx, h3⟩
   · omega
   · obtain ⟨r, hr, e⟩ := List.getElem_of_mem hx;have := h.le hp0 (List.getElem?_eq_getElem hr);omega
 · obtain ⟨least, _, h7, h8, _⟩ := h.high r x hx h4;have := h7 h6;omega
 · subst hxy;rcases Nat.lt_trichotomy r o with h4 | h4 | h4
   · exact key r o x h4 ((hW o r).2 (Or.inr hM)) hx hy
   · obtain ⟨_, _, _, _, _, _, _, _, _, h5, _⟩ := hM;exact h5 h4.symm
   · exact key o r x h4 ((hW r o).2 (Or.inl hM)) hy hx
theorem Greedy.nil {f : LFn} {W : List (List Nat)} : Greedy f W [] := ⟨fun r x h => by simp at h, fun r x h => by simp at h⟩
theorem Greedy.add {f : LFn} {W : List (List Nat)} {ms : List Int} {x : Int} (h : Greedy f W ms) (h1 : (ms.length : Int) < f.params → x = (ms.length : Int)) (h2 : f.params ≤ (ms.length : Int) → ∃ least, (least = 0 ∨ least = f.params) ∧ (Liv f 0 ms.length → least = f.params) ∧ FreeP (W.getD ms.length []) ms least x) : Greedy f W (ms ++ [x]) := by
 have key : ∀ (r : Nat) (y : Int), (ms ++ [x])[r]? = some y → (r < ms.length ∧ ms[r]? = some y ∧ (ms ++ [x]).take r = ms.take r) ∨ (r = ms.length ∧ y = x ∧ (ms ++ [x]).take r = ms) := fun r y hy => by
  rcases Nat.lt_or_ge r ms.length with h3 | h3
  · rw [List.getElem?_append_left h3] at hy;exact Or.inl ⟨h3, hy, List.take_append_of_le_length (by omega)⟩
  · rw [List.getElem?_append_right h3] at hy;have h4 := (List.getElem?_eq_some_iff.1 hy).1;simp at h4
    have h5 : r = ms.length := by omega
    subst h5;simp at hy
    exact Or.inr ⟨rfl, hy.symm, by simp⟩
 refine ⟨fun r y hy hr => ?_, fun r y hy hr => ?_⟩
 · rcases key r y hy with ⟨_, h4, _⟩ | ⟨rfl, rfl, _⟩
   · exact h.low r y h4 hr
   · exact h1 hr
 · rcases key r y hy with ⟨_, h4, h5⟩ | ⟨rfl, rfl, h5⟩
   · rw [h5]; exact h.high r y h4 hr
   · rw [h5]; exact h2 hr
end Go.Proofs.YtppdgjlmeahimaaDoor
namespace Go.Proofs.YtppdgjlmeahimaaDoor
open Go.RowKit
set_option maxRecDepth 100000
attribute [local irreducible] OW RS
def oj (ms : List Int) (R : Nat) : List Value := yz ms ++ List.replicate (R - ms.length) (.int .i64 0)
theorem yex {ms : List Int} {R : Nat} (h : ms.length ≤ R) : (oj ms R).length = R := by
 unfold oj yz; simp; omega
theorem yez {ms : List Int} {R : Nat} {x : Int} (h : ms.length < R) : (oj ms R).set ms.length (.int .i64 x) = oj (ms ++ [x]) R := by
 unfold oj yz;obtain ⟨k, hk⟩ : ∃ k, R - ms.length = k + 1 := ⟨R - ms.length - 1, by omega⟩;have h2 : R - (ms ++ [x]).length = k := by simp; omega
 rw [hk, h2, List.replicate_succ, List.set_append_right _ _ (by simp)];simp
theorem fillV_at {ms : List Int} {R i : Nat} {x : Int} (h : ms[i]? = some x) : (oj ms R)[i]? = some (.int .i64 x) := by
 unfold oj yz;rw [List.getElem?_append_left (by rw [List.length_map]; exact (List.getElem?_eq_some_iff.1 h).1), List.getElem?_map, h]; rfl
theorem fillV_full {ms : List Int} {R : Nat} (h : ms.length = R) : oj ms R = yz ms := by
 unfold oj; rw [h]; simp
theorem fillV_nil (R : Nat) : oj [] R = List.replicate R (.int .i64 0) := by unfold oj yz; simp
def idL (R : Nat) : List Int := (List.range R).map fun (i : Nat) => (i : Int)
theorem ztk (R : Nat) : (idL R).length = R := by simp [idL]
theorem idL_at {R r : Nat} {x : Int} (h : (idL R)[r]? = some x) : x = (r : Int) ∧ r < R := by
 unfold idL at h;rw [List.getElem?_map] at h;cases hr : (List.range R)[r]? with
 | none => rw [hr] at h; cases h
 | some y =>
  rw [hr] at h;obtain ⟨h1, h2⟩ := List.getElem?_eq_some_iff.1 hr;simp at h1 h2
  subst h2;exact ⟨(Option.some.inj h).symm, h1⟩
theorem idL_succ (i : Nat) : idL (i + 1) = idL i ++ [(i : Int)] := by unfold idL; rw [List.range_succ, List.map_append]; rfl
theorem ident_right {f : LFn} (hs : vh f = true) : jq f (idL f.regs.toNat) f.regs := by
 obtain ⟨hr0, hr1, hp0, hp1, hne⟩ := gl hs;refine ⟨hs, by rw [ztk]; omega, hp1, Int.le_refl _, fun r x hx => ?_, fun r o x y hM hx hy hxy => ?_⟩
 · obtain ⟨rfl, h1⟩ := idL_at hx;exact ⟨by omega, by omega, fun _ => rfl, fun h2 h3 => absurd h3 (by omega)⟩
 · obtain ⟨_, _, _, _, _, _, _, _, _, h5, _⟩ := hM;have h6 := (idL_at hx).1;have h7 := (idL_at hy).1;exact h5 (by omega)
def AJ (g10 go R n base : Nat) (gs : List Nat) (D : Nat → Nat → Prop) (w : World) : Prop := Blk w g10 52 #[.slice (some ⟨go, 0, none⟩) R R] ∧ ∃ Q, RowsB 55 35 base w go R n gs Q ∧ Q.length = R ∧ ∀ a b, vj Q a b = true ↔ (D a b ∨ D b a)
theorem assign_each {g10 go R n base : Nat} {gs : List Nat} {w0 : World} (hRn : R ≤ 64 * n) (hn : n ≤ 1024) (hcap : g10 ∉ gs) (h1 : g10 < w0.heap.size) (h2 : go < w0.heap.size) (h3 : ∀ g ∈ gs, g < w0.heap.size) : EachOk 25 #[.pointer (some ⟨g10, 0, none⟩)] R (fun k => k ∈ gs) (AJ g10 go R n base gs) (fun _ _ => False) w0 where
 keep := fun D w w' Y h e hY => by
  obtain ⟨hb, Q, hQ, hl, hbit⟩ := h;exact ⟨hb.ext e (fun h => by have := hY _ h; omega), Q, hQ.ext e (fun h => by have := hY _ h; omega) (fun g hg h => by have := hY _ h; have := h3 g hg; omega), hl, hbit⟩
 call := fun D w r o h _ hr ho => by
  obtain ⟨hb, Q, hQ, hl, hbit⟩ := h;rw [show (#[.int .i64 ((r : Nat) : Int), .int .i64 ((o : Nat) : Int)] ++ #[.pointer (some ⟨g10, 0, none⟩)] : Array Value) = #[.int .i64 ((r : Nat) : Int), .int .i64 ((o : Nat) : Int), .pointer (some ⟨g10, 0, none⟩)] from rfl];have hR64 := zix hQ hl
  refine (assign1_any w g10 go R n base gs Q hb hQ hl hRn hn hcap r o hr ho).mono fun e w' h => ⟨true, h.1, h.2.1, fun _ => ⟨hb.ext h.2.1 hcap, _, h.2.2, by rw [zyz, zyz]; exact hl, fun a b => ?_⟩, fun h => by cases h⟩;rw [zuz (setW_rows hR64 hr) ho (by omega), zuz hR64 hr (by omega), Bool.or_eq_true, Bool.or_eq_true, hbit, decide_eq_true_iff, decide_eq_true_iff]
  constructor
  · rintro (((h | h) | ⟨rfl, rfl⟩) | ⟨rfl, rfl⟩)
    · exact Or.inl (Or.inl h)
    · exact Or.inr (Or.inl h)
    · exact Or.inl (Or.inr ⟨rfl, rfl⟩)
    · exact Or.inr (Or.inr ⟨rfl, rfl⟩)
  · rintro ((h | ⟨rfl, rfl⟩) | (h | ⟨rfl, rfl⟩))
    · exact Or.inl (Or.inl (Or.inl h))
    · exact Or.inl (Or.inr ⟨rfl, rfl⟩)
    · exact Or.inl (Or.inl (Or.inr h))
    · exact Or.inr ⟨rfl, rfl⟩
theorem meets_assign {w : World} {p : Pl} {f : LFn} {n0 b0 cl g10 go R n base : Nat} {AL : Option Addr} {W : List (List Nat)} {gs : List Nat} (hF : FnA n0 w p f) (hs :     vh f = true) (hD : DbT w) (hW : Rows64 W f.ins.length (    ke f)) (hL : ∀ a r,   vj W a r = true ↔ Liv f a r) (hA : RowsW b0 w AL W) (hb0 : n0 ≤ b0) (hdb : 0 < b0)
 (hR : f.regs.toNat = R) (hRn : R ≤ 64 * n) (hn : n ≤ 1024) (hcap : g10 ∉ gs) (hgs : ∀ g ∈ gs, b0 ≤ g) (h4 : Blk w g10 52 #[.slice (some ⟨go, 0, none⟩) R R]) (hQ : RowsB 55 35 base w go R n gs (List.replicate R (List.replicate n 0))) : Calls Tryd.prog 20 #[fnV p f, .slice AL f.ins.length cl, .func (.func 25) #[] #[.pointer (some ⟨g10, 0, none⟩)]] w fun e w' => e = .returned (.bool true) ∧ Ext (fun k => k ∈ gs) w w' ∧ AJ g10 go R n base gs (Met f) w' :=
 (meets_any w p f n0 b0 cl AL W hF hs hD hW hL hA hb0 hdb _ _ (fun k => k ∈ gs) (AJ g10 go R n base gs) (fun _ _ => False) (fun k hk => ⟨hgs k hk, hQ.lt hk⟩) (by rw [hR]; exact assign_each hRn hn hcap h4.lt hQ.out.lt (fun g hg => hQ.lt hg)) en25 ⟨h4, _, hQ, by rw [List.length_replicate], fun a b => by
  constructor
  · intro h;unfold   vj at h;rw [List.getD_eq_getElem?_getD, List.getElem?_replicate] at h;split at h
    · rw [Option.getD_some,       yev] at h; cases h
    · simp [  gn] at h
  · intro h; rcases h with h | h <;> exact h.elim⟩).mono fun e w' h => by
  obtain ⟨hE, h⟩ := h;rcases h with ⟨he, D, hD, hJ⟩ | ⟨_, _, _, _, h⟩
  · have e1 : D = Met f := funext fun a => funext fun b => propext (hD a b);rw [e1] at hJ;exact ⟨he, hE, hJ⟩
  · exact h.elim
theorem u64_blk {w : World} {g n N : Nat} {x : List Nat} (hb : Blk w g 35 (vp x).toArray) (h : Row64 x n) (hn : n ≤ 1024) (hN : g < N) : U64A N w (some ⟨g, 0, none⟩) x :=
 ⟨by rw [h.1]; omega, h.2, fun _ => ⟨g, 0, rfl, hN, fun j y hj => by
  show w.cell? ⟨g, 0 + j * 1, none⟩ = _
  rw [hb.cell, List.getElem?_toArray, Nat.zero_add, Nat.mul_one];exact ybk hj⟩⟩
theorem ints_fill {w : World} {g R N : Nat} {ms : List Int} (hb : Blk w g 3 (oj ms R).toArray) (hl : 8 * ms.length ≤ 140737488355000) (hi : ∀ x ∈ ms, I64 x) (hN : g < N) : IntsA N w (some ⟨g, 0, none⟩) ms :=
 ⟨hl, hi, fun _ => ⟨g, 0, rfl, hN, fun j y hj => by
  show w.cell? ⟨g, 0 + j * 1, none⟩ = _
  rw [hb.cell, List.getElem?_toArray, Nat.zero_add, Nat.mul_one];exact fillV_at hj⟩⟩
def RetAssign (f : LFn) (w : World) : Ending → World → Prop := fun e w' => Below w.heap.size w w' ∧ (vh f = false → e = .returned (.tuple #[.slice none 0 0, .int .i64 0, .int .i64 3])) ∧ (vh f = true → ∃ gm ms n, e = .returned (.tuple #[.slice (some ⟨gm, 0, none⟩) ms.length ms.length, .int .i64 n, .int .i64 0]) ∧ w.heap.size ≤ gm ∧ Blk w' gm 3 (yz ms).toArray ∧ jq f ms n)
section
variable (w : World) (p : Pl) (f : LFn) (n0 : Nat) (hF : FnA n0 w p f) (hD : DbT w)
include hF hD
theorem assign_any : Calls Tryd.prog 11 #[fnV p f] w (RetAssign f w) := by
 have hrl := hF.rgs.len;have hil := hF.ins.len;have hn := hF.size;refine qs Tryd.func11 rfl Tryd.ntmps11 rfl (srx (za rfl (vk rfl ?_)));rintro g1 wA B1 E1 G1;have hFA : FnA n0 wA p f := hF.low (X := No) ⟨E1, fun _ h => h.elim⟩;refine avx rfl (avx rfl (anx rfl (srx (za rfl (zo Tryd.underlying27 rfl jp rfl B1 rfl ?_)))));by_cases hs : vh f = true
 ·
  obtain ⟨hr0, hr1, hp0, hp1, hne⟩ := gl hs;obtain ⟨R, hRr⟩ : ∃ R : Nat, f.regs = (R : Int) := ⟨f.regs.toNat, by omega⟩;refine za rfl (yf en19 rfl ((live_yes hFA hs).mono ?_));rintro e w1 ⟨AL, cL, W, rfl, hW, hL, hA, hb⟩;refine ⟨_, rfl, ?_⟩;have E2 := Ext.of_below hb No;obtain ⟨b0, hb0⟩ : ∃ b0, b0 = w1.heap.size := ⟨_, rfl⟩;rw [← hb0] at hA;have B2 := B1.ext E2 (fun h => h.elim)
  refine mvx rfl (za rfl (vz rfl rfl (za rfl (vz rfl rfl (avx rfl (anx rfl (zp (srx (mvx rfl (za rfl (vb rfl rfl (rnx (qp rfl (zq (zh (srx (za rfl (zb Tryd.underlying27 rfl sz3 (by decide) rfl (za rfl (zg Tryd.underlying3 rfl rfl B2 rfl (za rfl (zbz (n := R) Tryd.underlying28 ou rfl rfl rfl hRr hRr (by omega) (by omega) ?_))))))))))))))))))))))
  rintro gm wB Bm E3 Gm;have B3 := B2.ext E3 (fun h => h.elim);refine anx rfl (zp (srx (za rfl (zb Tryd.underlying27 rfl sz3 (by decide) rfl (za rfl (zg Tryd.underlying3 rfl rfl B3 rfl (za rfl (xb rfl rfl (rnx (zr rfl (fun h3 => ?_) (fun h3 => ?_)))))))))))
  ·
   have h3 := of_decide_eq_true h3;have hz0 : Blk wB gm 3 (oj (idL 0) R).toArray := by rw [show idL 0 = [] from rfl, fillV_nil]; exact Bm
   have hg1m : g1 ≠ gm := by have := B2.lt; omega
   refine zp (srx (mvx rfl (za rfl (yw Tryd.underlying28 rfl (mvx rfl (rnx (yb (qu (ι := Nat) (fun i => [(1, .pointer (some ⟨g1, 0, none⟩)), (7, .slice (some ⟨gm, 0, none⟩) R R), (30, .int .i64 ((R : Nat) : Int)), (31, .int .i64 ((i : Nat) : Int))]) (fun i w' => Ext (Mut [some gm]) wB w' ∧ Blk w' gm 3 (oj (idL i) R).toArray ∧ i ≤ R) (fun i => R - i) 0 ⟨rfl, rfl, rfl, rfl, trivial⟩ (⟨Ext.refl _ _, hz0, Nat.zero_le _⟩) ?_))))))))
   rintro i w3 ⟨hEi, hBi, hiR⟩;refine srx (za rfl (yy rfl rfl (rnx (zp (zr rfl (fun hi => ?_) (fun hi => ?_))))))
   ·
    have hi := of_decide_eq_true hi;have hiR2 : i < R := by omega
    refine zq (zh (zp (yb (srx (mvx rfl (anx rfl (zj (mvx rfl (mvx rfl (mvx rfl (za rfl (zk (j := i) Tryd.underlying28 sz3 rfl rfl rfl hiR2 (zw (qi sz3 rfl rfl hBi rfl rfl (by rw [List.size_toArray, yex (by rw [ztk]; omega)]; omega) (show _ = (oj (idL (i + 1)) R).toArray from by rw [idL_succ, ← yez (by rw [ztk]; exact hiR2), ztk, Nat.zero_add, List.setIfInBounds_toArray]) ?_))))))))))))))
    rintro wC Bs Es;refine yc (zf (zh (zj (za rfl (qc rfl rfl (yg (by omega)) (mvx rfl (yc ?_)))))));exact yt (i + 1) (by show R - (i + 1) < R - i; omega) ⟨rfl, rfl, rfl, rfl, trivial⟩ (⟨hEi.step Es (fun i h => Or.inl h), Bs, hiR2⟩)
   ·
    have hi := of_decide_eq_false hi;have hie : i = R := by omega
    rw [hie, fillV_full (ztk R)] at hBi;have B4 := B3.ext hEi (fun h => hg1m (qt h));refine qe (zm (zm (ya (zh (zp (kr je (kt 5 rfl ?_)))))));refine vv (No) Mut.none_ [] [] (kl [Fx.of (.slice (some ⟨gm, 0, none⟩) R R),
     Fx.of (.pointer (some ⟨g1, 2, none⟩)),
     Fx.of (.int .i64 f.regs),
     Fx.of (.slice (some ⟨gm, 0, none⟩) R R),
     Fx.of (.int .i64 f.regs)]) rfl trivial (fun _ h => by cases h) ?_ ?_
    · refine ⟨?_, ?_, ?_, ?_, ?_, trivial⟩
      · intro vs X wq K;exact zl rfl ⟨Below.refl _ _, Left.of rfl⟩
      · intro vs X wq K;exact zb Tryd.underlying27 rfl sz3 (by decide) rfl ⟨Below.refl _ _, Left.of rfl⟩
      · intro vs X wq K;have LE := K.1;obtain ⟨_, e1, k1⟩ := K.dep 1 rfl rfl rfl;refine zd 40 (.pointer (some ⟨g1, 2, none⟩)) rfl e1 ?_;exact zg Tryd.underlying3 rfl rfl (vr LE B4) rfl ⟨Below.refl _ _, Left.of rfl⟩
      · intro vs X wq K;obtain ⟨_, e0, k0⟩ := K.dep 0 rfl rfl rfl;refine zd 39 (.slice (some ⟨gm, 0, none⟩) R R) rfl e0 ?_;exact va rfl ⟨Below.refl _ _, Left.of rfl⟩
      · intro vs X wq K;obtain ⟨_, e2, k2⟩ := K.dep 2 rfl rfl rfl;refine zd 41 (.int .i64 f.regs) rfl e2 ?_;exact va rfl ⟨Below.refl _ _, Left.of rfl⟩
    intro vs w4 LE AO AL AF AA;have hbd : Below (w3).heap.size (w3) w4 := (((Ext.refl No (w3)).drew).trans LE).toBelow;obtain ⟨_, e3, k3⟩ := AL.2.2.2.1;obtain ⟨_, e4, k4⟩ := AL.2.2.2.2.1;refine vq (τ := [(1, _), (2, .slice (some ⟨gm, 0, none⟩) R R), (3, .int .i64 f.regs), (7, _)]) ⟨rfl, congrArg some e3, congrArg some e4, rfl, trivial⟩ ?_;clear AL AF AA AO
    refine ol (ji (by kernel_rfl) (fun _ _ d_ _ _ h => by cases d_ <;> exact h) ?_);have hb5 := hBi.ext (Ext.of_below hbd No) (fun h => h.elim);have hlo : Below w.heap.size w w4 := by
     have h1 := kz ((E1.trans E2).trans E3).toBelow hEi ((E1.trans E2).trans E3).size (fun k hk => by have := qt hk; have := E1.size; have := E2.size; omega);exact h1.trans (hbd.mono h1.size)
    refine anx rfl (zv (ze (zu (rs := [.tmp 2, .tmp 3, .tmp 4]) (vs := [_, _, _]) rfl ⟨rfl, rfl, rfl, trivial⟩ ?_)));exact ⟨hlo, fun h => (by rw [hs] at h; cases h), fun _ => ⟨gm, idL R, f.regs, by rw [ztk]; rfl, by have := E1.size; have := E2.size; omega, hb5, by have h := ident_right hs; rw [hRr] at h ⊢; exact h⟩⟩
  ·
   have h3 := of_decide_eq_false h3;obtain ⟨n, hwn⟩ : ∃ n, n = ke f := ⟨_, rfl⟩;have hnr : (f.regs + 63).tdiv 64 = (n : Int) := by rw [hwn]; unfold ke; rw [Int.tdiv_eq_ediv_of_nonneg (by omega)]; omega
   have hn1 : n ≤ 1024 := by rw [hwn]; unfold ke; omega
   have hRn : R ≤ 64 * n := by rw [hwn]; unfold ke; omega
   have hR3 : R ≤ 3000 := by omega
   refine zq (zh (srx (za rfl (zb Tryd.underlying27 rfl sz3 (by decide) rfl (za rfl (zg Tryd.underlying3 rfl rfl B3 rfl (za rfl (qc rfl rfl (yg (by omega)) (za rfl (xz rfl rfl (by decide) (show IntKind.i64.wrap ((f.regs + 63).tdiv 64) = ((n : Nat) : Int) from by rw [hnr]; exact yg (by omega)) (anx rfl (srx (za rfl (zb Tryd.underlying27 rfl sz3 (by decide) rfl (za rfl (zg Tryd.underlying3 rfl rfl B3 rfl (za rfl (zbz (n := R) Tryd.underlying52 inf55 rfl rfl rfl hRr hRr (by omega) (by omega) ?_))))))))))))))))))
   rintro go wC Bo E4 Go;refine za rfl (qb zr52 ?_);rintro g10 wD B10 E5 G10;refine zw (zn sz52 rfl rfl B10 rfl rfl (Nat.le_of_ble_eq_true rfl) ?_);rintro wE B10b E6;have hgo := Bo.lt;have hgoD : go < g10 := by omega
   have hx10 : ∀ k, k ≠ g10 → ¬ Mut [some g10] k := fun k hk hx => hk (qt hx);have hs1 := E1.size;have hs2 := E2.size;have hs3 := E3.size;have hs4 := E4.size;have hs5 := E5.size;have hs6 := E6.size;have hgm1 := Bm.lt;have R0 : RowsB 55 35 w.heap.size wE go R n [] [] := RowsB.nil ((Bo.ext E5 (fun h => h.elim)).ext E6 (hx10 _ (by omega))) (by omega)
   refine rnx (zp (srx (za rfl (zt Tryd.underlying52 rfl rfl ((B10b.cell 0).trans rfl) (za rfl (yw Tryd.underlying52 rfl (mvx rfl (rnx (yb (qu (ι := Nat × List Nat × List (List Nat)) (fun (i, gs, Q) => [(1, .pointer (some ⟨g1, 0, none⟩)), (5, .slice AL f.ins.length cL), (7, .slice (some ⟨gm, 0, none⟩) R R), (9, .int .i64 ((n : Nat) : Int)), (10, .pointer (some ⟨g10, 0, none⟩)), (50, .int .i64 ((R : Nat) : Int)), (51, .int .i64 ((i : Nat) : Int))]) (fun (i, gs, Q) w' => Ext (Mut [some go]) wE w' ∧ RowsB 55 35 w.heap.size w' go R n gs Q ∧ Q = List.replicate i (List.replicate n 0) ∧ ∀ g ∈ gs, g10 < g) (fun (i, _, _) => R - i) (0, [], []) ⟨rfl, rfl, rfl, rfl, rfl, rfl, rfl, trivial⟩ (⟨Ext.refl _ _, R0, rfl, fun g h => by cases h⟩) ?_))))))))))
   rintro ⟨i, gs, Q⟩ w6 ⟨hEi, hRB, hQ, hgs⟩;have hQl : Q.length = i := by rw [hQ, List.length_replicate]
   refine srx (za rfl (yy rfl rfl (rnx (zp (zr rfl (fun hi => ?_) (fun hi => ?_))))))
   ·
    have hi := of_decide_eq_true hi;have hiR : i < R := by omega
    have B10c := B10b.ext hEi (fun h => by have := qt h; omega);refine zq (zh (zp (yb (srx (mvx rfl (anx rfl ?_))))));obtain ⟨wF, hwF⟩ : ∃ wF, wF = w6 := ⟨_, rfl⟩;refine kr je (kt 5 rfl ?_);refine vv (No) Mut.none_ [] [] (kl [Fx.of (.slice (some ⟨go, 0, none⟩) R R),
     Fx.of (.int .i64 ((i : Nat) : Int)),
     Fx.of (.int .i64 ((n : Nat) : Int)),
     ⟨Nat, fun gr => .slice (some ⟨gr, 0, none⟩) n n, fun gr b => (Blk b gr 35 (List.replicate n (.int .u64 0)).toArray ∧ wF.heap.size ≤ gr)⟩,
     Fx.of (.pointer (some ⟨go, 0 + i, none⟩))]) rfl trivial (fun _ h => by cases h) ?_ ?_
    · refine ⟨?_, ?_, ?_, ?_, ?_, trivial⟩
      · intro vs X wq K;have LE := K.1;exact zt Tryd.underlying52 rfl rfl (((vr LE B10c).cell 0).trans rfl) ⟨Below.refl _ _, Left.of rfl⟩
      · intro vs X wq K;exact zl rfl ⟨Below.refl _ _, Left.of rfl⟩
      · intro vs X wq K;exact zl rfl ⟨Below.refl _ _, Left.of rfl⟩
      · intro vs X wq K;have LE := K.1;have XN := K.2.1;obtain ⟨_, e2, k2⟩ := K.dep 2 rfl rfl rfl;refine zd 56 (.int .i64 ((n : Nat) : Int)) rfl e2 (ow_makeW (n := n) Tryd.underlying55 inf35 rfl rfl rfl rfl rfl (by omega) (by omega) ?_);intro gr w5 Bs hb Gs
        exact ⟨hb, ⟨gr, rfl, (Per.blk Bs (fun hx => by have := XN gr hx; omega)).and (fun _ _ => by rw [hwF]; exact Nat.le_trans LE.size Gs)⟩⟩
      · intro vs X wq K;obtain ⟨_, e0, k0⟩ := K.dep 0 rfl rfl rfl;refine zd 54 (.slice (some ⟨go, 0, none⟩) R R) rfl e0 ?_;obtain ⟨_, e1, k1⟩ := K.dep 1 rfl rfl rfl;refine zd 55 (.int .i64 ((i : Nat) : Int)) rfl e1 ?_;exact zk (j := i) Tryd.underlying52 zhk rfl rfl rfl hiR ⟨Below.refl _ _, Left.of rfl⟩
    intro vs w7 LE AO AL AF AA;have hbd : Below (w6).heap.size (w6) w7 := (((Ext.refl No (w6)).drew).trans LE).toBelow;obtain ⟨gr, e3, k3⟩ := AL.2.2.2.1;obtain ⟨_, e4, k4⟩ := AL.2.2.2.2.1;have Wc3 := k3.here
    refine vq (τ := [(1, _), (5, _), (7, _), (9, _), (10, _), (50, _), (51, _), (57, .slice (some ⟨gr, 0, none⟩) n n), (58, .pointer (some ⟨go, 0 + i, none⟩))]) ⟨rfl, rfl, rfl, rfl, rfl, rfl, rfl, congrArg some e3, congrArg some e4, trivial⟩ ?_;clear AL AF AA AO;refine ol (ji (by kernel_rfl) (fun _ _ d_ _ _ h => by cases d_ <;> exact h) ?_);change Nat at gr
    have hbn := Ext.of_below hbd No;have hgl : gs.length = i := by rw [hRB.len, hQl]
    have hout := hRB.out.ext hbn (fun h => h.elim);refine zw (qi zhk rfl rfl hout rfl rfl (by rw [List.size_toArray, outV_len (by omega)]; omega) (show _ = ((outV gs n R).set Q.length (rwV n gr)).toArray from by rw [hQl, Nat.zero_add, List.setIfInBounds_toArray]; rfl) ?_);rintro wG B9 E9;have hszi : w.heap.size ≤ wE.heap.size := by omega
    have hEis := hEi.size;have R2 := hRB.add (by rw [hQl]; exact hiR) Wc3.1 hbn (by rw [← hwF]; exact Wc3.2) (by omega) B9 E9;have hQ2 : Q ++ [List.replicate n 0] = List.replicate (i + 1) (List.replicate n 0) := by rw [hQ, List.replicate_succ']
    have hgs2 : ∀ g ∈ gs ++ [gr], g10 < g := fun g hg => by
     rcases List.mem_append.1 hg with hg | hg
     · exact hgs g hg
     · obtain rfl := List.mem_singleton.1 hg;have h1 := B10c.lt;have h2 := Wc3.2;rw [hwF] at h2;omega
    refine yc (zf (zh (zj (za rfl (qc rfl rfl (yg (by omega)) (mvx rfl (yc ?_)))))));exact yt (i + 1, gs ++ [gr], Q ++ [List.replicate n 0]) (by show R - (i + 1) < R - i; omega) ⟨rfl, rfl, rfl, rfl, rfl, rfl, rfl, trivial⟩ (⟨(hEi.step hbn (fun _ h => h.elim)).step E9 (fun i h => Or.inl h), R2, hQ2, hgs2⟩)
   ·
    have hi := of_decide_eq_false hi;have hie : i = R := by have := hRB.le; omega
    have hEis := hEi.size;have B1z := ((B3.ext E4 (fun h => h.elim)).ext E5 (fun h => h.elim)).ext E6 (hx10 _ (by have := B3.lt; omega));have B1y := B1z.ext hEi (fun h => by have := qt h; have := B3.lt; omega);have B10z := B10b.ext hEi (fun h => by have := qt h; omega)
    have hEb := ((((E3.mono (Y := fun k => b0 ≤ k) (fun _ h _ => h.elim)).step E4 (fun _ h => h.elim)).step E5 (fun _ h => h.elim)).step E6 (fun k hk => Or.inl (show b0 ≤ k by have := qt hk; omega))).step hEi (fun k hk => Or.inl (show b0 ≤ k by have := qt hk; omega));have hAz : RowsW b0 w6 AL W := hA.low (X := fun k => b0 ≤ k) ⟨hEb, fun _ h => h⟩
    have hEw : Ext (fun k => w.heap.size ≤ k) w w6 := ((E1.mono (Y := fun k => w.heap.size ≤ k) (fun _ h _ => h.elim)).step E2 (fun _ h => h.elim)).step hEb (fun k hk => Or.inl (show w.heap.size ≤ k by have : b0 ≤ k := hk; omega));have hFz : FnA n0 w6 p f := hF.low (X := fun k => w.heap.size ≤ k) ⟨hEw, fun k h => Nat.le_trans hn h⟩
    have hDz : DbT w6 := fun j y hy => Low.cell (n := w.heap.size) (X := fun k => w.heap.size ≤ k) ⟨hEw, fun _ h => h⟩ (World.block_lt_of_cell? w _ (hD j y hy)) (hD j y hy);have hdbw : 0 < w.heap.size := World.block_lt_of_cell? w _ (hD 0 0 rfl)
    refine qe (zm (zm (ya (zh (srx (za rfl (zo Tryd.underlying27 rfl jp rfl B1y rfl (mvx rfl (za rfl (zqk (xs := [.tmp 10]) rfl (za rfl (yf en20 rfl ((meets_assign hFz hs hDz hW hL hAz (by omega) (by omega) (by omega) hRn hn1 (fun h => by have := hgs _ h; omega) (fun g hg => by have := hgs g hg; omega) B10z (by rw [hQ, hie] at hRB; exact hRB)).mono ?_)))))))))))))
    rintro e w8 ⟨rfl, hXm, hJm⟩;refine ⟨_, rfl, ?_⟩;obtain ⟨C10, Q2, hQB, hQl2, hbit⟩ := hJm;have hEz : Ext (fun k => w.heap.size ≤ k) w w8 := hEw.step hXm (fun k hk => Or.inl (show w.heap.size ≤ k by have := hgs k hk; omega));have B1f := B1y.ext hXm (fun h => by have := hgs _ h; have := B3.lt; omega)
    have Bmz := (((Bm.ext E4 (fun h => h.elim)).ext E5 (fun h => h.elim)).ext E6 (hx10 _ (by omega))).ext hEi (fun h => by have := qt h; omega);have Bmf := Bmz.ext hXm (fun h => by have := hgs _ h; omega);have hAf : RowsW b0 w8 AL W := hAz.low (X := fun k => k ∈ gs) ⟨hXm, fun k hk => by have := hgs k hk; omega⟩;obtain ⟨wZ, hwZ⟩ : ∃ wZ, wZ = w8 := ⟨_, rfl⟩
    rw [← hwZ] at hEz B1f Bmf hAf C10 hQB;have hXs := hXm.size;rw [← hwZ] at hXs;have hz0 : Blk wZ gm 3 (oj [] R).toArray := by rw [fillV_nil]; exact Bmf
    refine rnx (srx (za rfl (zb Tryd.underlying27 rfl sz3 (by decide) rfl (za rfl (zg Tryd.underlying3 rfl rfl (hwZ ▸ B1f) rfl (anx rfl (zp (srx (za rfl (zb Tryd.underlying27 rfl sz3 (by decide) rfl (za rfl (zg Tryd.underlying3 rfl rfl (hwZ ▸ B1f) rfl (mvx rfl (rnx (yb (zy 67 (.int .i64 ((R : Nat) : Int)) rfl ((by rw [hRr] : (.int .i64 f.regs : Value) = _)) (qu (ι := List Int × Int) (fun (ms, nn) => [(1, .pointer (some ⟨g1, 0, none⟩)), (5, .slice AL f.ins.length cL), (7, .slice (some ⟨gm, 0, none⟩) R R), (10, .pointer (some ⟨g10, 0, none⟩)), (12, .int .i64 nn), (67, .int .i64 ((R : Nat) : Int)), (68, .int .i64 ((ms.length : Nat) : Int))]) (fun (ms, nn) w' => Ext (Mut [some gm]) wZ w' ∧ Blk w' gm 3 (oj ms R).toArray ∧ Greedy f Q2 ms ∧ ms.length ≤ R ∧ f.params ≤ nn ∧ (∀ x ∈ ms, x < nn) ∧ (nn = f.params ∨ ∃ x ∈ ms, nn = x + 1)) (fun (ms, _) => R - ms.length) ([], f.params) ⟨rfl, rfl, rfl, rfl, rfl, rfl, rfl, trivial⟩ (⟨by rw [hwZ]; exact Ext.refl _ _, by rw [← hwZ]; exact hz0, Greedy.nil, Nat.zero_le _, Int.le_refl _, fun x h => (by cases h), Or.inl rfl⟩) ?_)))))))))))))))))
    rintro ⟨ms, nn⟩ w10 ⟨hEm, hBm, hG, hmR, hn1', hn2', hn3'⟩;refine srx (za rfl (yy rfl rfl (rnx (zp (zr rfl (fun hi => ?_) (fun hi => ?_))))))
    ·
     have hi := of_decide_eq_true hi;have hiR : ms.length < R := by omega
     have hg1m : g1 ≠ gm := by have := B2.lt; omega
     have B1m := B1f.ext hEm (fun h => hg1m (qt h));refine zq (zh (zp (yb (srx (mvx rfl (anx rfl (zp (srx (mvx rfl (za rfl (zb Tryd.underlying27 rfl sz3 (by decide) rfl (za rfl (zg Tryd.underlying3 rfl rfl B1m rfl (za rfl (yy rfl rfl (rnx (zr rfl (fun hp => ?_) (fun hp => ?_))))))))))))))))))
     ·
      have hp := of_decide_eq_true hp
      refine srx (mvx rfl (mvx rfl (mvx rfl (za rfl (zk (j := ms.length) Tryd.underlying28 sz3 rfl rfl rfl hiR (zw (qi sz3 rfl rfl hBm rfl rfl (by rw [List.size_toArray, yex hmR]; omega) (show _ = (oj (ms ++ [((ms.length : Nat) : Int)]) R).toArray from by rw [← yez hiR, Nat.zero_add, List.setIfInBounds_toArray]) ?_)))))));rintro wY Bs Es
      have hG2 : Greedy f Q2 (ms ++ [((ms.length : Nat) : Int)]) := hG.add (fun _ => rfl) (fun h => absurd h (by omega));have hn4 : ∀ x ∈ ms ++ [((ms.length : Nat) : Int)], x < nn := fun x hx => by
       rcases List.mem_append.1 hx with hx | hx
       · exact hn2' x hx
       · rw [List.mem_singleton.1 hx]; omega
      have hn5 : nn = f.params ∨ ∃ x ∈ ms ++ [((ms.length : Nat) : Int)], nn = x + 1 := hn3'.imp id fun ⟨x, h1, h2⟩ => ⟨x, List.mem_append_left _ h1, h2⟩
      refine rnx (qe (zm (ya (zh (zj (za rfl (qc rfl rfl (yg (by omega)) (mvx rfl (yc (zoz 68 (.int .i64 (((ms ++ [((ms.length : Nat) : Int)]).length : Nat) : Int)) rfl ((by rw [List.length_append]; rfl : (.int .i64 (((ms.length : Nat) : Int) + 1) : Value) = _)) ?_))))))))))
      exact yt (ms ++ [((ms.length : Nat) : Int)], nn) (by show R - (ms ++ [((ms.length : Nat) : Int)]).length < R - ms.length; rw [List.length_append, List.length_singleton]; omega) ⟨rfl, rfl, rfl, rfl, rfl, rfl, rfl, trivial⟩ (⟨hEm.step Es (fun i h => Or.inl h), Bs, hG2, by rw [List.length_append, List.length_singleton]; omega, hn1', hn4, hn5⟩)
     ·
      have hp := of_decide_eq_false hp;have hN0 : 0 < f.ins.length := List.length_pos_iff.2 hne;obtain ⟨row, hrow⟩ : ∃ row, W[0]? = some row := ⟨_, List.getElem?_eq_getElem (by rw [hW.1]; exact hN0)⟩;have hr64 := hW.2 row (List.mem_of_getElem? hrow);have hil2 : ms.length / 64 < row.length := by rw [hr64.1, ← hwn]; omega
      obtain ⟨x0, hx0⟩ : ∃ x0, row[ms.length / 64]? = some x0 := ⟨_, List.getElem?_eq_getElem hil2⟩;have hx064 := hr64.2 x0 (List.mem_of_getElem? hx0);have hAm : RowsW b0 w10 AL W := hAf.low (X := Mut [some gm]) ⟨hEm, fun k hk => by have := qt hk; omega⟩;obtain ⟨gL, oL, hAL, hgL, BL, cB, hU, hcL⟩ := RowS.at hAm hrow;obtain ⟨gU, oU, hAU, hgU, hcU⟩ := hU.cell hx0
      have hbit0 : vj W 0 ms.length = x0.testBit (ms.length % 64) := by
       unfold vj gn;rw [List.getD_eq_getElem?_getD (i := 0), hrow, Option.getD_some, List.getD_eq_getElem?_getD, hx0]; rfl
      refine zq (zh (srx (anx rfl (zp (srx (mvx rfl (za rfl (zk (j := 0) Tryd.underlying52 zhk (congrArg (fun z ↦ some (Value.slice z f.ins.length cL)) hAL) rfl rfl hN0 (za rfl (zt Tryd.underlying55 rfl rfl hcL (mvx rfl (za rfl (xz rfl rfl (by decide) (show IntKind.i64.wrap (((ms.length : Nat) : Int).tdiv 64) = ((ms.length / 64 : Nat) : Int) from by rw [Int.tdiv_eq_ediv_of_nonneg (by omega)]; exact yg (by omega)) (za rfl (zk (j := ms.length / 64) Tryd.underlying55 zax (congrArg (fun z ↦ some (Value.slice z row.length cB)) hAU) rfl rfl hil2 (za rfl (zt Tryd.underlying35 rfl rfl hcU (mvx rfl (za rfl (zmv rfl rfl (by decide) (show (((ms.length : Nat) : Int).tmod 64) = ((ms.length % 64 : Nat) : Int) from by rw [Int.tmod_eq_emod_of_nonneg (by omega)]; rfl) (za rfl (ow_shr rfl rfl (by omega) (zxk (by omega)) (za rfl (kp rfl rfl (ot (y := 1) (by rw [Nat.shiftRight_eq_div_pow]; exact Nat.lt_of_le_of_lt (Nat.div_le_self _ _) hx064) (by decide)) (za rfl (yn rfl rfl (rnx ?_)))))))))))))))))))))))))))
      obtain ⟨wV, hwV⟩ : ∃ wV, wV = w10 := ⟨_, rfl⟩
      refine xv (ι := Int) (fun least => [(1, .pointer (some ⟨g1, 0, none⟩)), (5, .slice AL f.ins.length cL), (7, .slice (some ⟨gm, 0, none⟩) R R), (10, .pointer (some ⟨g10, 0, none⟩)), (12, .int .i64 nn), (13, .int .i64 ((ms.length : Nat) : Int)), (14, .int .i64 least), (67, .int .i64 ((R : Nat) : Int)), (68, .int .i64 ((ms.length : Nat) : Int))]) (fun least w' => wV = w' ∧ (least = 0 ∨ least = f.params) ∧ (Liv f 0 ms.length → least = f.params)) ?_ ?_
      ·
       refine zr rfl (fun q7 => ?_) (fun q7 => ?_)
       ·
        rw [zgk, ← hbit0] at q7;refine zj (za rfl (zb Tryd.underlying27 rfl sz3 (by decide) rfl (za rfl (zg Tryd.underlying3 rfl rfl B1m rfl (avx rfl (yc ?_))))));exact jh f.params ⟨rfl, rfl, rfl, rfl, rfl, rfl, rfl, rfl, rfl, trivial⟩ (⟨hwV, Or.inr rfl, fun _ => rfl⟩)
       ·
        rw [zgk, ← hbit0] at q7;have q7 : ¬ Liv f 0 ms.length := fun h => by rw [(hL 0 _).2 h] at q7; cases q7
        refine zq ?_;exact jh 0 ⟨rfl, rfl, rfl, rfl, rfl, rfl, rfl, rfl, rfl, trivial⟩ (⟨hwV, Or.inl rfl, fun h => absurd h q7⟩)
      ·
       rintro least w12 ⟨hwv, hle0, hleL⟩;rw [hwV] at hwv;have hwv := hwv.symm;subst hwv;have hgm10 : gm < g10 := by omega
       have C10m := C10.ext hEm (fun h => by have := qt h; omega);have hQm := hQB.ext hEm (fun h => by have := qt h; omega) (fun g hg h => by have := qt h; have := hgs g hg; omega);obtain ⟨gw, hgw, hrw, hbw, h64, hcw⟩ := hQm.get (i := ms.length) (by omega);have hin : ∀ x ∈ ms, I64 x := fun x hx => by
        obtain ⟨r, hr, e⟩ := List.getElem_of_mem hx;have := hG.le hp0 (List.getElem?_eq_getElem hr);unfold I64;omega
       have hl65 : 0 ≤ least ∧ least ≤ 65536 := by rcases hle0 with h | h <;> omega
       obtain ⟨row2, hrow2⟩ : ∃ row2, row2 = Q2.getD ms.length [] := ⟨_, rfl⟩;rw [← hrow2] at hrw hbw h64;have hrl2 : row2.length = n := h64.1;obtain ⟨NN, hNN⟩ : ∃ NN, NN = gw + gm + 1 := ⟨_, rfl⟩;refine zp (kr je (kt 12 rfl ?_));refine vv (No) Mut.none_ [] [] (kl [Fx.of (.slice (some ⟨gm, 0, none⟩) R R),
        Fx.of (.int .i64 ((ms.length : Nat) : Int)),
        Fx.of (.slice (some ⟨go, 0, none⟩) R R),
        Fx.of (.int .i64 ((ms.length : Nat) : Int)),
        Fx.of (.pointer (some ⟨go, 0 + ms.length, none⟩)),
        Fx.of (.slice (some ⟨gw, 0, none⟩) row2.length n),
        Fx.of (.slice (some ⟨gm, 0, none⟩) R R),
        Fx.of (.int .i64 ((ms.length : Nat) : Int)),
        Fx.of (.slice (some ⟨gm, 0, none⟩) ms.length R),
        Fx.of (.int .i64 least),
        ⟨Int, fun pp => .int .i64 pp, fun pp b => (FreeP row2 ms least pp)⟩,
        Fx.of (.pointer (some ⟨gm, 0 + ms.length, none⟩))]) rfl trivial (fun _ h => by cases h) ?_ ?_
       · refine ⟨?_, ?_, ?_, ?_, ?_, ?_, ?_, ?_, ?_, ?_, ?_, ?_, trivial⟩
         · intro vs X wq K;exact zl rfl ⟨Below.refl _ _, Left.of rfl⟩
         · intro vs X wq K;exact zl rfl ⟨Below.refl _ _, Left.of rfl⟩
         · intro vs X wq K;have LE := K.1;exact zt Tryd.underlying52 rfl rfl (((vr LE C10m).cell 0).trans rfl) ⟨Below.refl _ _, Left.of rfl⟩
         · intro vs X wq K;exact zl rfl ⟨Below.refl _ _, Left.of rfl⟩
         · intro vs X wq K;obtain ⟨_, e2, k2⟩ := K.dep 2 rfl rfl rfl;refine zd 95 (.slice (some ⟨go, 0, none⟩) R R) rfl e2 ?_;obtain ⟨_, e3, k3⟩ := K.dep 3 rfl rfl rfl;refine zd 96 (.int .i64 ((ms.length : Nat) : Int)) rfl e3 ?_;exact zk (j := ms.length) Tryd.underlying52 zhk rfl rfl rfl hiR ⟨Below.refl _ _, Left.of rfl⟩
         · intro vs X wq K;have LE := K.1;obtain ⟨_, e4, k4⟩ := K.dep 4 rfl rfl rfl;refine zd 97 (.pointer (some ⟨go, 0 + ms.length, none⟩)) rfl e4 ?_;exact zt Tryd.underlying55 rfl rfl (by rw [Nat.zero_add, hrl2]; exact js LE hcw) ⟨Below.refl _ _, Left.of rfl⟩
         · intro vs X wq K;exact zl rfl ⟨Below.refl _ _, Left.of rfl⟩
         · intro vs X wq K;exact zl rfl ⟨Below.refl _ _, Left.of rfl⟩
         · intro vs X wq K;obtain ⟨_, e6, k6⟩ := K.dep 6 rfl rfl rfl;refine zd 99 (.slice (some ⟨gm, 0, none⟩) R R) rfl e6 ?_;obtain ⟨_, e7, k7⟩ := K.dep 7 rfl rfl rfl;refine zd 100 (.int .i64 ((ms.length : Nat) : Int)) rfl e7 ?_;exact ow_sliceH Tryd.underlying28 sz3 rfl rfl rfl (by omega) ⟨Below.refl _ _, Left.of rfl⟩
         · intro vs X wq K;exact zl rfl ⟨Below.refl _ _, Left.of rfl⟩
         · intro vs X wq K;have LE := K.1;obtain ⟨_, e5, k5⟩ := K.dep 5 rfl rfl rfl;refine zd 98 (.slice (some ⟨gw, 0, none⟩) row2.length n) rfl e5 ?_;obtain ⟨_, e8, k8⟩ := K.dep 8 rfl rfl rfl;refine zd 101 (.slice (some ⟨gm, 0, none⟩) ms.length R) rfl e8 ?_;obtain ⟨_, e9, k9⟩ := K.dep 9 rfl rfl rfl
           refine zd 102 (.int .i64 least) rfl e9 (yf en26 rfl ((free_any _ _ _ n R NN row2 ms (u64_blk (vr LE hbw) h64 hn1 (by omega)) (ints_fill (vr LE hBm) (by omega) hin (by omega)) least hl65.1 hl65.2 (by rw [hrl2]; omega)).mono ?_));rintro e w2 ⟨pp, rfl, hFP, hb⟩;exact ⟨_, rfl, hb, ⟨pp, rfl, (fun _ _ => hFP)⟩⟩
         · intro vs X wq K;obtain ⟨_, e0, k0⟩ := K.dep 0 rfl rfl rfl;refine zd 93 (.slice (some ⟨gm, 0, none⟩) R R) rfl e0 ?_;obtain ⟨_, e1, k1⟩ := K.dep 1 rfl rfl rfl;refine zd 94 (.int .i64 ((ms.length : Nat) : Int)) rfl e1 ?_;exact zk (j := ms.length) Tryd.underlying28 sz3 rfl rfl rfl hiR ⟨Below.refl _ _, Left.of rfl⟩
       intro vs w13 LE AO AL AF AA;have hbd : Below (w12).heap.size (w12) w13 := (((Ext.refl No (w12)).drew).trans LE).toBelow;obtain ⟨pp, e10, k10⟩ := AL.2.2.2.2.2.2.2.2.2.2.1;obtain ⟨_, e11, k11⟩ := AL.2.2.2.2.2.2.2.2.2.2.2.1;have Wc10 := k10.here
       refine vq (τ := [(1, _), (5, _), (7, _), (10, _), (12, _), (13, _), (67, _), (68, _), (103, .int .i64 pp), (104, .pointer (some ⟨gm, 0 + ms.length, none⟩))]) ⟨rfl, rfl, rfl, rfl, rfl, rfl, rfl, rfl, congrArg some e10, congrArg some e11, trivial⟩ ?_;clear AL AF AA AO;refine ol (ji (by kernel_rfl) (fun _ _ d_ _ _ h => by cases d_ <;> exact h) ?_);change Int at pp
       have hbn := Ext.of_below hbd No;have hBm2 := hBm.ext hbn (fun h => h.elim);refine zw (qi sz3 rfl rfl hBm2 rfl rfl (by rw [List.size_toArray, yex hmR]; omega) (show _ = (oj (ms ++ [pp]) R).toArray from by rw [← yez hiR, Nat.zero_add, List.setIfInBounds_toArray]) ?_);rintro wY Bs Es;have hFP : FreeP row2 ms least pp := Wc10
       have hG2 : Greedy f Q2 (ms ++ [pp]) := hG.add (fun h => absurd h (by omega)) (fun _ => ⟨least, hle0, hleL, hrow2 ▸ hFP⟩);have hpa : (ms ++ [pp])[ms.length]? = some pp := by simp
       have hpb := hG2.le hp0 hpa;refine rnx (zj (mvx rfl (mvx rfl (mvx rfl (za rfl (zk (j := ms.length) Tryd.underlying28 sz3 rfl rfl rfl hiR (za rfl (zg Tryd.underlying3 rfl rfl Bs (by rw [Nat.zero_add, List.getElem?_toArray]; exact fillV_at hpa) ?_))))))));obtain ⟨mx, hmx⟩ : ∃ mx, mx = if pp + 1 > nn then pp + 1 else nn := ⟨_, rfl⟩
       refine za rfl (qc rfl rfl (yg (by omega)) (za rfl (ow_max rfl rfl (avx rfl (yc (zf (zh (zj (za rfl (qc rfl rfl (yg (by omega)) (mvx rfl (yc (zoz 12 (.int .i64 mx) rfl ((by rw [hmx] : (.int .i64 (if pp + 1 > nn then pp + 1 else nn) : Value) = _)) (zoz 68 (.int .i64 (((ms ++ [pp]).length : Nat) : Int)) rfl ((by rw [List.length_append]; rfl : (.int .i64 (((ms.length : Nat) : Int) + 1) : Value) = _)) ?_))))))))))))))
       have hmx1 : nn ≤ mx ∧ pp < mx ∧ (mx = nn ∨ mx = pp + 1) := by rw [hmx]; split <;> omega
       have hn4 : ∀ x ∈ ms ++ [pp], x < mx := fun x hx => by
        rcases List.mem_append.1 hx with hx | hx
        · have := hn2' x hx; omega
        · rw [List.mem_singleton.1 hx]; omega
       have hn5 : mx = f.params ∨ ∃ x ∈ ms ++ [pp], mx = x + 1 := by
        rcases hmx1.2.2 with h | h
        · rw [h];exact hn3'.imp id fun ⟨x, h1, h2⟩ => ⟨x, List.mem_append_left _ h1, h2⟩
        · exact Or.inr ⟨pp, by simp, h⟩
       exact yt (ms ++ [pp], mx) (by show R - (ms ++ [pp]).length < R - ms.length; rw [List.length_append, List.length_singleton]; omega) ⟨rfl, rfl, rfl, rfl, rfl, rfl, rfl, trivial⟩ (⟨(hEm.step hbn (fun _ h => h.elim)).step Es (fun i h => Or.inl h), Bs, hG2, by rw [List.length_append, List.length_singleton]; omega, by omega, hn4, hn5⟩)
    ·
     have hi := of_decide_eq_false hi;have hme : ms.length = R := by omega
     rw [fillV_full hme] at hBm;have hfin : Ext (fun k => w.heap.size ≤ k) w w10 := hEz.step hEm (fun k hk => Or.inl (show w.heap.size ≤ k by have := qt hk; omega));refine qe (zm (zm (ya (zh (srx (mvx rfl (mvx rfl (avx rfl (avx rfl (anx rfl (zv (zu (rs := [.tmp 2, .tmp 3, .tmp 4]) (vs := [_, _, _]) rfl ⟨rfl, rfl, rfl, trivial⟩ ?_))))))))))))
     exact ⟨hfin.below (fun _ h => h), fun h => (by rw [hs] at h; cases h), fun _ => ⟨gm, ms, nn, by rw [hme]; rfl, by omega, hBm, greedy_right hs hbit hG (by omega) hn1' hn2' hn3'⟩⟩
 ·
  have hs : vh f = false := by simpa using hs
  refine za rfl (yf en19 rfl ((live_no hFA hs).mono ?_));rintro e w14 ⟨rfl, hb⟩
  refine ⟨_, rfl, (mvx rfl (za rfl (vz rfl rfl (za rfl (vz rfl rfl (avx rfl (anx rfl (zp (srx (mvx rfl (za rfl (vb rfl rfl (rnx (yr rfl (srx (mvx rfl (avx rfl (avx rfl (anx rfl (zv (ze (zu (rs := [.tmp 2, .tmp 3, .tmp 4]) (vs := [_, _, _]) rfl ⟨rfl, rfl, rfl, trivial⟩ ?_))))))))))))))))))))))⟩
  exact ⟨E1.toBelow.trans (hb.mono E1.size), fun _ => rfl, fun h => by rw [hs] at h; cases h⟩
end
end Go.Proofs.YtppdgjlmeahimaaDoor
namespace Go.Proofs.YtppdgjlmeahimaaDoor
open Go.RowKit
set_option maxRecDepth 100000
attribute [local irreducible] OW RS
theorem right3 {w : World} {p : Pl} {n g : Nat} {a b c : Int} {r : Bool} (hF : FnA n w p thrF) (hb : Blk w g 3 #[.int .i64 a, .int .i64 b, .int .i64 c]) (hi : I64 a ∧ I64 b ∧ I64 c) (hr : r = true ↔     jq thrF [a, b, c] 2) (hD : DbT w) :
 Calls Tryd.prog 9 #[fnV p thrF, .slice (some ⟨g, 0, none⟩) 3 3, .int .i64 2] w fun e w' => e = .returned (.bool r) ∧ Below w.heap.size w w' :=
 (right_any w p thrF n hF (some ⟨g, 0, none⟩) 3 w.heap.size [a, b, c] (        yfv (xs := [a, b, c]) hb hb.lt (by show 8 * 3 ≤ 140737488355000; decide) (fun x hx => by
  simp only [List.mem_cons, List.not_mem_nil, or_false] at hx
  rcases hx with rfl | rfl | rfl
  · exact hi.1
  · exact hi.2.1
  · exact hi.2.2)) 2 (by decide) (Nat.le_refl _) hD).mono fun e w' ⟨q, he, hq, hb⟩ => by
  obtain rfl : q = r := by
   cases q <;> cases r
   · rfl
   · exact absurd (hq.2 (hr.1 rfl)) (by decide)
   · exact absurd (hr.2 (hq.1 rfl)) (by decide)
   · rfl
  exact ⟨he, hb⟩
theorem assign3 {w : World} {p : Pl} {n : Nat} (hF : FnA n w p thrF) (hD : DbT w) : Calls Tryd.prog 11 #[fnV p thrF] w fun e w' => ∃ gm x y z m, e = .returned (.tuple #[.slice (some ⟨gm, 0, none⟩) 3 3, .int .i64 m, .int .i64 0]) ∧ Blk w' gm 3 #[.int .i64 x, .int .i64 y, .int .i64 z] ∧ (x != y) = true ∧ 2 ≤ m ∧ Below w.heap.size w w' :=
 (assign_any w p thrF n hF hD).mono fun e w' ⟨hb, _, h⟩ => by
  obtain ⟨gm, ms, m, he, _, hbm, hR⟩ := h thr_sound;obtain ⟨h3, h2, x, y, hx, hy, hxy⟩ := thr_any hR;match ms, h3 with
  | [a, b, c], _ =>
   obtain rfl := Option.some.inj hx;obtain rfl := Option.some.inj hy;exact ⟨gm, _, _, c, m, he, hbm, bne_iff_ne.2 hxy, h2, hb⟩
theorem known_any (w : World) (hD : DbT w) : Calls Tryd.prog 8 #[] w fun e w' => e = .returned (.bool true) ∧ Below w.heap.size w w' := by
 refine qs Tryd.func8 rfl Tryd.ntmps8 rfl ?_;have HF : Per (No) w (fun _ => True) := Per.true_;have LW := erx (No) w;have XLW := grx (No) w;have E := erx (No) w;replace HF := HF.on E;replace LW := LW.step E XLW;replace E := erx (No) w;replace HF := HF.and (Per.dbT hD (fun _ h => h.elim));refine srx (anx rfl (srx (za rfl (yf en18 rfl ((ycx _).mono ?_)))))
 rintro e w1 ⟨h3, h5, rfl, h0, _, _, hb⟩;refine ⟨_, rfl, ?_⟩;replace E := blx E hb;replace HF := HF.on E;replace LW := LW.step E XLW;replace E := erx (No) w1;replace HF := HF.and (Per.thrB h0 (fun h => h.elim) (fun h => h.elim));refine za rfl (yf en11 rfl ((assign3 (ThrB.fn (HF.on E).here.2) (HF.on E).here.1.2).mono ?_));rintro e w2 ⟨gm, x, y, z, m, rfl, hbm, hxy, hm2, hb⟩
 refine ⟨_, rfl, ?_⟩;replace E := blx E hb;replace HF := HF.on E;replace LW := LW.step E XLW;replace E := erx (No) w2;replace HF := HF.and (Per.blkN hbm NotIn.nil);refine mvx rfl (za rfl (vz rfl rfl (za rfl (vz rfl rfl (za rfl (vz rfl rfl (avx rfl (avx rfl (anx rfl (zp ?_))))))))))
 have OY : ∀ q9, (Mut (znx [])) q9 → q9 < (World.drew w2).heap.size → (No) q9 := fun k h _ => (Mut.none_) k h;refine jx (No) Mut.none_ [] [] (kl [Fx.of (.int .i64 0),
  Fx.of (.bool true),
  Fx.of (.bool true),
  Fx.of (.slice (some ⟨gm, 0, none⟩) 3 3),
  Fx.of (.int .i64 3),
  Fx.of (.bool true),
  Fx.of (.bool true),
  Fx.of (.bool true),
  Fx.of (.slice (some ⟨gm, 0, none⟩) 3 3),
  Fx.of (.pointer (some ⟨gm, 0 + 0, none⟩)),
  Fx.of (.int .i64 x),
  Fx.of (.slice (some ⟨gm, 0, none⟩) 3 3),
  Fx.of (.pointer (some ⟨gm, 0 + 1, none⟩)),
  Fx.of (.int .i64 y),
  Fx.of (.bool true),
  Fx.of (.bool true),
  Fx.of (.bool true),
  Fx.of (.int .i64 m),
  Fx.of (.bool true),
  Fx.of (.bool true),
  Fx.of (.bool true),
  ⟨(Nat × Nat), fun (p1, n1) => fnV (thrP p1 n1) thrF, fun (p1, n1) b => (ThrB b p1 n1)⟩,
  ⟨Nat, fun g1 => .slice (some ⟨g1, 0, none⟩) 3 3, fun g1 b => (Blk b g1 3 #[.int .i64 0, .int .i64 1, .int .i64 0])⟩,
  Fx.of (.bool true),
  Fx.of (.bool true),
  Fx.of (.bool true),
  ⟨(Nat × Nat), fun (p2, n2) => fnV (thrP p2 n2) thrF, fun (p2, n2) b => (ThrB b p2 n2)⟩,
  ⟨Nat, fun g2 => .slice (some ⟨g2, 0, none⟩) 3 3, fun g2 b => (Blk b g2 3 #[.int .i64 0, .int .i64 0, .int .i64 1])⟩,
  Fx.of (.bool false),
  Fx.of (.bool true),
  Fx.of (.bool true),
  Fx.of (.bool true)]) je rfl trivial (fun _ h => by cases h) ?_ ?_
 · refine ⟨?_, ?_, ?_, ?_, ?_, ?_, ?_, ?_, ?_, ?_, ?_, ?_, ?_, ?_, ?_, ?_, ?_, ?_, ?_, ?_, ?_, ?_, ?_, ?_, ?_, ?_, ?_, ?_, ?_, ?_, ?_, ?_, trivial⟩
   · intro vs X wq K;exact zl rfl ⟨Below.refl _ _, Left.of rfl⟩
   · intro vs X wq K;obtain ⟨_, e0, k0⟩ := K.dep 0 rfl rfl rfl;refine zd 10 (.int .i64 0) rfl e0 ?_;exact yn rfl rfl ⟨Below.refl _ _, Left.of rfl⟩
   · intro vs X wq K;obtain ⟨_, e1, k1⟩ := K.dep 1 rfl rfl rfl;refine zd 11 (.bool true) rfl e1 ?_;exact zl rfl ⟨Below.refl _ _, Left.of rfl⟩
   · intro vs X wq K;obtain ⟨_, e2, k2⟩ := K.dep 2 rfl rfl rfl;refine zd 12 (.bool true) rfl e2 ?_;exact qq rfl (zl rfl ⟨Below.refl _ _, Left.of rfl⟩)
   · intro vs X wq K;obtain ⟨_, e3, k3⟩ := K.dep 3 rfl rfl rfl;refine zd 13 (.slice (some ⟨gm, 0, none⟩) 3 3) rfl e3 ?_;obtain ⟨_, e2, k2⟩ := K.dep 2 rfl rfl rfl;refine zd 12 (.bool true) rfl e2 ?_;exact qq rfl (yw Tryd.underlying28 rfl ⟨Below.refl _ _, Left.of (by kernel_rfl : (.int .i64 (3 : Nat) : Value) = _)⟩)
   · intro vs X wq K;obtain ⟨_, e4, k4⟩ := K.dep 4 rfl rfl rfl;refine zd 14 (.int .i64 3) rfl e4 ?_;obtain ⟨_, e2, k2⟩ := K.dep 2 rfl rfl rfl;refine zd 12 (.bool true) rfl e2 ?_;exact qq rfl (yn rfl rfl ⟨Below.refl _ _, Left.of rfl⟩)
   · intro vs X wq K;obtain ⟨_, e2, k2⟩ := K.dep 2 rfl rfl rfl;refine zd 12 (.bool true) rfl e2 ?_;obtain ⟨_, e5, k5⟩ := K.dep 5 rfl rfl rfl;refine zd 15 (.bool true) rfl e5 ?_;exact zx rfl rfl ⟨Below.refl _ _, Left.of rfl⟩
   · intro vs X wq K;obtain ⟨_, e6, k6⟩ := K.dep 6 rfl rfl rfl;refine zd 16 (.bool true) rfl e6 ?_;exact zl rfl ⟨Below.refl _ _, Left.of rfl⟩
   · intro vs X wq K;obtain ⟨_, e7, k7⟩ := K.dep 7 rfl rfl rfl;refine zd 17 (.bool true) rfl e7 ?_;exact qq rfl (zl rfl ⟨Below.refl _ _, Left.of rfl⟩)
   · intro vs X wq K;obtain ⟨_, e8, k8⟩ := K.dep 8 rfl rfl rfl;refine zd 18 (.slice (some ⟨gm, 0, none⟩) 3 3) rfl e8 ?_;obtain ⟨_, e7, k7⟩ := K.dep 7 rfl rfl rfl;refine zd 17 (.bool true) rfl e7 ?_;exact qq rfl (zk (j := 0) Tryd.underlying28 sz3 rfl rfl rfl (by decide) ⟨Below.refl _ _, Left.of rfl⟩)
   · intro vs X wq K;have LE := K.1;obtain ⟨_, e9, k9⟩ := K.dep 9 rfl rfl rfl;refine zd 19 (.pointer (some ⟨gm, 0 + 0, none⟩)) rfl e9 ?_;obtain ⟨_, e7, k7⟩ := K.dep 7 rfl rfl rfl;refine zd 17 (.bool true) rfl e7 ?_;exact qq rfl (zt Tryd.underlying3 rfl rfl ((((HF.on (E.drew.trans (LE.mono OY))).here.2).cell 0).trans rfl) ⟨Below.refl _ _, Left.of rfl⟩)
   · intro vs X wq K;obtain ⟨_, e7, k7⟩ := K.dep 7 rfl rfl rfl;refine zd 17 (.bool true) rfl e7 ?_;exact qq rfl (zl rfl ⟨Below.refl _ _, Left.of rfl⟩)
   · intro vs X wq K;obtain ⟨_, e11, k11⟩ := K.dep 11 rfl rfl rfl;refine zd 21 (.slice (some ⟨gm, 0, none⟩) 3 3) rfl e11 ?_;obtain ⟨_, e7, k7⟩ := K.dep 7 rfl rfl rfl;refine zd 17 (.bool true) rfl e7 ?_;exact qq rfl (zk (j := 1) Tryd.underlying28 sz3 rfl rfl rfl (by decide) ⟨Below.refl _ _, Left.of rfl⟩)
   · intro vs X wq K;have LE := K.1;obtain ⟨_, e12, k12⟩ := K.dep 12 rfl rfl rfl;refine zd 22 (.pointer (some ⟨gm, 0 + 1, none⟩)) rfl e12 ?_;obtain ⟨_, e7, k7⟩ := K.dep 7 rfl rfl rfl;refine zd 17 (.bool true) rfl e7 ?_;exact qq rfl (zt Tryd.underlying3 rfl rfl ((((HF.on (E.drew.trans (LE.mono OY))).here.2).cell 1).trans rfl) ⟨Below.refl _ _, Left.of rfl⟩)
   · intro vs X wq K;obtain ⟨_, e10, k10⟩ := K.dep 10 rfl rfl rfl;refine zd 20 (.int .i64 x) rfl e10 ?_;obtain ⟨_, e13, k13⟩ := K.dep 13 rfl rfl rfl;refine zd 23 (.int .i64 y) rfl e13 ?_;obtain ⟨_, e7, k7⟩ := K.dep 7 rfl rfl rfl;refine zd 17 (.bool true) rfl e7 ?_;exact qq rfl (vb rfl rfl ⟨Below.refl _ _, Left.of ((by rw [hxy] : (.bool (x != y) : Value) = _))⟩)
   · intro vs X wq K;obtain ⟨_, e7, k7⟩ := K.dep 7 rfl rfl rfl;refine zd 17 (.bool true) rfl e7 ?_;obtain ⟨_, e14, k14⟩ := K.dep 14 rfl rfl rfl;refine zd 24 (.bool true) rfl e14 ?_;exact zx rfl rfl ⟨Below.refl _ _, Left.of rfl⟩
   · intro vs X wq K;obtain ⟨_, e15, k15⟩ := K.dep 15 rfl rfl rfl;refine zd 25 (.bool true) rfl e15 ?_;exact zl rfl ⟨Below.refl _ _, Left.of rfl⟩
   · intro vs X wq K;obtain ⟨_, e16, k16⟩ := K.dep 16 rfl rfl rfl;refine zd 26 (.bool true) rfl e16 ?_;exact qq rfl (zl rfl ⟨Below.refl _ _, Left.of rfl⟩)
   · intro vs X wq K;obtain ⟨_, e17, k17⟩ := K.dep 17 rfl rfl rfl;refine zd 27 (.int .i64 m) rfl e17 ?_;obtain ⟨_, e16, k16⟩ := K.dep 16 rfl rfl rfl;refine zd 26 (.bool true) rfl e16 ?_;exact qq rfl (jd rfl rfl ⟨Below.refl _ _, Left.of ((by rw [decide_eq_true hm2] : (.bool (decide (2 ≤ m)) : Value) = _))⟩)
   · intro vs X wq K;obtain ⟨_, e16, k16⟩ := K.dep 16 rfl rfl rfl;refine zd 26 (.bool true) rfl e16 ?_;obtain ⟨_, e18, k18⟩ := K.dep 18 rfl rfl rfl;refine zd 28 (.bool true) rfl e18 ?_;exact zx rfl rfl ⟨Below.refl _ _, Left.of rfl⟩
   · intro vs X wq K;obtain ⟨_, e19, k19⟩ := K.dep 19 rfl rfl rfl;refine zd 29 (.bool true) rfl e19 ?_;exact zl rfl ⟨Below.refl _ _, Left.of rfl⟩
   · intro vs X wq K;have XN := K.2.1;obtain ⟨_, e20, k20⟩ := K.dep 20 rfl rfl rfl;refine zd 30 (.bool true) rfl e20 (qq rfl (yf en18 rfl ((ycx _).mono ?_)));rintro e w2 ⟨p1, n1, rfl, h1, h2, h3, hb⟩;exact ⟨_, rfl, hb, ⟨(p1, n1), rfl, Per.thrB h1 (fun hx => by have := XN p1 hx; omega) (fun hx => by have := XN n1 hx; omega)⟩⟩
   · intro vs X wq K;have XN := K.2.1;obtain ⟨_, e20, k20⟩ := K.dep 20 rfl rfl rfl;refine zd 30 (.bool true) rfl e20 (qq rfl (qv (cs := #[.int .i64 0, .int .i64 1, .int .i64 0]) Tryd.underlying28 sz3 zr3 (by decide) rfl (by rw [ym]; rfl) ?_));intro g1 w5 Bs hb Gs;exact ⟨hb, ⟨g1, rfl, Per.blk Bs (fun hx => by have := XN g1 hx; omega)⟩⟩
   · intro vs X wq K;have LE := K.1;obtain ⟨⟨p1, n1⟩, e21, k21⟩ := K.dep 21 rfl rfl rfl;refine zd 31 (fnV (thrP p1 n1) thrF) rfl e21 ?_;obtain ⟨g1, e22, k22⟩ := K.dep 22 rfl rfl rfl;refine zd 32 (.slice (some ⟨g1, 0, none⟩) 3 3) rfl e22 ?_;obtain ⟨_, e20, k20⟩ := K.dep 20 rfl rfl rfl
     refine zd 30 (.bool true) rfl e20 (qq rfl (yf en9 rfl ((right3 (ThrB.fn k21.here) k22.here (by decide) (r := true) ⟨fun _ => thr_yes, fun _ => rfl⟩ (HF.on (E.drew.trans (LE.mono OY))).here.1.1.2).mono ?_)));rintro e w2 ⟨rfl, hb⟩;exact ⟨_, rfl, hb, Left.of rfl⟩
   · intro vs X wq K;obtain ⟨_, e20, k20⟩ := K.dep 20 rfl rfl rfl;refine zd 30 (.bool true) rfl e20 ?_;obtain ⟨_, e23, k23⟩ := K.dep 23 rfl rfl rfl;refine zd 33 (.bool true) rfl e23 ?_;exact zx rfl rfl ⟨Below.refl _ _, Left.of rfl⟩
   · intro vs X wq K;obtain ⟨_, e24, k24⟩ := K.dep 24 rfl rfl rfl;refine zd 34 (.bool true) rfl e24 ?_;exact zl rfl ⟨Below.refl _ _, Left.of rfl⟩
   · intro vs X wq K;have XN := K.2.1;obtain ⟨_, e25, k25⟩ := K.dep 25 rfl rfl rfl;refine zd 35 (.bool true) rfl e25 (qq rfl (yf en18 rfl ((ycx _).mono ?_)));rintro e w2 ⟨p2, n2, rfl, h1, h2, h3, hb⟩;exact ⟨_, rfl, hb, ⟨(p2, n2), rfl, Per.thrB h1 (fun hx => by have := XN p2 hx; omega) (fun hx => by have := XN n2 hx; omega)⟩⟩
   · intro vs X wq K;have XN := K.2.1;obtain ⟨_, e25, k25⟩ := K.dep 25 rfl rfl rfl;refine zd 35 (.bool true) rfl e25 (qq rfl (qv (cs := #[.int .i64 0, .int .i64 0, .int .i64 1]) Tryd.underlying28 sz3 zr3 (by decide) rfl (by rw [ym]; rfl) ?_));intro g2 w5 Bs hb Gs;exact ⟨hb, ⟨g2, rfl, Per.blk Bs (fun hx => by have := XN g2 hx; omega)⟩⟩
   · intro vs X wq K;have LE := K.1;obtain ⟨⟨p2, n2⟩, e26, k26⟩ := K.dep 26 rfl rfl rfl;refine zd 36 (fnV (thrP p2 n2) thrF) rfl e26 ?_;obtain ⟨g2, e27, k27⟩ := K.dep 27 rfl rfl rfl;refine zd 37 (.slice (some ⟨g2, 0, none⟩) 3 3) rfl e27 ?_;obtain ⟨_, e25, k25⟩ := K.dep 25 rfl rfl rfl
     refine zd 35 (.bool true) rfl e25 (qq rfl (yf en9 rfl ((right3 (ThrB.fn k26.here) k27.here (by decide) (r := false) ⟨fun h => (by cases h), fun h => absurd h thr_no⟩ (HF.on (E.drew.trans (LE.mono OY))).here.1.1.2).mono ?_)));rintro e w2 ⟨rfl, hb⟩;exact ⟨_, rfl, hb, Left.of rfl⟩
   · intro vs X wq K;obtain ⟨_, e28, k28⟩ := K.dep 28 rfl rfl rfl;refine zd 38 (.bool false) rfl e28 ?_;obtain ⟨_, e25, k25⟩ := K.dep 25 rfl rfl rfl;refine zd 35 (.bool true) rfl e25 ?_;exact qq rfl (jg rfl ⟨Below.refl _ _, Left.of rfl⟩)
   · intro vs X wq K;obtain ⟨_, e25, k25⟩ := K.dep 25 rfl rfl rfl;refine zd 35 (.bool true) rfl e25 ?_;obtain ⟨_, e29, k29⟩ := K.dep 29 rfl rfl rfl;refine zd 39 (.bool true) rfl e29 ?_;exact zx rfl rfl ⟨Below.refl _ _, Left.of rfl⟩
   · intro vs X wq K;obtain ⟨_, e30, k30⟩ := K.dep 30 rfl rfl rfl;refine zd 40 (.bool true) rfl e30 ?_;exact va rfl ⟨Below.refl _ _, Left.of rfl⟩
 intro vs w3 LE AO AL AF AA;replace E := E.drew.trans (LE.mono OY);obtain ⟨_, e31, k31⟩ := AL.2.2.2.2.2.2.2.2.2.2.2.2.2.2.2.2.2.2.2.2.2.2.2.2.2.2.2.2.2.2.2.1;refine vq (τ := [(0, .bool true)]) ⟨congrArg some e31, trivial⟩ ?_;clear AL AF AA LE AO OY e31 k31;refine zh (zv (zu (rs := [.tmp 0]) (vs := [_]) rfl ⟨rfl, trivial⟩ ?_));exact ⟨rfl, (LW.step E XLW).toBelow⟩
end Go.Proofs.YtppdgjlmeahimaaDoor
namespace Go.Proofs.YtppdgjlmeahimaaDoor
open Go.RowKit
set_option maxRecDepth 100000
attribute [local irreducible] OW RS
noncomputable def zjz (f : LFn) (m : List Int) (n : Int) : Bool := @decide (jq f m n) (Classical.propDecidable _)
theorem rightB_of {f : LFn} {m : List Int} {n : Int} {b : Bool} (h : b = true ↔ jq f m n) : b = zjz f m n := by
 unfold zjz;cases b
 · exact (@decide_eq_false _ (Classical.propDecidable _) fun hr => by have := h.2 hr; cases this).symm
 · exact (@decide_eq_true _ (Classical.propDecidable _) (h.1 rfl)).symm
theorem rightB_yes {f : LFn} {m : List Int} {n : Int} (h : jq f m n) : zjz f m n = true := @decide_eq_true _ (Classical.propDecidable _) h
theorem right_b {w : World} {p : Pl} {f : LFn} {n0 : Nat} (hF : FnA n0 w p f) {A : Option Addr} (c : Nat) {n1 : Nat} {m : List Int} (hm : IntsA n1 w A m) {n : Int} (hn : I64 n) (hn1 : n1 ≤ w.heap.size) (hD : DbT w) : Calls Tryd.prog 9 #[fnV p f, .slice A m.length c, .int .i64 n] w fun e w' => e = .returned (.bool (zjz f m n)) ∧ Below w.heap.size w w' :=
 (right_any w p f n0 hF A c n1 m hm n hn hn1 hD).mono fun _ _ ⟨_, he, hb, hw⟩ => ⟨by rw [he, rightB_of hb], hw⟩
theorem rright_b {w : World} {p : Pl} {f : LFn} {n0 : Nat} (hF : FnA n0 w p f) (hbk : (f.ins.map fun x => x.l.length + 1).sum ≤ 1048576) {A : Option Addr} (c : Nat) {n1 : Nat} {m : List Int} (hm : IntsA n1 w A m) (n : Int) (hn1 : n1 ≤ w.heap.size) : Calls Tryd.prog 10 #[fnV p f, .slice A m.length c, .int .i64 n] w fun e w' => e = .returned (.bool (zjz f m n)) ∧ Below w.heap.size w w' :=
 (rright_any w p f n0 hF hbk A c n1 m hm n hn1).mono fun _ _ ⟨_, he, hb, hw⟩ => ⟨by rw [he, rightB_of hb], hw⟩
section
variable (w : World) (p : Pl) (f : LFn) (n0 : Nat) (hF : FnA n0 w p f) (hbk : (f.ins.map fun x => x.l.length + 1).sum ≤ 1048576) (hD : DbT w)
include hF hbk hD
end
end Go.Proofs.YtppdgjlmeahimaaDoor
namespace Go.Proofs.YtppdgjlmeahimaaDoor
open Go.RowKit
set_option maxRecDepth 100000
def strV (xs : List ByteArray) : List Value := xs.map fun x => .string x
def conV (xs : List (Int × ByteArray)) : List Value := xs.flatMap fun x => [.int .i64 x.1, .string x.2]
def rgsV (xs : List LReg) : List Value := xs.flatMap zqz
abbrev IB := LIns × Option Addr × Nat
def liV (x : IB) : Value := .slice x.2.1 x.1.l.length x.2.2
structure InsO (lo : Nat) (w : World) (A : Option Addr) (c : Nat) (is : List IB) : Prop where
 i : w.ownsRow lo 41 7 (.slice A is.length c) is.length (kc is)
 l : ∀ x ∈ is, w.ownsRow lo 3 1 (liV x) x.1.l.length (yz x.1.l)
 ap : ∀ (j k : Nat) x y, is[j]? = some x → is[k]? = some y → j ≠ k → ∀ q, (liV x).ownBlock = some q → (liV y).ownBlock ≠ some q
structure QP where
 an : Option Addr
 cn : Nat
 ac : Option Addr
 cc : Nat
 ai : Option Addr
 ci : Nat
 ar : Option Addr
 cr : Nat
 is : List IB
def QP.pl (q : QP) : Pl := ⟨q.an, q.cn, q.ac, q.cc, q.ai, q.ci, q.ar, q.cr⟩
structure FnO (lo : Nat) (w : World) (q : QP) (f : LFn) : Prop where
 names : w.ownsRow lo 9 1 (.slice q.an f.names.length q.cn) f.names.length (strV f.names)
 consts : w.ownsRow lo 37 2 (.slice q.ac f.consts.length q.cc) f.consts.length (conV f.consts)
 ins : InsO lo w q.ai q.ci q.is
 ise : q.is.map (·.1) = f.ins
 rgs : w.ownsRow lo 50 4 (.slice q.ar f.rgs.length q.cr) f.rgs.length (rgsV f.rgs)
structure FnI (f : LFn) : Prop where
 params : I64 f.params
 regs : I64 f.regs
 frees : I64 f.frees
 bound : I64 f.bound
 name : f.name.size ≤ maxLen
 nl : 16 * f.names.length ≤ 140737488351232
 ni : ∀ x ∈ f.names, x.size ≤ maxLen
 cl : 24 * f.consts.length ≤ 140737488351232
 ci : ∀ x ∈ f.consts, I64 x.1 ∧ x.2.size ≤ maxLen
 il : 72 * f.ins.length ≤ 140737488351232
 ii : ∀ x ∈ f.ins, InsI x ∧ 8 * x.l.length ≤ 140737488351232 ∧ ∀ y ∈ x.l, I64 y
 rl : 32 * f.rgs.length ≤ 140737488351232
 ri : ∀ x ∈ f.rgs, RegI x
theorem FnA.nums {n : Nat} {w : World} {p : Pl} {f : LFn} (h : FnA n w p f) : FnI f :=
 ⟨h.params, h.regs, h.frees, h.bound, h.name, h.names.len, h.names.in_, h.consts.len, h.consts.in_, h.ins.len, fun x hx => by
  obtain ⟨j, hj⟩ := List.mem_iff_getElem?.1 hx;obtain ⟨g, o, _, _, hc⟩ := h.ins.row.at hj;obtain ⟨hi, B, c, hl, hI, _⟩ := hc;exact ⟨hi, hl, hI.in_⟩, h.rgs.len, h.rgs.in_⟩
section
variable {lo : Nat} {w w' : World} {q : QP} {f : LFn} {X : Nat → Prop}
def FnBl (q : QP) (f : LFn) (k : Nat) : Prop := (Value.slice q.an f.names.length q.cn).ownBlock = some k ∨ (Value.slice q.ac f.consts.length q.cc).ownBlock = some k ∨ (Value.slice q.ai q.is.length q.ci).ownBlock = some k ∨ (Value.slice q.ar f.rgs.length q.cr).ownBlock = some k ∨ ∃ x ∈ q.is, (liV x).ownBlock = some k
theorem FnO.bl (h : FnO lo w q f) {k : Nat} (hk : FnBl q f k) : lo ≤ k ∧ k < w.heap.size := by
 rcases hk with hk | hk | hk | hk | ⟨x, hx, hk⟩
 · exact ⟨jj h.names k hk, qy h.names k hk⟩
 · exact ⟨jj h.consts k hk, qy h.consts k hk⟩
 · exact ⟨jj h.ins.i k hk, qy h.ins.i k hk⟩
 · exact ⟨jj h.rgs k hk, qy h.rgs k hk⟩
 · exact ⟨jj (h.ins.l x hx) k hk, qy (h.ins.l x hx) k hk⟩
theorem FnO.ext (h : FnO lo w q f) (k : Ext X w w') (hX : ∀ b, FnBl q f b → ¬ X b) : FnO lo w' q f :=
 ⟨qf h.names k fun b hb => hX b (Or.inl hb), qf h.consts k fun b hb => hX b (Or.inr (Or.inl hb)),
  ⟨qf h.ins.i k fun b hb => hX b (Or.inr (Or.inr (Or.inl hb))), fun x hx => qf (h.ins.l x hx) k fun b hb => hX b (Or.inr (Or.inr (Or.inr (Or.inr ⟨x, hx, hb⟩)))), h.ins.ap⟩,
  h.ise, qf h.rgs k fun b hb => hX b (Or.inr (Or.inr (Or.inr (Or.inl hb))))⟩
theorem FnO.no (h : FnO lo w q f) (k : Ext No w w') : FnO lo w' q f := h.ext k fun _ _ h => h.elim
theorem FnO.mid {hi : Nat} (h : FnO lo w q f) (hh : w.heap.size ≤ hi) (k : Ext X w w') (hX : ∀ b, X b → b < lo ∨ hi ≤ b) : FnO lo w' q f := h.ext k fun b hb hx => by
 have := h.bl hb;have := hX b hx;omega
theorem FnO.fn (h : FnO lo w q f) (hn : FnI f) : FnA w.heap.size w q.pl f := by
 have hil : q.is.length = f.ins.length := by rw [← h.ise, List.length_map]
 refine ⟨hn.params, hn.regs, hn.frees, hn.bound, hn.name, ⟨hn.nl, hn.ni, fun h0 => ?_⟩, ⟨hn.cl, hn.ci, fun h0 => ?_⟩, ⟨hn.il, fun h0 => ?_⟩, ⟨hn.rl, hn.ri, fun h0 => ?_⟩, Nat.le_refl _⟩
 · obtain ⟨g, hA, _, hg, hc⟩ := jm h.names (List.length_pos_iff.2 h0);refine ⟨g, 0, hA, hg, fun j x hx => ?_⟩;show w.cell? ⟨g, 0 + j * 1, none⟩ = _
   rw [Nat.zero_add, Nat.mul_one];exact hc j _ (by unfold strV; rw [List.getElem?_map, hx]; rfl)
 · obtain ⟨g, hA, _, hg, hc⟩ := gg h.consts (List.length_pos_iff.2 h0);refine ⟨g, 0, hA, hg, fun j x hx i v hv => ?_⟩;rw [Nat.zero_add];exact hc _ _ (ziv (s := 2) (fun _ => rfl) hx hv)
 · obtain ⟨g, hA, _, hg, hc⟩ := gg h.ins.i (by rw [hil]; exact List.length_pos_iff.2 h0);have := insA_of (is := q.is) hg hc (by rw [hil]; exact hn.il) fun x hx => by
    have hm : x.1 ∈ f.ins := by rw [← h.ise]; exact List.mem_map_of_mem hx
    obtain ⟨h1, h2, h3⟩ := hn.ii _ hm;exact ⟨h1, h2, OwnsI.ints (h.ins.l x hx) (by omega) h3⟩
   rw [h.ise] at this;show ∃ g o, q.ai = _ ∧ _
   rw [hA];exact this.row h0
 · obtain ⟨g, hA, _, hg, hc⟩ := gg h.rgs (List.length_pos_iff.2 h0);refine ⟨g, 0, hA, hg, fun j x hx i v hv => ?_⟩;rw [Nat.zero_add];exact hc _ _ (ziv (s := 4) (fun _ => rfl) hx hv)
end
section
variable {P : Program} {N : Nat} {ops : Array Oper} {Q : Exit → Act → World → Prop} {σ : Env} {w : World} {ty : TypeId} {pos : String} {af : Array Edge} {dst : Option Nat} {Post : Value → World → Prop}
theorem ziz {T e : TypeId} {x y : Operand} {z : Value} {size bytes g m c B base : Nat} {A : Option Addr} {news : List Value} (hd : P.underlying T = some (.slice e)) (hi : xj P e z size bytes) (hzs : z.cells.size = size) (hsz : 0 < size)
 (hx : ev σ x = some (.slice (some ⟨g, 0, none⟩) 0 0)) (hy : ev σ y = some (.slice A m c)) (hB : Blk w g e #[]) (hb : base ≤ g) (hbw : base ≤ w.heap.size) (hr : Reads w B size A m news) (h1 : ∀ u ∈ news, u.oneCell' = true) (h63 : m ≤ maxLen) (hbytes : m * bytes ≤ 140737488355328)
 (k : ∀ A' c' w', Below w.heap.size w w' → w'.ownsRow base e size (.slice A' m c') m news → (∀ q, (Value.slice A' m c').ownBlock = some q → q = g ∨ w.heap.size ≤ q) → Post (.slice A' m c') w') :
 OW P N ops Q ⟨dst, .call ⟨.builtin .append, #[x, y], #[T, T]⟩, ty, pos, af, none⟩ σ w Post :=
 ow_appendE hd hi hzs hsz hx hy hr h1 h63 hbytes fun A' c' w' hw hO => by
  rcases hO with ⟨h0, hA, hc, hn⟩ | h
  · subst h0 hA hc hn;refine k _ _ _ hw ⟨by simp, Or.inr ⟨g, 0, #[], rfl, hb, hB.ext (Ext.of_below hw No) (fun h => h.elim), Nat.le_refl _, Nat.zero_le _, by simp, by simp⟩⟩ fun q hq => Or.inl ?_;exact (Option.some.inj hq).symm
  · exact k _ _ _ hw (vw h hbw) fun q hq => Or.inr (jj h q hq)
end
theorem strV_one {xs : List ByteArray} : ∀ u ∈ strV xs, u.oneCell' = true := fun u hu => by
 obtain ⟨x, _, rfl⟩ := List.mem_map.1 hu;rfl
theorem conV_one {xs : List (Int × ByteArray)} : ∀ u ∈ conV xs, u.oneCell' = true := fun u hu => by
 obtain ⟨x, _, h⟩ := List.mem_flatMap.1 hu;rcases List.mem_cons.1 h with rfl | h
 · rfl
 · rw [List.mem_singleton.1 h]; rfl
theorem rgsV_one {xs : List LReg} : ∀ u ∈ rgsV xs, u.oneCell' = true := fun u hu => by
 obtain ⟨x, _, h⟩ := List.mem_flatMap.1 hu;unfold zqz at h;simp only [List.mem_cons, List.not_mem_nil, or_false] at h
 rcases h with rfl | rfl | rfl | rfl <;> rfl
theorem flat_len {α : Type} {en : α → List Value} {s : Nat} (hs : ∀ x, (en x).length = s) : ∀ (xs : List α), (xs.flatMap en).length = xs.length * s
 | [] => by simp
 | x :: xs => by rw [List.flatMap_cons, List.length_append, hs, flat_len hs xs, List.length_cons, Nat.succ_mul]; omega
theorem zwz {α : Type} {en : α → List Value} {s n : Nat} {w : World} {A : Option Addr} {xs : List α} (hs : ∀ x, (en x).length = s) (h0 : 0 < s) (h : RowS n w s (fun w g o x => zbx w g o (en x)) A xs) {B : Nat} (hB : n ≤ B) : Reads w B s A xs.length (xs.flatMap en) := by
 refine ⟨flat_len hs xs, fun hx => ?_⟩;obtain ⟨g, o, e, hg, hc⟩ := h (fun e => by rw [e] at hx; simp at hx);refine ⟨_, e, by show g < B; omega, fun j u hj => ?_⟩;rw [Lib.add_plain];have hjl := (List.getElem?_eq_some_iff.1 hj).1;rw [flat_len hs] at hjl;have hq : j / s < xs.length := Nat.div_lt_of_lt_mul (by rwa [Nat.mul_comm] at hjl)
 have hy : xs[j / s]? = some xs[j / s] := List.getElem?_eq_getElem hq;have hm : j % s < (en xs[j / s]).length := by rw [hs]; exact Nat.mod_lt _ h0
 have hv : (en xs[j / s])[j % s]? = some (en xs[j / s])[j % s] := List.getElem?_eq_getElem hm;have h2 := ziv hs hy hv;have e2 : j / s * s + j % s = j := by rw [Nat.mul_comm]; exact Nat.div_add_mod j s
 rw [e2, hj] at h2;have h3 := hc _ _ hy _ _ hv;rw [Nat.add_assoc, e2] at h3;rw [h3, h2]
theorem strV_flat : ∀ (xs : List ByteArray), (xs.flatMap fun x => [Value.string x]) = strV xs
 | [] => rfl
 | x :: xs => by rw [List.flatMap_cons, strV_flat xs]; rfl
theorem StrsA.reads {n : Nat} {w : World} {A : Option Addr} {xs : List ByteArray} (h : StrsA n w A xs) {B : Nat} (hB : n ≤ B) : Reads w B 1 A xs.length (strV xs) := by
 have := zwz (en := fun x => [.string x]) (s := 1) (fun _ => rfl) (by decide) (xs := xs) (A := A) (w := w) (n := n) (fun h0 => by
  obtain ⟨g, o, e, hg, hc⟩ := h.row h0;refine ⟨g, o, e, hg, fun j x hx i v hv => ?_⟩;match i, hv with
  | 0, hv =>
   obtain rfl := Option.some.inj hv;exact hc j x hx
  | i + 1, hv => cases hv) hB
 rwa [strV_flat] at this
theorem ConsA.reads {n : Nat} {w : World} {A : Option Addr} {xs : List (Int × ByteArray)} (h : ConsA n w A xs) {B : Nat} (hB : n ≤ B) : Reads w B 2 A xs.length (conV xs) := zwz (s := 2) (fun _ => rfl) (by decide) h.row hB
theorem RegsA.reads {n : Nat} {w : World} {A : Option Addr} {xs : List LReg} (h : RegsA n w A xs) {B : Nat} (hB : n ≤ B) : Reads w B 4 A xs.length (rgsV xs) := zwz (s := 4) (fun _ => rfl) (by decide) h.row hB
/-! ### instructions that grow -/
theorem InsO.nil {lo : Nat} {w : World} : InsO lo w none 0 [] := ⟨vi, fun x hx => (by cases hx), fun j k x y h => (by cases h)⟩
section
variable {lo : Nat} {w w1 : World} {A : Option Addr} {c : Nat} {is : List IB} {X : Nat → Prop}
theorem InsO.ext (h : InsO lo w A c is) (k : Ext X w w1) (hi : ∀ q, (Value.slice A is.length c).ownBlock = some q → ¬ X q) (hl : ∀ x ∈ is, ∀ q, (liV x).ownBlock = some q → ¬ X q) : InsO lo w1 A c is :=
 ⟨qf h.i k hi, fun x hx => qf (h.l x hx) k (hl x hx), h.ap⟩
theorem InsO.no (h : InsO lo w A c is) (k : Ext No w w1) : InsO lo w1 A c is := h.ext k (fun _ _ h => h.elim) fun _ _ _ _ h => h.elim
theorem InsO.other {base' n' s' : Nat} {e' : TypeId} {v' : Value} {xs' : List Value} (h : InsO lo w A c is) (h' : w.ownsRow base' e' s' v' n' xs') (h1 : 41 ≠ e') (h2 : 3 ≠ e') (k : Ext (Mut [v'.ownBlock]) w w1) : InsO lo w1 A c is :=
 ⟨qx h.i h' h1 k, fun x hx => qx (h.l x hx) h' h2 k, h.ap⟩
theorem InsO.blk {g' : Nat} {t : TypeId} {cs : Array Value} (h : InsO lo w A c is) (h' : Blk w g' t cs) (h1 : 41 ≠ t) (h2 : 3 ≠ t) (k : Ext (Mut [some g']) w w1) : InsO lo w1 A c is :=
 ⟨ye h.i h' h1 k, fun x hx => ye (h.l x hx) h' h2 k, h.ap⟩
theorem InsO.add {x : IB} {A' : Option Addr} {c' : Nat} (h : InsO lo w A c is) (hx : w.ownsRow lo 3 1 (liV x) x.1.l.length (yz x.1.l)) (hap : ∀ y ∈ is, ∀ q, (liV y).ownBlock = some q → (liV x).ownBlock ≠ some q)
 (h1 : w1.ownsRow lo 41 7 (.slice A' (is ++ [x]).length c') (is ++ [x]).length (kc (is ++ [x]))) (k : Ext (Mut [(Value.slice A is.length c).ownBlock]) w w1) : InsO lo w1 A' c' (is ++ [x]) := by
 refine ⟨h1, fun y hy => ?_, fun i j a b ha hb hij q hq => ?_⟩
 · rcases List.mem_append.1 hy with hy | hy
   · exact qx (h.l y hy) h.i (by decide) k
   · rw [List.mem_singleton.1 hy]; exact qx hx h.i (by decide) k
 · have key : ∀ (i : Nat) (a : IB), (is ++ [x])[i]? = some a → (i < is.length ∧ is[i]? = some a) ∨ (i = is.length ∧ a = x) := fun i a ha => by
    rcases Nat.lt_or_ge i is.length with h3 | h3
    · rw [List.getElem?_append_left h3] at ha;exact Or.inl ⟨h3, ha⟩
    · rw [List.getElem?_append_right h3] at ha;have h4 := (List.getElem?_eq_some_iff.1 ha).1;simp at h4
      have h5 : i = is.length := by omega
      subst h5;simp at ha
      exact Or.inr ⟨rfl, ha.symm⟩
   rcases key i a ha with ⟨_, ha2⟩ | ⟨e1, ea⟩
   · rcases key j b hb with ⟨_, hb2⟩ | ⟨e2, eb⟩
     · exact h.ap i j a b ha2 hb2 hij q hq
     · rw [eb]; exact hap a (List.mem_of_getElem? ha2) q hq
   · rcases key j b hb with ⟨_, hb2⟩ | ⟨e2, eb⟩
     · rw [ea] at hq;exact fun h2 => hap b (List.mem_of_getElem? hb2) q h2 hq
     · omega
end
theorem insCs_add (is : List IB) (x : IB) : kc is ++ jr x.1 x.2.1 x.2.2 = kc (is ++ [x]) := by unfold kc; rw [List.flatMap_append]; simp
end Go.Proofs.YtppdgjlmeahimaaDoor
namespace Go.Proofs.YtppdgjlmeahimaaDoor
open Go.RowKit
set_option maxRecDepth 100000
attribute [local irreducible] OW RS
def fcC (f : LFn) (an : Option Addr) (cn : Nat) (ac : Option Addr) (cc : Nat) (A : Option Addr) (n c : Nat) (ar : Option Addr) (cr rn : Nat) (regs : Int) : Array Value := #[.string f.name, .int .i64 f.params, .int .i64 regs, .int .i64 f.frees, .bool f.gen, .int .i64 f.bound, .slice an f.names.length cn, .slice ac f.consts.length cc, .slice A n c, .slice ar rn cr]
structure CM (lo g1 g2 : Nat) (z2 : Array Value) (f : LFn) (an : Option Addr) (cn : Nat) (ac : Option Addr) (cc : Nat) (ar : Option Addr) (cr : Nat) (rs : List LReg) (regs : Int) (A : Option Addr) (c : Nat) (is : List IB) (w : World) : Prop where
 fb : Blk w g1 27 (fcC f an cn ac cc A is.length c ar cr rs.length regs)
 names : w.ownsRow lo 9 1 (.slice an f.names.length cn) f.names.length (strV f.names)
 consts : w.ownsRow lo 37 2 (.slice ac f.consts.length cc) f.consts.length (conV f.consts)
 rgs : w.ownsRow lo 50 4 (.slice ar rs.length cr) rs.length (rgsV rs)
 ins : InsO lo w A c is
 gb : Blk w g2 27 z2
 h12 : g1 ≠ g2
section
variable {lo g1 g2 : Nat} {z2 : Array Value} {f : LFn} {an : Option Addr} {cn : Nat} {ac : Option Addr} {cc : Nat} {ar : Option Addr} {cr : Nat} {rs : List LReg} {regs : Int} {A : Option Addr} {c : Nat} {is : List IB} {w w1 w2 : World}
theorem CM.no (h : CM lo g1 g2 z2 f an cn ac cc ar cr rs regs A c is w) (k : Ext No w w1) : CM lo g1 g2 z2 f an cn ac cc ar cr rs regs A c is w1 :=
 ⟨h.fb.ext k (fun h => h.elim), qf h.names k (fun _ _ h => h.elim), qf h.consts k (fun _ _ h => h.elim), qf h.rgs k (fun _ _ h => h.elim), h.ins.no k, h.gb.ext k (fun h => h.elim), h.h12⟩
theorem CM.late {X : Nat → Prop} (h : CM lo g1 g2 z2 f an cn ac cc ar cr rs regs A c is w) (k : Ext X w w1) (hX : ∀ q, X q → w.heap.size ≤ q) : CM lo g1 g2 z2 f an cn ac cc ar cr rs regs A c is w1 := by
 have hl : ∀ q, q < w.heap.size → ¬ X q := fun q hq hm => by have := hX q hm; omega
 exact ⟨h.fb.ext k (hl _ h.fb.lt), qf h.names k fun q hq => hl q (qy h.names q hq), qf h.consts k fun q hq => hl q (qy h.consts q hq), qf h.rgs k fun q hq => hl q (qy h.rgs q hq), h.ins.ext k (fun q hq => hl q (qy h.ins.i q hq)) fun x hx q hq => hl q (qy (h.ins.l x hx) q hq), h.gb.ext k (hl _ h.gb.lt), h.h12⟩
theorem CM.lt (h : CM lo g1 g2 z2 f an cn ac cc ar cr rs regs A c is w) {x : IB} (hx : x ∈ is) {q : Nat} (hq : (liV x).ownBlock = some q) : q < w.heap.size := qy (h.ins.l x hx) q hq
theorem CM.put {x : IB} {A' : Option Addr} {c' : Nat} (h : CM lo g1 g2 z2 f an cn ac cc ar cr rs regs A c is w) (hx : w.ownsRow lo 3 1 (liV x) x.1.l.length (yz x.1.l)) (hap : ∀ y ∈ is, ∀ q, (liV y).ownBlock = some q → (liV x).ownBlock ≠ some q)
 (h1 : w1.ownsRow lo 41 7 (.slice A' (is ++ [x]).length c') (is ++ [x]).length (kc (is ++ [x]))) (k1 : Ext (Mut [(Value.slice A is.length c).ownBlock]) w w1) (h2 : Blk w2 g1 27 (fcC f an cn ac cc A' (is ++ [x]).length c' ar cr rs.length regs)) (k2 : Ext (Mut [some g1]) w1 w2) : CM lo g1 g2 z2 f an cn ac cc ar cr rs regs A' c' (is ++ [x]) w2 := by
 have hb1 := qn h.fb h.ins.i (by decide) k1
 exact ⟨h2, ye (qx h.names h.ins.i (by decide) k1) hb1 (by decide) k2, ye (qx h.consts h.ins.i (by decide) k1) hb1 (by decide) k2, ye (qx h.rgs h.ins.i (by decide) k1) hb1 (by decide) k2, (h.ins.add hx hap h1 k1).blk hb1 (by decide) (by decide) k2, (qn h.gb h.ins.i (by decide) k1).ext k2 (fun hm => h.h12 (qt hm).symm), h.h12⟩
end
section
variable {lo g1 g2 : Nat} {z2 : Array Value} {f : LFn} {an : Option Addr} {cn : Nat} {ac : Option Addr} {cc : Nat} {ar : Option Addr} {cr : Nat} {rs : List LReg} {regs : Int} {A : Option Addr} {c : Nat} {is : List IB} {w w1 w2 : World}
theorem CM.putR {rs' : List LReg} {A' : Option Addr} {c' : Nat} (h : CM lo g1 g2 z2 f an cn ac cc ar cr rs regs A c is w)
 (h1 : w1.ownsRow lo 50 4 (.slice A' rs'.length c') rs'.length (rgsV rs')) (k1 : Ext (Mut [(Value.slice ar rs.length cr).ownBlock]) w w1) (h2 : Blk w2 g1 27 (fcC f an cn ac cc A is.length c A' c' rs'.length regs)) (k2 : Ext (Mut [some g1]) w1 w2) : CM lo g1 g2 z2 f an cn ac cc A' c' rs' regs A c is w2 := by
 have hb1 := qn h.fb h.rgs (by decide) k1
 exact ⟨h2, ye (qx h.names h.rgs (by decide) k1) hb1 (by decide) k2, ye (qx h.consts h.rgs (by decide) k1) hb1 (by decide) k2, ye h1 hb1 (by decide) k2, (h.ins.other h.rgs (by decide) (by decide) k1).blk hb1 (by decide) (by decide) k2, (qn h.gb h.rgs (by decide) k1).ext k2 (fun hm => h.h12 (qt hm).symm), h.h12⟩
end
def RetFn (w : World) (f : LFn) : Ending → World → Prop := fun e w' => ∃ q, e = .returned (fnV q.pl f) ∧ FnO w.heap.size w' q f ∧ Below w.heap.size w w'
section
variable (w : World) (p : Pl) (f : LFn) (n0 : Nat) (hF : FnA n0 w p f)
include hF
theorem copy_any : Calls Tryd.prog 16 #[fnV p f] w (RetFn w f) := by
 have hn0 := hF.size;have hnl := hF.names.len;have hcl := hF.consts.len;have hil := hF.ins.len;have hrl := hF.rgs.len;obtain ⟨lo, hlo⟩ : ∃ lo, lo = w.heap.size := ⟨_, rfl⟩;refine qs Tryd.func16 rfl Tryd.ntmps16 rfl (srx (za rfl (vk rfl ?_)));rintro g1 wA B1 E1 G1;refine za rfl (qb zr27 ?_);rintro g2 wB B2 E2 G2
 have B1b : Blk wB g1 27 (fcC f p.an p.cn p.ac p.cc p.ai f.ins.length p.ci p.ar p.cr f.rgs.length f.regs) := B1.ext E2 (fun h => h.elim);have h12 : g1 < g2 := by have := B1.lt; omega
 have hs1 := E1.size;have hs2 := E2.size;have hx2 : ∀ q, q ≠ g1 → ¬ Mut [some g1] q := fun q hq hm => hq (qt hm);have hEB : Ext (fun q => lo ≤ q) w wB := (E1.mono (Y := fun q => lo ≤ q) (fun _ h _ => h.elim)).step E2 (fun _ h => h.elim);refine rnx (srx (za rfl (zkx Tryd.underlying22 sz9 zr9 ?_)));rintro g3 wC B3 hb Gq;have E3 := Ext.of_below hb No
 have B1c := B1b.ext E3 (fun h => h.elim);have hEC := hEB.step E3 (fun _ h => h.elim);have hFC := hF.low (X := fun q => lo ≤ q) ⟨hEC, fun q hq => by have hq : lo ≤ q := hq; omega⟩
 refine za rfl (zb Tryd.underlying27 rfl sz22 (by decide) rfl (za rfl (zg Tryd.underlying22 rfl rfl B1c rfl (za rfl (ziz Tryd.underlying22 inf9 rfl (by decide) rfl rfl B3 (show lo ≤ g3 by omega) (by have := E3.size; omega) (hFC.names.reads hFC.size) strV_one (by unfold maxLen; omega) (by omega) ?_)))));rintro an cn wD hb ON Nq;have E4 := Ext.of_below hb No
 have B1d := B1c.ext E4 (fun h => h.elim);refine za rfl (zb Tryd.underlying27 rfl sz22 (by decide) rfl (zw (qi (cs' := fcC f an cn p.ac p.cc p.ai f.ins.length p.ci p.ar p.cr f.rgs.length f.regs) sz22 rfl rfl B1d rfl rfl (Nat.le_of_ble_eq_true rfl) rfl ?_)));rintro wE B1e E5;have ON5 := ye ON B1d (by decide) E5
 have hE5 := (hEC.step E4 (fun _ h => h.elim)).step E5 (fun q hq => Or.inl (show lo ≤ q by have := qt hq; omega));refine rnx (srx (za rfl (zkx Tryd.underlying23 sz37 zr37 ?_)));rintro g4 wF B4 hb Gq2;have E6 := Ext.of_below hb No;have B1f := B1e.ext E6 (fun h => h.elim);have hE6 := hE5.step E6 (fun _ h => h.elim)
 have hF6 := hF.low (X := fun q => lo ≤ q) ⟨hE6, fun q hq => by have hq : lo ≤ q := hq; omega⟩
 refine za rfl (zb Tryd.underlying27 rfl sz23 (by decide) rfl (za rfl (zg Tryd.underlying23 rfl rfl B1f rfl (za rfl (ziz Tryd.underlying23 inf37 rfl (by decide) rfl rfl B4 (show lo ≤ g4 by have := hE5.size; omega) (by have := hE6.size; omega) (hF6.consts.reads hF6.size) conV_one (by unfold maxLen; omega) (by omega) ?_)))));rintro ac cc wG hb OC Nq2
 have E7 := Ext.of_below hb No;have B1g := B1f.ext E7 (fun h => h.elim);refine za rfl (zb Tryd.underlying27 rfl sz23 (by decide) rfl (zw (qi (cs' := fcC f an cn ac cc p.ai f.ins.length p.ci p.ar p.cr f.rgs.length f.regs) sz23 rfl rfl B1g rfl rfl (Nat.le_of_ble_eq_true rfl) rfl ?_)));rintro wH B1h E8;have OC8 := ye OC B1g (by decide) E8
 have ON8 := ye (qf (qf ON5 E6 (fun _ _ h => h.elim)) E7 (fun _ _ h => h.elim)) B1g (by decide) E8;have hE8 := (hE6.step E7 (fun _ h => h.elim)).step E8 (fun q hq => Or.inl (show lo ≤ q by have := qt hq; omega));refine rnx (srx (za rfl (zkx Tryd.underlying25 ku zr50 ?_)));rintro g5 wI B5 hb Gq3;have E9 := Ext.of_below hb No
 have B1i := B1h.ext E9 (fun h => h.elim);have hE9 := hE8.step E9 (fun _ h => h.elim);have hF9 := hF.low (X := fun q => lo ≤ q) ⟨hE9, fun q hq => by have hq : lo ≤ q := hq; omega⟩
 refine za rfl (zb Tryd.underlying27 rfl ko (by decide) rfl (za rfl (zg Tryd.underlying25 rfl rfl B1i rfl (za rfl (ziz Tryd.underlying25 inf50 rfl (by decide) rfl rfl B5 (show lo ≤ g5 by have := hE8.size; omega) (by have := hE9.size; omega) (hF9.rgs.reads hF9.size) rgsV_one (by unfold maxLen; omega) (by omega) ?_)))));rintro ar cr wJ hb OR Nq3
 have E10 := Ext.of_below hb No;have B1j := B1i.ext E10 (fun h => h.elim);refine za rfl (zb Tryd.underlying27 rfl ko (by decide) rfl (zw (qi (cs' := fcC f an cn ac cc p.ai f.ins.length p.ci ar cr f.rgs.length f.regs) ko rfl rfl B1j rfl rfl (Nat.le_of_ble_eq_true rfl) rfl ?_)));rintro wK B1k E11;have OR11 := ye OR B1j (by decide) E11
 have OC11 := ye (qf (qf OC8 E9 (fun _ _ h => h.elim)) E10 (fun _ _ h => h.elim)) B1j (by decide) E11;have ON11 := ye (qf (qf ON8 E9 (fun _ _ h => h.elim)) E10 (fun _ _ h => h.elim)) B1j (by decide) E11;have hE11 := (hE9.step E10 (fun _ h => h.elim)).step E11 (fun q hq => Or.inl (show lo ≤ q by have := qt hq; omega))
 refine rnx (srx (za rfl (zb Tryd.underlying27 rfl gz (by decide) rfl (za rfl (zg Tryd.underlying24 rfl rfl B1k rfl (anx rfl (srx (za rfl (zb Tryd.underlying27 rfl gz (by decide) rfl (zw (qi (cs' := fcC f an cn ac cc none 0 0 ar cr f.rgs.length f.regs) gz rfl rfl B1k rfl rfl (Nat.le_of_ble_eq_true rfl) rfl ?_)))))))))));rintro wL B1l E12
 have hXL : Ext (Mut [some g1]) wB wL := (((((((((E3.mono (Y := Mut [some g1]) (fun _ h _ => h.elim)).step E4 (fun _ h => h.elim)).step E5 (fun _ h => Or.inl h)).step E6 (fun _ h => h.elim)).step E7 (fun _ h => h.elim)).step E8 (fun _ h => Or.inl h)).step E9 (fun _ h => h.elim)).step E10 (fun _ h => h.elim)).step E11 (fun _ h => Or.inl h)).step E12 (fun _ h => Or.inl h)
 obtain ⟨z2, hz2⟩ : ∃ z2, Blk wB g2 27 z2 ∧ z2.size = 10 := ⟨_, B2, rfl⟩;have M0 : CM lo g1 g2 z2 f an cn ac cc ar cr f.rgs f.regs none 0 [] wL := ⟨B1l, ye ON11 B1k (by decide) E12, ye OC11 B1k (by decide) E12, ye OR11 B1k (by decide) E12, InsO.nil, hz2.1.ext hXL (hx2 g2 (by omega)), Nat.ne_of_lt h12⟩
 have hE12 := hE11.step E12 (fun q hq => Or.inl (show lo ≤ q by have := qt hq; omega))
 refine rnx (zp (srx (anx rfl (yb (qu (ι := Nat × List IB × Option Addr × Nat) (fun (i, is, A, c) => [(1, .pointer (some ⟨g1, 0, none⟩)), (2, .pointer (some ⟨g2, 0, none⟩)), (3, .slice p.ai f.ins.length p.ci), (4, .int .i64 ((i : Nat) : Int))]) (fun (i, is, A, c) w' => i ≤ f.ins.length ∧ Ext (fun q => lo ≤ q) w w' ∧ CM lo g1 g2 z2 f an cn ac cc ar cr f.rgs f.regs A c is w' ∧ is.map (·.1) = f.ins.take i) (fun (i, _) => f.ins.length - i) (0, [], none, 0) ⟨rfl, rfl, rfl, rfl, trivial⟩ (⟨Nat.zero_le _, hE12, M0, rfl⟩) ?_)))))
 rintro ⟨i, is, A, c⟩ w2 ⟨hil2, hEi, Mi, hisi⟩;have hisl : is.length = i := by have h := congrArg List.length hisi; rw [List.length_map, List.length_take] at h; omega
 refine zp (srx (mvx rfl (mvx rfl (za rfl (yw Tryd.underlying24 rfl (za rfl (yy rfl rfl (rnx (zr rfl (fun hi => ?_) (fun hi => ?_))))))))))
 ·
  have hi := of_decide_eq_true hi;have hilt : i < f.ins.length := by omega
  obtain ⟨x, hx⟩ : ∃ x, f.ins[i]? = some x := ⟨_, List.getElem?_eq_getElem hilt⟩;have hFi := hF.low (X := fun q => lo ≤ q) ⟨hEi, fun q hq => by have hq : lo ≤ q := hq; omega⟩;obtain ⟨gi, oi, hAi, hgi, hcx⟩ := hFi.ins.row.at hx;obtain ⟨hI, B, cB, hcB, hl, hcells⟩ := hcx;have hsz := hEi.size;obtain ⟨wi, hwi⟩ : ∃ wi, wi = w2 := ⟨_, rfl⟩;subst hwi
  refine zq (zh (zp (yb (srx (mvx rfl (mvx rfl (za rfl (yi (j := i) Tryd.underlying24 vx (congrArg (fun z ↦ some (Value.slice z f.ins.length p.ci)) hAi) rfl rfl hilt (za rfl (jb (cs := (jr x B cB).toArray) Tryd.underlying41 rfl vx rfl rfl (fun j v hj ↦ hcells j v (by simpa using hj)) (za rfl (qb zpk ?_))))))))))));rintro g5 wM B50 E13 G5
  refine zw (qz vx rfl rfl B50 rfl rfl rfl ?_);rintro wN B5 E14;have hE14 := (hEi.step E13 (fun _ h => h.elim)).step E14 (fun q hq => Or.inl (show lo ≤ q by have := qt hq; omega));refine rnx (srx (za rfl (zkx Tryd.underlying28 sz3 zr3 ?_)));rintro g6 wO B6 hb Gq6;have E15 := Ext.of_below hb No;have B5b := B5.ext E15 (fun h => h.elim)
  have hE15 := hE14.step E15 (fun _ h => h.elim);have hF15 := hF.low (X := fun q => lo ≤ q) ⟨hE15, fun q hq => by have hq : lo ≤ q := hq; omega⟩;have hl15 : IntsA n0 wO B x.l := ((hl.low (X := No) ⟨E13, fun _ h => h.elim⟩).low (X := Mut [some g5]) ⟨E14, fun q hq => by have := qt hq; omega⟩).low (X := No) ⟨E15, fun _ h => h.elim⟩
  refine za rfl (zb Tryd.underlying41 rfl gu (by decide) rfl (za rfl (zg Tryd.underlying28 rfl rfl B5b rfl (za rfl (ziz Tryd.underlying28 ou rfl (by decide) rfl rfl B6 (show lo ≤ g6 by have := hE14.size; omega) (by have := hE15.size; omega) (hl15.reads hF15.size) kj (by unfold maxLen; omega) (by omega) ?_)))));rintro A4 c4 wP hb OL Nq4
  have E16 := Ext.of_below hb No;have B5c := B5b.ext E16 (fun h => h.elim);refine za rfl (zb Tryd.underlying41 rfl gu (by decide) rfl (zw (qi (cs' := (jr x A4 c4).toArray) gu rfl rfl B5c rfl rfl (Nat.le_of_ble_eq_true rfl) rfl ?_)));rintro wQ B5d E17;have hg5 : ∀ q, Mut [some g5] q → wi.heap.size ≤ q := fun q hq => by have := qt hq; omega
  have hK : Ext (fun q => wi.heap.size ≤ q) wi wQ := ((((E13.mono (Y := fun q => wi.heap.size ≤ q) (fun _ h _ => h.elim)).step E14 (fun q hq => Or.inl (hg5 q hq))).step E15 (fun _ h => h.elim)).step E16 (fun _ h => h.elim)).step E17 (fun q hq => Or.inl (hg5 q hq));have M3 := Mi.late hK (fun _ h => h);have OL17 := ye OL B5c (by decide) E17
  have hE17 := hEi.step hK (fun q hq => Or.inl (show lo ≤ q by have hq : wi.heap.size ≤ q := hq; omega));obtain ⟨x9, hx9⟩ : ∃ x9 : IB, x9 = (x, A4, c4) := ⟨_, rfl⟩;have hO9 : wQ.ownsRow lo 3 1 (liV x9) x9.1.l.length (yz x9.1.l) := by rw [hx9]; exact OL17
  have hap9 : ∀ y ∈ is, ∀ q, (liV y).ownBlock = some q → (liV x9).ownBlock ≠ some q := fun y hy q hq h9 => by
   have h1 := Mi.lt hy hq;rw [hx9] at h9;have h13 := E13.size;have h14 := E14.size;have h15 := E15.size;rcases Nq4 q h9 with h | h
   · omega
   · omega
  have hl9 : (is ++ [x9]).length = is.length + 1 := by rw [List.length_append]; rfl
  refine rnx (zj (za rfl (zb Tryd.underlying27 rfl gz (by decide) rfl (za rfl (zg Tryd.underlying24 rfl rfl M3.fb rfl (za rfl (zo Tryd.underlying41 rfl vx rfl B5d rfl (za rfl (yl (cs := #[.int .i64 x.op, .int .i64 x.d, .int .i64 x.a, .int .i64 x.b, .int .i64 x.t, .int .i64 x.k, .slice A4 x.l.length c4]) Tryd.underlying24 vx zpk (by decide) rfl (fill1x7 (.int .i64 x.op) (.int .i64 x.d) (.int .i64 x.a) (.int .i64 x.b) (.int .i64 x.t) (.int .i64 x.k) (.slice A4 x.l.length c4)) ?_)))))))))
  rintro g7 wR B7 E18 G7;have M4 := M3.no E18;have hO18 := qf hO9 E18 (fun _ _ h => h.elim)
  refine za rfl (ju (n' := (is ++ [x9]).length) (xs' := kc (is ++ [x9])) Tryd.underlying24 inf41 rfl (by decide) rfl M4.ins.i rfl (vn B7 B7.lt rfl) (by simp [Value.oneCell']) hl9.symm (by rw [← insCs_add, hx9]; rfl) (by rw [hl9]; unfold maxLen; omega) (by rw [hl9]; omega) (by have := hE17.size; have := E18.size; omega) ?_);rintro A5 c5 wS O5 E19 N5
  have Bf := qn M4.fb M4.ins.i (by decide) E19;refine za rfl (zb Tryd.underlying27 rfl gz (by decide) rfl (zw (qi (cs' := fcC f an cn ac cc A5 (is ++ [x9]).length c5 ar cr f.rgs.length f.regs) gz rfl rfl Bf rfl rfl (Nat.le_of_ble_eq_true rfl) rfl ?_)));rintro wT Bs E20;have M5 := M4.put hO18 hap9 O5 E19 Bs E20
  have hE20 := ((hE17.step E18 (fun _ h => h.elim)).step E19 (fun q hq => Or.inl (show lo ≤ q from ycv M4.ins.i q hq))).step E20 (fun q hq => Or.inl (show lo ≤ q by have := qt hq; omega));refine yc (zf (zh (zj (mvx rfl (za rfl (qc rfl rfl (yg (by omega)) (avx rfl (yc ?_))))))))
  exact yt (i + 1, is ++ [x9], A5, c5) (by show f.ins.length - (i + 1) < f.ins.length - i; omega) ⟨rfl, rfl, rfl, rfl, trivial⟩ (⟨hilt, hE20, M5, by rw [List.map_append, hisi, List.take_add_one, hx, hx9]; rfl⟩)
 ·
  have hi := of_decide_eq_false hi;have hie : i = f.ins.length := by omega
  rw [hie, List.take_length] at hisi;refine qe (zm (zm (ya (zh (srx (za rfl (zo Tryd.underlying27 rfl jp rfl Mi.fb rfl (zw (qz jp rfl rfl Mi.gb rfl rfl hz2.2.symm ?_)))))))));rintro wU Bz E21
  have hFO : FnO lo wU ⟨an, cn, ac, cc, A, c, ar, cr, is⟩ f := ⟨ye Mi.names Mi.gb (by decide) E21, ye Mi.consts Mi.gb (by decide) E21, Mi.ins.blk Mi.gb (by decide) (by decide) E21, hisi, ye Mi.rgs Mi.gb (by decide) E21⟩;have hFin := hEi.step E21 (fun q hq => Or.inl (show lo ≤ q by have := qt hq; omega))
  have hisn : is.length = f.ins.length := by rw [← hisi, List.length_map]
  refine rnx (zv (zu (rs := [.cell 2 27]) (vs := [_]) rfl ⟨⟨_, rfl, qj Tryd.underlying27 rfl jp Bz rfl⟩, trivial⟩ ?_));exact ⟨⟨an, cn, ac, cc, A, c, ar, cr, is⟩, by rw [hisn]; rfl, hlo ▸ hFO, hFin.below (fun q h => by rw [hlo] at h; exact h)⟩
end
end Go.Proofs.YtppdgjlmeahimaaDoor
namespace Go.Proofs.YtppdgjlmeahimaaDoor
open Go.RowKit
set_option maxRecDepth 100000
def mAt (m : List Int) (x : Int) : Int := m.getD x.toNat 0
def qo (m : List Int) (i : LIns) : LIns := ⟨i.op, if uD i.op = true then mAt m i.d else i.d, if uA i.op = true then mAt m i.a else i.a, if uB i.op = true then mAt m i.b else i.b, i.t, i.k, if uL i.op = true then i.l.map (mAt m) else i.l⟩
def xy (m : List Int) (r : LReg) : LReg := ⟨r.fr, r.to, r.tg, mAt m r.d⟩
def zdq (f : LFn) (m : List Int) (n : Int) : LFn := ⟨f.name, f.params, n, f.frees, f.gen, f.bound, f.names, f.consts, f.ins.map (qo m), f.rgs.map (xy m)⟩
theorem mAt_get {m : List Int} {x : Int} (h0 : 0 ≤ x) (h1 : x < (m.length : Int)) : m[x.toNat]? = some (mAt m x) := by
 unfold mAt;rw [List.getD_eq_getElem?_getD, List.getElem?_eq_getElem (by omega)]; rfl
def oq (op : Int) : Nat := (if uA op = true then 1 else 0) + (if uB op = true then 1 else 0)
theorem op_all {p : Int → Prop} (h : ∀ k : Fin 45, p (k.val : Int)) (h2 : ∀ op, op < 0 ∨ 44 < op → p op) (op : Int) : p op := by
 by_cases h3 : op < 0 ∨ 44 < op
 · exact h2 op h3
 · have := h ⟨op.toNat, by omega⟩;have e : ((op.toNat : Nat) : Int) = op := by omega
   simpa [e] using this
theorem flN_out {op : Int} (h : op < 0 ∨ 44 < op) : flN op = 0 := by unfold flN; rw [if_pos h]
theorem uB_uA (op : Int) : uB op = true → uA op = true := by
 refine op_all (p := fun op => uB op = true → uA op = true) (by decide +kernel) (fun op h => ?_) op;unfold uB; rw [flN_out h]; intro h; cases h
theorem bare_0 (op : Int) : decide (0 < ((oq op : Nat) : Int)) = uA op := by
 unfold oq;have := uB_uA op;cases ha : uA op <;> cases hb : uB op <;> simp_all
theorem bare_1 (op : Int) : decide (1 < ((oq op : Nat) : Int)) = uB op := by
 unfold oq;have := uB_uA op;cases ha : uA op <;> cases hb : uB op <;> simp_all
theorem bare_reads (op : Int) : (yu ⟨op, 0, 0, 0, 0, 0, []⟩).length = oq op := by
 unfold yu oq;cases uA op <;> cases uB op <;> simp
theorem bare_reads1 (op : Int) : (yu ⟨op, 0, 0, 0, 0, 0, [0]⟩).length = oq op + (if (uL op && op != 35) = true then 1 else 0) := by
 unfold yu oq;cases uA op <;> cases uB op <;> simp <;> split <;> simp
theorem uL_35 : uL 35 = true := by decide +kernel
theorem named_35 {op : Int} (h : (op == 35) = true) : uL op = true := by rw [eq_of_beq h]; exact uL_35
theorem named_ne {op : Int} (h : (op == 35) = false) : decide (((oq op : Nat) : Int) < (((yu ⟨op, 0, 0, 0, 0, 0, [0]⟩).length : Nat) : Int)) = uL op := by
 have h2 : (op != 35) = true := by simp [bne, h]
 rw [bare_reads1, h2, Bool.and_true];cases uL op <;> simp <;> omega
theorem uD_35' : uD 35 = false := by decide +kernel
theorem wr_35 {op : Int} (h : (op != 35) = false) : uD op = false := by
 have : op = 35 := by simpa using h
 rw [this]; exact uD_35'
theorem wr_ne {i : LIns} (h : (i.op != 35) = true) : decide (0 < (((yj i).length : Nat) : Int)) = uD i.op := by
 have h2 : i.op ≠ 35 := by simpa using h
 unfold yj;rw [if_neg h2];cases uD i.op <;> simp
section
variable {f : LFn} {m : List Int} {n : Int} (h : jq f m n)
include h
theorem xe {x : Int} (h0 : 0 ≤ x) (h1 : x < f.regs) : m[x.toNat]? = some (mAt m x) := mAt_get h0 (by have := h.2.1; omega)
theorem zjv {x : Int} (h0 : 0 ≤ x) (h1 : x < f.regs) : I64 (mAt m x) := by
 obtain ⟨hr0, hr1, hp0, hp1, hne⟩ := gl h.1;have h2 := h.2.2.2.2.1 _ _ (xe h h0 h1);have h3 := h.2.2.2.1;unfold I64;omega
theorem place_in {i : LIns} (hi : i ∈ f.ins) : (uD i.op = true → 0 ≤ i.d ∧ i.d < f.regs) ∧ (uA i.op = true → 0 ≤ i.a ∧ i.a < f.regs) ∧ (uB i.op = true → 0 ≤ i.b ∧ i.b < f.regs) ∧ (uL i.op = true → ∀ y ∈ i.l, 0 ≤ y ∧ y < f.regs) := by
 obtain ⟨j, hj⟩ := List.mem_iff_getElem?.1 hi;obtain ⟨h1, h2, _⟩ := zjk h.1 hj;refine ⟨fun hu => ?_, fun hu => ?_, fun hu => ?_, fun hu y hy => ?_⟩
 · by_cases h35 : i.op = 35
   · rw [h35, uD_35'] at hu; cases hu
   · exact h2 i.d (by unfold yj; rw [if_neg h35, if_pos hu]; simp)
 · exact h1 i.a (by unfold yu; rw [if_pos hu]; simp)
 · exact h1 i.b (by unfold yu; rw [if_pos hu]; simp)
 · by_cases h35 : i.op = 35
   · exact h2 y (by unfold yj; rw [if_pos h35]; exact hy)
   · have : (uL i.op && i.op != 35) = true := by rw [hu]; simpa using h35
     exact h1 y (by unfold yu; rw [if_pos this]; simp [hy])
theorem place_nums (hn : FnI f) (hin : I64 n) : FnI (zdq f m n) := by
 refine ⟨hn.params, hin, hn.frees, hn.bound, hn.name, hn.nl, hn.ni, hn.cl, hn.ci, by show 72 * (f.ins.map (qo m)).length ≤ _; rw [List.length_map]; exact hn.il, fun x hx => ?_, by show 32 * (f.rgs.map (xy m)).length ≤ _; rw [List.length_map]; exact hn.rl, fun x hx => ?_⟩
 · obtain ⟨i, hi, rfl⟩ := List.mem_map.1 (show x ∈ f.ins.map (qo m) from hx);obtain ⟨h1, h2, h3⟩ := hn.ii i hi;obtain ⟨p1, p2, p3, p4⟩ := place_in h hi;refine ⟨⟨h1.op, ?_, ?_, ?_, h1.t, h1.k⟩, ?_, ?_⟩
   · show I64 (if uD i.op = true then mAt m i.d else i.d)
     split
     · rename_i hu; exact zjv h (p1 hu).1 (p1 hu).2
     · exact h1.d
   · show I64 (if uA i.op = true then mAt m i.a else i.a)
     split
     · rename_i hu; exact zjv h (p2 hu).1 (p2 hu).2
     · exact h1.a
   · show I64 (if uB i.op = true then mAt m i.b else i.b)
     split
     · rename_i hu; exact zjv h (p3 hu).1 (p3 hu).2
     · exact h1.b
   · show 8 * (if uL i.op = true then i.l.map (mAt m) else i.l).length ≤ _
     split
     · rw [List.length_map]; exact h2
     · exact h2
   · intro y hy;have hy : y ∈ (if uL i.op = true then i.l.map (mAt m) else i.l) := hy;split at hy
     · rename_i hu
       obtain ⟨z, hz, rfl⟩ := List.mem_map.1 hy;exact zjv h (p4 hu z hz).1 (p4 hu z hz).2
     · exact h3 y hy
 · obtain ⟨r, hr, rfl⟩ := List.mem_map.1 (show x ∈ f.rgs.map (xy m) from hx);have h1 := hn.ri r hr;have h2 := zxq h.1 hr;exact ⟨h1.fr, h1.to, h1.tg, zjv h h2.2.2.2.2.2.1 h2.2.2.2.2.2.2⟩
end
/-! ### own rows written in place -/
section
variable {P : Program} {N : Nat} {ops : Array Oper} {Q : Exit → Act → World → Prop} {σ : Env} {w : World} {ty : TypeId} {pos : String} {af : Array Edge} {dst : Option Nat} {Post : Value → World → Prop}
theorem ow_storeO {T e : TypeId} {x y : Operand} {g base n c j : Nat} {v : Value} {xs xs' : List Value} (hs : vc P T 1) (hx : ev σ x = some (.pointer (some ⟨g, 0 + j, none⟩))) (hy : ev σ y = some v) (ho : w.ownsRow base e 1 (.slice (some ⟨g, 0, none⟩) n c) n xs) (hj : j < n) (hv : v.cells = #[v]) (h1 : xf [v] = true) (he : xs.set j v = xs')
 (k : ∀ w', w'.ownsRow base e 1 (.slice (some ⟨g, 0, none⟩) n c) n xs' → Ext (Mut [some g]) w w' → Post undef w') : OW P N ops Q ⟨dst, .store T x y, ty, pos, af, none⟩ σ w Post := by
 subst he;rcases ho.2 with ⟨h0, _⟩ | ⟨g', cap, cur, hv', hb, hh, hn, hm, hsz, ht⟩
 · cases h0
 · cases hv'
   refine qi (cs' := cur.setIfInBounds (0 + j) v) hs hx hy (show Blk w g e cur from hh) hv h1 (by omega) rfl fun w' hb' he' => k w' ⟨by rw [List.length_set]; exact ho.1, Or.inr ⟨g, c, _, rfl, hb, hb', hn, hm, by rw [Array.size_setIfInBounds]; exact hsz, ?_⟩⟩ he';rw [Array.toList_setIfInBounds, Nat.zero_add, List.take_set, ht]
end
def znz (u : Bool) (m l : List Int) (k : Nat) : List Int := if u = true then (l.take k).map (mAt m) ++ l.drop k else l
theorem zrx (u : Bool) (m l : List Int) (k : Nat) : (znz u m l k).length = l.length := by
 unfold znz; split
 · rw [List.length_append, List.length_map, ← List.length_append, List.take_append_drop]
 · rfl
theorem midL_0 (u : Bool) (m l : List Int) : znz u m l 0 = l := by unfold znz; split <;> simp
theorem midL_end (u : Bool) (m l : List Int) : znz u m l l.length = if u = true then l.map (mAt m) else l := by unfold znz; split <;> simp
theorem midL_at {m l : List Int} {k : Nat} {y : Int} (h : l[k]? = some y) : (znz true m l k)[k]? = some y := by
 unfold znz;have hk := (List.getElem?_eq_some_iff.1 h).1;rw [if_pos rfl, List.getElem?_append_right (by simp; omega)];simp
 rw [show min k l.length = k by omega, Nat.sub_self, Nat.add_zero];exact h
theorem midL_set {m l : List Int} {k : Nat} {y : Int} (h : l[k]? = some y) : (znz true m l k).set k (mAt m y) = znz true m l (k + 1) := by
 unfold znz;have hk := (List.getElem?_eq_some_iff.1 h).1;rw [if_pos rfl, if_pos rfl, List.set_append_right _ _ (by simp; omega), List.take_add_one, h, List.map_append];have hd : l.drop k = l[k] :: l.drop (k + 1) := List.drop_eq_getElem_cons hk;have hy : l[k] = y := by rw [List.getElem?_eq_getElem hk] at h; exact Option.some.inj h
 have hl : (List.map (mAt m) (l.take k)).length = k := by rw [List.length_map, List.length_take]; omega
 rw [hl, Nat.sub_self, hd, List.set_cons_zero];simp
theorem midL_no (m l : List Int) (k : Nat) : znz false m l k = l := by unfold znz; simp
theorem intsV_set (l : List Int) (k : Nat) (y : Int) : (yz l).set k (.int .i64 y) = yz (l.set k y) := by unfold yz; rw [List.map_set]
end Go.Proofs.YtppdgjlmeahimaaDoor
