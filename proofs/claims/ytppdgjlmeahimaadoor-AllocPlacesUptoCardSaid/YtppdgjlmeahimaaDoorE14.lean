/- Texts of this claim. -/
import Derived.Test.YtppdgjlmeahimaaDoorE13
namespace Go.Proofs.YtppdgjlmeahimaaDoor
open Go.RowKit
set_option maxRecDepth 100000
attribute [local irreducible] OW RS
theorem ext_none {w w' : World} (h : Ext (Mut [none]) w w') : Ext No w w' := h.mono fun q hq _ => by have := jo hq; cases this
theorem ret_int {w w' : World} {xs : List Int} {e : Ending} (h : zeq w xs e w') : ∃ A c, e = .returned (.slice A xs.length c) ∧ Below w.heap.size w w' := by
 obtain ⟨A, c, he, _, hb⟩ := h;exact ⟨A, c, he, hb⟩
section
variable (w : World) (p : Pl) (f : LFn) (n0 : Nat) (hF : FnA n0 w p f) (A : Option Addr) (c n1 : Nat) (m : List Int) (hm : IntsA n1 w A m) (n : Int) (hR : jq f m n) (hn1 : n1 ≤ w.heap.size)
include hF hm hR hn1
theorem place_any : Calls Tryd.prog 31 #[fnV p f, .slice A m.length c, .int .i64 n] w (RetFn w (zdq f m n)) := by
 have hn0 := hF.size;have hnl := hF.names.len;have hcl := hF.consts.len;have hil := hF.ins.len;have hrl := hF.rgs.len;have hreg := hR.2.1;obtain ⟨lo, hlo⟩ : ∃ lo, lo = w.heap.size := ⟨_, rfl⟩;refine qs Tryd.func31 rfl Tryd.ntmps31 rfl (srx (za rfl (vk rfl ?_)));rintro g1 wA B1 E1 G1;refine za rfl (qb zr27 ?_);rintro g6 wB B6 E2 G6
 have B1b : Blk wB g1 27 (fcC f p.an p.cn p.ac p.cc p.ai f.ins.length p.ci p.ar p.cr f.rgs.length f.regs) := B1.ext E2 (fun h => h.elim);refine rnx (srx (za rfl (zo Tryd.underlying27 rfl jp rfl B1b rfl (za rfl (qb zr27 ?_)))));rintro g7 wC B70 E3 G7;refine zw (qz jp rfl rfl B70 rfl rfl rfl ?_);rintro wD B7 E4;have h16 : g1 < g6 := by have := B1.lt; omega
 have h67 : g6 < g7 := by have := B6.lt; omega
 have hg7b : wB.heap.size ≤ g7 := G7;refine rnx (srx (mvx rfl (za rfl (zb Tryd.underlying27 rfl sz3 (by decide) rfl (zw (qi (cs' := fcC f p.an p.cn p.ac p.cc p.ai f.ins.length p.ci p.ar p.cr f.rgs.length n) sz3 rfl rfl B7 rfl rfl (Nat.le_of_ble_eq_true rfl) rfl ?_))))));rintro wE B7e E5
 have hX5 : Ext (fun q => wB.heap.size ≤ q) wB wE := ((E3.mono (Y := fun q => wB.heap.size ≤ q) (fun _ h _ => h.elim)).step E4 (fun q hq => Or.inl (show wB.heap.size ≤ q by have := qt hq; omega))).step E5 (fun q hq => Or.inl (show wB.heap.size ≤ q by have := qt hq; omega));have hs1 := E1.size;have hs2 := E2.size
 have hEB : Ext (fun q => lo ≤ q) w wB := (E1.mono (Y := fun q => lo ≤ q) (fun _ h _ => h.elim)).step E2 (fun _ h => h.elim);have hold : ∀ {X : Nat → Prop} {z g : Nat} {t : TypeId} {cs : Array Value}, g < wB.heap.size → X z → wB.heap.size ≤ z → z ≠ g := fun h1 _ h2 h3 => by omega
 have hB1 : ∀ {z}, Ext (fun q => wB.heap.size ≤ q) wB z → Blk z g1 27 (fcC f p.an p.cn p.ac p.cc p.ai f.ins.length p.ci p.ar p.cr f.rgs.length f.regs) := fun k => B1b.ext k (fun h => by have := B1b.lt; have h : wB.heap.size ≤ g1 := h; omega)
 have hFz : ∀ {z}, Ext (fun q => wB.heap.size ≤ q) wB z → FnA n0 z p f := fun k => hF.low (X := fun q => lo ≤ q) ⟨hEB.step k (fun q hq => Or.inl (show lo ≤ q by have hq : wB.heap.size ≤ q := hq; omega)), fun q hq => by have hq : lo ≤ q := hq; omega⟩
 have hmz : ∀ {z}, Ext (fun q => wB.heap.size ≤ q) wB z → IntsA n1 z A m := fun k => hm.low (X := fun q => lo ≤ q) ⟨hEB.step k (fun q hq => Or.inl (show lo ≤ q by have hq : wB.heap.size ≤ q := hq; omega)), fun q hq => by have hq : lo ≤ q := hq; omega⟩;obtain ⟨z6, hz6⟩ : ∃ z6, Blk wB g6 27 z6 ∧ z6.size = 10 := ⟨_, B6, rfl⟩
 have hB6 : ∀ {z}, Ext (fun q => wB.heap.size ≤ q) wB z → Blk z g6 27 z6 := fun k => hz6.1.ext k (fun h => by have := B6.lt; have h : wB.heap.size ≤ g6 := h; omega);have hg7X : ∀ q, Mut [some g7] q → wB.heap.size ≤ q := fun q hq => by have := qt hq; omega
 refine rnx (srx (za rfl (zb Tryd.underlying27 rfl sz22 (by decide) rfl (za rfl (zg Tryd.underlying22 rfl rfl (hB1 hX5) rfl (za rfl (ju (n' := f.names.length) (xs' := strV f.names) Tryd.underlying22 inf9 rfl (by decide) rfl (vi (w := wE) (base := wB.heap.size)) rfl ((hFz hX5).names.reads (hFz hX5).size) strV_one (by omega) rfl (by unfold maxLen; omega) (by omega) hX5.size ?_)))))))
 rintro an cn wF ON E6 N6;have E6' := ext_none E6;have B7f := B7e.ext E6' (fun h => h.elim);refine za rfl (zb Tryd.underlying27 rfl sz22 (by decide) rfl (zw (qi (cs' := fcC f an cn p.ac p.cc p.ai f.ins.length p.ci p.ar p.cr f.rgs.length n) sz22 rfl rfl B7f rfl rfl (Nat.le_of_ble_eq_true rfl) rfl ?_)));rintro wG B7g E7;have ON7 := ye ON B7f (by decide) E7
 have hX7 := (hX5.step E6' (fun _ h => h.elim)).step E7 (fun q hq => Or.inl (hg7X q hq))
 refine rnx (srx (za rfl (zb Tryd.underlying27 rfl sz23 (by decide) rfl (za rfl (zg Tryd.underlying23 rfl rfl (hB1 hX7) rfl (za rfl (ju (n' := f.consts.length) (xs' := conV f.consts) Tryd.underlying23 inf37 rfl (by decide) rfl (vi (w := wG) (base := wB.heap.size)) rfl ((hFz hX7).consts.reads (hFz hX7).size) conV_one (by omega) rfl (by unfold maxLen; omega) (by omega) hX7.size ?_)))))))
 rintro ac cc wH OC E8 N8;have E8' := ext_none E8;have B7h := B7g.ext E8' (fun h => h.elim);have ON8 := qf ON7 E8' (fun _ _ h => h.elim);refine za rfl (zb Tryd.underlying27 rfl sz23 (by decide) rfl (zw (qi (cs' := fcC f an cn ac cc p.ai f.ins.length p.ci p.ar p.cr f.rgs.length n) sz23 rfl rfl B7h rfl rfl (Nat.le_of_ble_eq_true rfl) rfl ?_)));rintro wI B7i E9
 have ON9 := ye ON8 B7h (by decide) E9;have OC9 := ye OC B7h (by decide) E9;have hX9 := (hX7.step E8' (fun _ h => h.elim)).step E9 (fun q hq => Or.inl (hg7X q hq))
 refine rnx (srx (za rfl (zb Tryd.underlying27 rfl gz (by decide) rfl (zw (qi (cs' := fcC f an cn ac cc none 0 0 p.ar p.cr f.rgs.length n) gz rfl rfl B7i rfl rfl (Nat.le_of_ble_eq_true rfl) rfl ?_)))));rintro wJ B7j E10;have ON10 := ye ON9 B7i (by decide) E10;have OC10 := ye OC9 B7i (by decide) E10
 have hX10 := hX9.step E10 (fun q hq => Or.inl (hg7X q hq));refine rnx (srx (za rfl (zb Tryd.underlying27 rfl ko (by decide) rfl (zw (qi (cs' := fcC f an cn ac cc none 0 0 none 0 0 n) ko rfl rfl B7j rfl rfl (Nat.le_of_ble_eq_true rfl) rfl ?_)))));rintro wK B7k E11;have hX11 := hX10.step E11 (fun q hq => Or.inl (hg7X q hq))
 have M0 : CM wB.heap.size g7 g6 z6 f an cn ac cc none 0 [] n none 0 [] wK := ⟨B7k, ye ON10 B7j (by decide) E11, ye OC10 B7j (by decide) E11, vi, InsO.nil, hB6 hX11, fun e => by omega⟩
 refine rnx (zp (srx (za rfl (zb Tryd.underlying27 rfl gz (by decide) rfl (za rfl (zg Tryd.underlying24 rfl rfl (hB1 hX11) rfl (za rfl (yw Tryd.underlying24 rfl (mvx rfl (rnx (yb (qu (ι := Nat × List IB × Option Addr × Nat) (fun (i, is, A2, c2) => [(1, .slice A m.length c), (3, .pointer (some ⟨g1, 0, none⟩)), (6, .pointer (some ⟨g6, 0, none⟩)), (7, .pointer (some ⟨g7, 0, none⟩)), (30, .slice p.ai f.ins.length p.ci), (31, .int .i64 (((f.ins.length : Nat)) : Int)), (32, .int .i64 ((i : Nat) : Int))]) (fun (i, is, A2, c2) w' => i ≤ f.ins.length ∧ Ext (fun q => wB.heap.size ≤ q) wB w' ∧ CM wB.heap.size g7 g6 z6 f an cn ac cc none 0 [] n A2 c2 is w' ∧ is.map (·.1) = (f.ins.map (qo m)).take i) (fun (i, _) => f.ins.length - i) (0, [], none, 0) ⟨rfl, rfl, rfl, rfl, rfl, rfl, rfl, trivial⟩ (⟨Nat.zero_le _, hX11, M0, rfl⟩) ?_))))))))))))
 rintro ⟨i, is, A2, c2⟩ w2 ⟨hil2, hEi, Mi, hisi⟩;have hisl : is.length = i := by have h := congrArg List.length hisi; rw [List.length_map, List.length_take, List.length_map] at h; omega
 refine srx (za rfl (yy rfl rfl (rnx (zp (zr rfl (fun hi => ?_) (fun hi => ?_))))))
 ·
  have hi := of_decide_eq_true hi;have hilt : i < f.ins.length := by omega
  obtain ⟨x, hx⟩ : ∃ x, f.ins[i]? = some x := ⟨_, List.getElem?_eq_getElem hilt⟩;have hFi := hFz hEi;obtain ⟨gi, oi, hAi, hgi, hcx⟩ := hFi.ins.row.at hx;obtain ⟨hI, B, cB, hcB, hl, hcells⟩ := hcx;obtain ⟨pd, pa, pb, pl⟩ := place_in hR (List.mem_of_getElem? hx);obtain ⟨wi, hwi⟩ : ∃ wi, wi = w2 := ⟨_, rfl⟩;subst hwi
  refine zq (zh (zp (yb (srx (za rfl (yi (j := i) Tryd.underlying24 vx (congrArg (fun z ↦ some (Value.slice z f.ins.length p.ci)) hAi) rfl rfl hilt (za rfl (jb (cs := (jr x B cB).toArray) Tryd.underlying41 rfl vx rfl rfl (fun j v hj ↦ hcells j v (by simpa using hj)) (za rfl (qb zpk ?_))))))))));rintro g9 wL B90 E13 G9
  refine zw (qz vx rfl rfl B90 rfl rfl rfl ?_);rintro wM B9 E14;have hg9 : ∀ q, Mut [some g9] q → wi.heap.size ≤ q := fun q hq => by have := qt hq; omega
  have hK14 : Ext (fun q => wi.heap.size ≤ q) wi wM := (E13.mono (Y := fun q => wi.heap.size ≤ q) (fun _ h _ => h.elim)).step E14 (fun q hq => Or.inl (hg9 q hq))
  refine rnx (srx (za rfl (zb Tryd.underlying41 rfl sz3 (by decide) rfl (za rfl (zg Tryd.underlying3 rfl rfl B9 rfl (za rfl (vo (cs := #[.int .i64 x.op, .int .i64 0, .int .i64 0, .int .i64 0, .int .i64 0, .int .i64 0, .slice none 0 0]) pl41 zpk rfl rfl (za rfl (yf en35 rfl (((ztz _ ⟨x.op, 0, 0, 0, 0, 0, []⟩ none 0 0 (IntsA.nil _ _ _) (Nat.zero_le _)).mono (fun _ _ h => ret_int h)).mono ?_))))))))))
  rintro e w3 ⟨Ar, cr0, rfl, hb⟩;refine ⟨_, rfl, ?_⟩;have E15 := Ext.of_below hb No;have B9b := B9.ext E15 (fun h => h.elim);have hK15 := hK14.step E15 (fun _ h => h.elim);obtain ⟨wX, hwX⟩ : ∃ wX, wX = w3 := ⟨_, rfl⟩;subst hwX
  refine za rfl (yw Tryd.underlying28 rfl (anx rfl (zp (zy 10 (.int .i64 ((oq x.op : Nat) : Int)) rfl ((by rw [bare_reads] : (.int .i64 ((((yu ⟨x.op, 0, 0, 0, 0, 0, []⟩).length : Nat)) : Int) : Value) = _)) (xv (ι := Unit) (fun _ => [(1, .slice A m.length c), (3, .pointer (some ⟨g1, 0, none⟩)), (6, .pointer (some ⟨g6, 0, none⟩)), (7, .pointer (some ⟨g7, 0, none⟩)), (9, .pointer (some ⟨g9, 0, none⟩)), (10, .int .i64 ((oq x.op : Nat) : Int)), (11, .bool (uL x.op)), (30, .slice p.ai f.ins.length p.ci), (31, .int .i64 (((f.ins.length : Nat)) : Int)), (32, .int .i64 ((i : Nat) : Int))]) (fun _ w' => Ext No wX w') ?_ ?_)))))
  ·
   refine zj (za rfl (zb Tryd.underlying41 rfl sz3 (by decide) rfl (za rfl (zg Tryd.underlying3 rfl rfl B9b rfl (za rfl (yn rfl rfl (mvx rfl (yx 44 rfl (fun h35 => ?_) (fun h35 => ?_)))))))))
   ·
    refine za rfl (zc rfl (za rfl (zc rfl (za rfl (zc rfl (za rfl (zc rfl (za rfl (zc rfl (za rfl (zc rfl (za rfl (zc rfl (za rfl (zc rfl (za rfl (zx rfl rfl (avx rfl (yc (zoz 11 (.bool (uL x.op)) rfl ((by rw [named_35 h35] : (.bool true : Value) = _)) ?_))))))))))))))))))))
    exact jh () ⟨rfl, rfl, rfl, rfl, rfl, rfl, rfl, rfl, rfl, rfl, trivial⟩ (Ext.refl _ _)
   ·
    refine onx rfl (zb Tryd.underlying41 rfl sz3 (by decide) rfl (onx rfl (zg Tryd.underlying3 rfl rfl B9b rfl (onx rfl (yl (cs := #[.int .i64 0]) Tryd.underlying28 sz3 zr3 (by decide) rfl (by rw [ym]; rfl) ?_)))));rintro gq wY Bq Ez Gq
    refine onx rfl (vo (cs := #[.int .i64 x.op, .int .i64 0, .int .i64 0, .int .i64 0, .int .i64 0, .int .i64 0, .slice (some ⟨gq, 0, none⟩) 1 1]) pl41 zpk rfl rfl (onx rfl (yf en35 rfl (((ztz _ ⟨x.op, 0, 0, 0, 0, 0, [0]⟩ (some ⟨gq, 0, none⟩) 1 _ (yfv (xs := [0]) Bq Bq.lt (by show 8 * 1 ≤ _; decide) (fun y hy => by rw [List.mem_singleton.1 hy]; decide)) (Nat.le_refl _)).mono (fun _ _ h => ret_int h)).mono ?_))))
    rintro e w6 ⟨Ar2, cr2, rfl, hb⟩;refine ⟨_, rfl, (onx rfl (yw Tryd.underlying28 rfl (onx rfl (zl rfl (onx rfl (xb rfl rfl (za rfl (yd rfl rfl (avx rfl (yc (zoz 11 (.bool (uL x.op)) rfl ((by rw [← named_ne h35] : (.bool (decide (((oq x.op : Nat) : Int) < ((((yu ⟨x.op, 0, 0, 0, 0, 0, [0]⟩).length : Nat)) : Int))) : Value) = _)) ?_)))))))))))⟩
    exact jh () ⟨rfl, rfl, rfl, rfl, rfl, rfl, rfl, rfl, rfl, rfl, trivial⟩ (Ez.trans (Ext.of_below hb No))
  ·
   rintro _ w5 hEm;have B9c := B9b.ext hEm (fun h => h.elim);have hKm := hK15.step hEm (fun _ h => h.elim);have hlm : IntsA n0 w5 B x.l := ((((hl.low (X := No) ⟨E13, fun _ h => h.elim⟩).low (X := Mut [some g9]) ⟨E14, fun q hq => by have := hg9 q hq; have := hFi.size; omega⟩).low (X := No) ⟨E15, fun _ h => h.elim⟩)).low (X := No) ⟨hEm, fun _ h => h.elim⟩
   refine srx (za rfl (zb Tryd.underlying41 rfl gu (by decide) rfl (za rfl (zg Tryd.underlying28 rfl rfl B9c rfl (za rfl (ju (n' := x.l.length) (xs' := yz x.l) Tryd.underlying28 ou rfl (by decide) rfl (vi (w := w5) (base := wi.heap.size)) rfl (hlm.reads (by have := hFi.size; have := hKm.size; omega)) kj (by omega) rfl (by unfold maxLen; omega) (by omega) hKm.size ?_))))))
   rintro A4 c4 wN OL E16 N16;have E16' := ext_none E16;have B9d := B9c.ext E16' (fun h => h.elim);have hK16 := hKm.step E16' (fun _ h => h.elim);have OL0 : wN.ownsRow wi.heap.size 3 1 (.slice A4 x.l.length c4) x.l.length (yz (znz (uL x.op) m x.l 0)) := by rw [midL_0]; exact OL
   refine anx rfl (zp (srx (mvx rfl (za rfl (yw Tryd.underlying28 rfl (mvx rfl (rnx (yb (qu (ι := Nat) (fun k => [(1, .slice A m.length c), (3, .pointer (some ⟨g1, 0, none⟩)), (6, .pointer (some ⟨g6, 0, none⟩)), (7, .pointer (some ⟨g7, 0, none⟩)), (9, .pointer (some ⟨g9, 0, none⟩)), (10, .int .i64 ((oq x.op : Nat) : Int)), (11, .bool (uL x.op)), (12, .slice A4 x.l.length c4), (30, .slice p.ai f.ins.length p.ci), (31, .int .i64 (((f.ins.length : Nat)) : Int)), (32, .int .i64 ((i : Nat) : Int)), (58, .int .i64 (((x.l.length : Nat)) : Int)), (59, .int .i64 ((k : Nat) : Int))]) (fun k w' => k ≤ x.l.length ∧ Ext (fun q => wi.heap.size ≤ q) wi w' ∧ Blk w' g9 41 (jr x B cB).toArray ∧ w'.ownsRow wi.heap.size 3 1 (.slice A4 x.l.length c4) x.l.length (yz (znz (uL x.op) m x.l k))) (fun k => x.l.length - k) 0 ⟨rfl, rfl, rfl, rfl, rfl, rfl, rfl, rfl, rfl, rfl, rfl, rfl, rfl, trivial⟩ (⟨Nat.zero_le _, hK16, B9d, OL0⟩) ?_)))))))))
   rintro k w8 ⟨hkl, hKk, B9k, OLk⟩;refine srx (za rfl (yy rfl rfl (rnx (zp (zr rfl (fun hk => ?_) (fun hk => ?_))))))
   ·
    have hk := of_decide_eq_true hk;have hklt : k < x.l.length := by omega
    obtain ⟨y, hy⟩ : ∃ y, x.l[k]? = some y := ⟨_, List.getElem?_eq_getElem hklt⟩;refine zq (zh (zp (yb (srx (mvx rfl (anx rfl (srx (mvx rfl (rnx (zr rfl (fun hu => ?_) (fun hu => ?_)))))))))))
    ·
     have hrg := pl hu y (List.mem_of_getElem? hy);rw [hu] at OLk;obtain ⟨g4, hA4, hg4a, hg4b, hc4⟩ := jm OLk (by omega);have hcy := hc4 k (.int .i64 y) (by unfold yz; rw [List.getElem?_map, midL_at hy]; rfl);have hmk := hmz (hEi.step hKk (fun q hq => Or.inl (show wB.heap.size ≤ q by have := hEi.size; have hq : wi.heap.size ≤ q := hq; omega)))
     obtain ⟨gm, om, hAm, hgm, hcm⟩ := hmk.cell (xe hR hrg.1 hrg.2)
     refine zj (mvx rfl (mvx rfl (mvx rfl (mvx rfl (mvx rfl (za rfl (zk (j := k) Tryd.underlying28 sz3 (congrArg (fun z ↦ some (Value.slice z x.l.length c4)) hA4) rfl rfl hklt (za rfl (zt Tryd.underlying3 rfl rfl (by rw [Nat.zero_add]; exact hcy) (za rfl (zk (j := y.toNat) Tryd.underlying28 sz3 (congrArg (fun z ↦ some (Value.slice z m.length c)) hAm) rfl (by omega) (by omega) (za rfl (zt Tryd.underlying3 rfl rfl hcm (za rfl (zk (j := k) Tryd.underlying28 sz3 (congrArg (fun z ↦ some (Value.slice z x.l.length c4)) hA4) rfl rfl hklt ?_)))))))))))))))
     rw [hA4] at OLk;refine zw (ow_storeO (xs' := yz (znz (uL x.op) m x.l (k + 1))) sz3 rfl rfl OLk hklt rfl rfl (by rw [intsV_set, hu, midL_set hy]) ?_);rintro wO OLs Es;have B9s := qn B9k OLk (by decide) (by exact Es);refine yc (zf (zh (zj (za rfl (qc rfl rfl (yg (by omega)) (mvx rfl (yc ?_)))))))
     exact yt (k + 1) (by show x.l.length - (k + 1) < x.l.length - k; omega) ⟨rfl, rfl, rfl, rfl, rfl, rfl, rfl, rfl, rfl, rfl, rfl, rfl, rfl, trivial⟩ (⟨hklt, hKk.step Es (fun q hq => Or.inl (show wi.heap.size ≤ q by have := qt hq; omega)), B9s, by rw [hA4]; exact OLs⟩)
    ·
     refine zq (zf (zh (zj (za rfl (qc rfl rfl (yg (by omega)) (mvx rfl (yc ?_)))))));exact yt (k + 1) (by show x.l.length - (k + 1) < x.l.length - k; omega) ⟨rfl, rfl, rfl, rfl, rfl, rfl, rfl, rfl, rfl, rfl, rfl, rfl, rfl, trivial⟩ (⟨hklt, hKk, B9k, by rw [hu, midL_no] at OLk ⊢; exact OLk⟩)
   ·
    have hk := of_decide_eq_false hk;have hke : k = x.l.length := by omega
    rw [hke, midL_end] at OLk;obtain ⟨wP, hwP⟩ : ∃ wP, wP = w8 := ⟨_, rfl⟩;subst hwP
    refine qe (zm (zm (ya (zh (zp (zp (xv (ι := Unit) (fun _ => [(1, .slice A m.length c), (3, .pointer (some ⟨g1, 0, none⟩)), (6, .pointer (some ⟨g6, 0, none⟩)), (7, .pointer (some ⟨g7, 0, none⟩)), (9, .pointer (some ⟨g9, 0, none⟩)), (10, .int .i64 ((oq x.op : Nat) : Int)), (12, .slice A4 x.l.length c4), (30, .slice p.ai f.ins.length p.ci), (31, .int .i64 (((f.ins.length : Nat)) : Int)), (32, .int .i64 ((i : Nat) : Int)), (82, .bool (uD x.op))]) (fun _ w' => Ext No wP w') ?_ ?_)))))))
    ·
     refine zj (za rfl (zb Tryd.underlying41 rfl sz3 (by decide) rfl (za rfl (zg Tryd.underlying3 rfl rfl B9k rfl (za rfl (vb rfl rfl (mvx rfl (yx 77 rfl (fun h35 => ?_) (fun h35 => ?_)))))))))
     ·
      refine onx rfl (zo Tryd.underlying41 rfl vx rfl B9k rfl (onx rfl (yf en39 rfl (((zmz _ x B cB n0 (hl.low (X := fun q => wi.heap.size ≤ q) ⟨hKk, fun q hq => by have := hFi.size; have hq : wi.heap.size ≤ q := hq; omega⟩) (by have := hFi.size; have := hKk.size; omega)).mono (fun _ _ h => ret_int h)).mono ?_))));rintro e w11 ⟨Aw, cw, rfl, hb⟩
      refine ⟨_, rfl, (onx rfl (yw Tryd.underlying28 rfl (onx rfl (xb rfl rfl (za rfl (zx rfl rfl (yc (zoz 82 (.bool (uD x.op)) rfl ((by rw [← wr_ne h35] : (.bool (decide (0 < ((((yj x).length : Nat)) : Int))) : Value) = _)) ?_))))))))⟩;exact jh () ⟨rfl, rfl, rfl, rfl, rfl, rfl, rfl, rfl, rfl, rfl, rfl, trivial⟩ (Ext.of_below hb No)
     ·
      refine za rfl (zc rfl (za rfl (zc rfl (za rfl (zc rfl (za rfl (zc rfl (za rfl (yd rfl rfl (yc (zoz 82 (.bool (uD x.op)) rfl ((by rw [wr_35 h35] : (.bool false : Value) = _)) ?_)))))))))));exact jh () ⟨rfl, rfl, rfl, rfl, rfl, rfl, rfl, rfl, rfl, rfl, rfl, trivial⟩ (Ext.refl _ _)
    ·
     rintro _ w10 hEn;have B9n := B9k.ext hEn (fun h => h.elim);have OLn := qf OLk hEn (fun _ _ h => h.elim);have hKn := hKk.step hEn (fun _ h => h.elim);obtain ⟨wQ, hwQ⟩ : ∃ wQ, wQ = w10 := ⟨_, rfl⟩;subst hwQ;have hmq := hmz (hEi.step hKn (fun q hq => Or.inl (show wB.heap.size ≤ q by have := hEi.size; have hq : wi.heap.size ≤ q := hq; omega)))
     refine xv (ι := Unit) (fun _ => [(1, .slice A m.length c), (3, .pointer (some ⟨g1, 0, none⟩)), (6, .pointer (some ⟨g6, 0, none⟩)), (7, .pointer (some ⟨g7, 0, none⟩)), (9, .pointer (some ⟨g9, 0, none⟩)), (10, .int .i64 ((oq x.op : Nat) : Int)), (12, .slice A4 x.l.length c4), (30, .slice p.ai f.ins.length p.ci), (31, .int .i64 (((f.ins.length : Nat)) : Int)), (32, .int .i64 ((i : Nat) : Int))]) (fun _ w' => Ext (Mut [some g9]) wQ w' ∧ Blk w' g9 41 (jr ⟨x.op, (qo m x).d, x.a, x.b, x.t, x.k, x.l⟩ B cB).toArray) ?_ ?_
     ·
      refine zr rfl (fun hu => ?_) (fun hu => ?_)
      ·
       refine zj (mvx rfl (za rfl (zb Tryd.underlying41 rfl sz3 (by decide) rfl (za rfl (zg Tryd.underlying3 rfl rfl B9n rfl ?_)))));have hrg := pd hu;obtain ⟨gm, om, hAm, hgm, hcm⟩ := hmq.cell (xe hR hrg.1 hrg.2)
       refine za rfl (zk (j := (x.d).toNat) Tryd.underlying28 sz3 (congrArg (fun z ↦ some (Value.slice z m.length c)) hAm) rfl (by show x.d = (((x.d).toNat : Nat) : Int); omega) (by omega) (za rfl (zt Tryd.underlying3 rfl rfl hcm (za rfl (zb Tryd.underlying41 rfl sz3 (by decide) rfl (zw (qi (cs' := (jr ⟨x.op, mAt m x.d, x.a, x.b, x.t, x.k, x.l⟩ B cB).toArray) sz3 rfl rfl B9n rfl rfl (Nat.le_of_ble_eq_true rfl) rfl ?_)))))))
       rintro wV Bv Ev;refine yc ?_;exact jh () ⟨rfl, rfl, rfl, rfl, rfl, rfl, rfl, rfl, rfl, rfl, trivial⟩ (⟨Ev, by rw [show (qo m x).d = mAt m x.d from if_pos hu]; exact Bv⟩)
      ·
       refine zq ?_;exact jh () ⟨rfl, rfl, rfl, rfl, rfl, rfl, rfl, rfl, rfl, rfl, trivial⟩ (⟨Ext.refl _ _, by rw [show (qo m x).d = x.d from if_neg (by rw [hu]; decide)]; exact B9n⟩)
     ·
      rintro _ w13 ⟨hEq, B9q⟩;have OLq := ye OLn B9n (by decide) hEq;have hKq := hKn.step hEq (fun q hq => Or.inl (hg9 q hq));obtain ⟨wR, hwR⟩ : ∃ wR, wR = w13 := ⟨_, rfl⟩;subst hwR;have hmr := hmz (hEi.step hKq (fun q hq => Or.inl (show wB.heap.size ≤ q by have := hEi.size; have hq : wi.heap.size ≤ q := hq; omega)))
      refine zp (srx (mvx rfl (za rfl (xb rfl rfl (rnx (zy 90 (.bool (uA x.op)) rfl ((by rw [bare_0] : (.bool (decide (0 < ((oq x.op : Nat) : Int))) : Value) = _)) (xv (ι := Unit) (fun _ => [(1, .slice A m.length c), (3, .pointer (some ⟨g1, 0, none⟩)), (6, .pointer (some ⟨g6, 0, none⟩)), (7, .pointer (some ⟨g7, 0, none⟩)), (9, .pointer (some ⟨g9, 0, none⟩)), (10, .int .i64 ((oq x.op : Nat) : Int)), (12, .slice A4 x.l.length c4), (30, .slice p.ai f.ins.length p.ci), (31, .int .i64 (((f.ins.length : Nat)) : Int)), (32, .int .i64 ((i : Nat) : Int))]) (fun _ w' => Ext (Mut [some g9]) wR w' ∧ Blk w' g9 41 (jr ⟨x.op, (qo m x).d, (qo m x).a, x.b, x.t, x.k, x.l⟩ B cB).toArray) ?_ ?_)))))))
      ·
       refine zr rfl (fun hu => ?_) (fun hu => ?_)
       ·
        refine zj (mvx rfl (za rfl (zb Tryd.underlying41 rfl sz3 (by decide) rfl (za rfl (zg Tryd.underlying3 rfl rfl B9q rfl ?_)))));have hrg := pa hu;obtain ⟨gm, om, hAm, hgm, hcm⟩ := hmr.cell (xe hR hrg.1 hrg.2)
        refine za rfl (zk (j := (x.a).toNat) Tryd.underlying28 sz3 (congrArg (fun z ↦ some (Value.slice z m.length c)) hAm) rfl (by show x.a = (((x.a).toNat : Nat) : Int); omega) (by omega) (za rfl (zt Tryd.underlying3 rfl rfl hcm (za rfl (zb Tryd.underlying41 rfl sz3 (by decide) rfl (zw (qi (cs' := (jr ⟨x.op, (qo m x).d, mAt m x.a, x.b, x.t, x.k, x.l⟩ B cB).toArray) sz3 rfl rfl B9q rfl rfl (Nat.le_of_ble_eq_true rfl) rfl ?_)))))))
        rintro wV Bv Ev;refine yc ?_;exact jh () ⟨rfl, rfl, rfl, rfl, rfl, rfl, rfl, rfl, rfl, rfl, trivial⟩ (⟨Ev, by rw [show (qo m x).a = mAt m x.a from if_pos hu]; exact Bv⟩)
       ·
        refine zq ?_;exact jh () ⟨rfl, rfl, rfl, rfl, rfl, rfl, rfl, rfl, rfl, rfl, trivial⟩ (⟨Ext.refl _ _, by rw [show (qo m x).a = x.a from if_neg (by rw [hu]; decide)]; exact B9q⟩)
      ·
       rintro _ w15 ⟨hEr, B9r⟩;have OLr := ye OLq B9q (by decide) hEr;have hKr := hKq.step hEr (fun q hq => Or.inl (hg9 q hq));obtain ⟨wS, hwS⟩ : ∃ wS, wS = w15 := ⟨_, rfl⟩;subst hwS;have hms := hmz (hEi.step hKr (fun q hq => Or.inl (show wB.heap.size ≤ q by have := hEi.size; have hq : wi.heap.size ≤ q := hq; omega)))
       refine zp (srx (mvx rfl (za rfl (xb rfl rfl (rnx (zy 98 (.bool (uB x.op)) rfl ((by rw [bare_1] : (.bool (decide (1 < ((oq x.op : Nat) : Int))) : Value) = _)) (xv (ι := Unit) (fun _ => [(1, .slice A m.length c), (3, .pointer (some ⟨g1, 0, none⟩)), (6, .pointer (some ⟨g6, 0, none⟩)), (7, .pointer (some ⟨g7, 0, none⟩)), (9, .pointer (some ⟨g9, 0, none⟩)), (10, .int .i64 ((oq x.op : Nat) : Int)), (12, .slice A4 x.l.length c4), (30, .slice p.ai f.ins.length p.ci), (31, .int .i64 (((f.ins.length : Nat)) : Int)), (32, .int .i64 ((i : Nat) : Int))]) (fun _ w' => Ext (Mut [some g9]) wS w' ∧ Blk w' g9 41 (jr ⟨x.op, (qo m x).d, (qo m x).a, (qo m x).b, x.t, x.k, x.l⟩ B cB).toArray) ?_ ?_)))))))
       ·
        refine zr rfl (fun hu => ?_) (fun hu => ?_)
        ·
         refine zj (mvx rfl (za rfl (zb Tryd.underlying41 rfl sz3 (by decide) rfl (za rfl (zg Tryd.underlying3 rfl rfl B9r rfl ?_)))));have hrg := pb hu;obtain ⟨gm, om, hAm, hgm, hcm⟩ := hms.cell (xe hR hrg.1 hrg.2)
         refine za rfl (zk (j := (x.b).toNat) Tryd.underlying28 sz3 (congrArg (fun z ↦ some (Value.slice z m.length c)) hAm) rfl (by show x.b = (((x.b).toNat : Nat) : Int); omega) (by omega) (za rfl (zt Tryd.underlying3 rfl rfl hcm (za rfl (zb Tryd.underlying41 rfl sz3 (by decide) rfl (zw (qi (cs' := (jr ⟨x.op, (qo m x).d, (qo m x).a, mAt m x.b, x.t, x.k, x.l⟩ B cB).toArray) sz3 rfl rfl B9r rfl rfl (Nat.le_of_ble_eq_true rfl) rfl ?_)))))))
         rintro wV Bv Ev;refine yc ?_;exact jh () ⟨rfl, rfl, rfl, rfl, rfl, rfl, rfl, rfl, rfl, rfl, trivial⟩ (⟨Ev, by rw [show (qo m x).b = mAt m x.b from if_pos hu]; exact Bv⟩)
        ·
         refine zq ?_;exact jh () ⟨rfl, rfl, rfl, rfl, rfl, rfl, rfl, rfl, rfl, rfl, trivial⟩ (⟨Ext.refl _ _, by rw [show (qo m x).b = x.b from if_neg (by rw [hu]; decide)]; exact B9r⟩)
       ·
        rintro _ w17 ⟨hEs, B9s⟩;have OLs := ye OLr B9r (by decide) hEs;have hKs := hKr.step hEs (fun q hq => Or.inl (hg9 q hq));have hpl : (qo m x).l.length = x.l.length := by
         show (if uL x.op = true then x.l.map (mAt m) else x.l).length = _
         split
         · rw [List.length_map]
         · rfl
        obtain ⟨x9, hx9⟩ : ∃ x9 : IB, x9 = (qo m x, A4, c4) := ⟨_, rfl⟩
        refine srx (mvx rfl (za rfl (zb Tryd.underlying41 rfl gu (by decide) rfl (zw (qi (cs' := (jr (qo m x) A4 c4).toArray) gu rfl rfl B9s rfl rfl (Nat.le_of_ble_eq_true rfl) (by rw [show (jr (qo m x) A4 c4) = [.int .i64 x.op, .int .i64 (qo m x).d, .int .i64 (qo m x).a, .int .i64 (qo m x).b, .int .i64 x.t, .int .i64 x.k, .slice A4 (qo m x).l.length c4] from rfl, hpl]; rfl) ?_)))))
        rintro wT B9t E20;have OLt := ye OLs B9s (by decide) E20;have hKt := hKs.step E20 (fun q hq => Or.inl (hg9 q hq));have Mt := Mi.late hKt (fun _ h => h);have hEt := hEi.step hKt (fun q hq => Or.inl (show wB.heap.size ≤ q by have := hEi.size; have hq : wi.heap.size ≤ q := hq; omega));have hO9 : wT.ownsRow wB.heap.size 3 1 (liV x9) x9.1.l.length (yz x9.1.l) := by
         rw [hx9];show wT.ownsRow wB.heap.size 3 1 (.slice A4 (qo m x).l.length c4) (qo m x).l.length (yz (qo m x).l)
         rw [hpl];exact vw OLt hEi.size
        have hap9 : ∀ y ∈ is, ∀ q, (liV y).ownBlock = some q → (liV x9).ownBlock ≠ some q := fun y hy q hq h9 => by
         have h1 := Mi.lt hy hq;rw [hx9] at h9;have h9 : (Value.slice A4 (qo m x).l.length c4).ownBlock = some q := h9;rw [hpl] at h9;have h2 := jj OLt q h9;omega
        have hl9 : (is ++ [x9]).length = is.length + 1 := by rw [List.length_append]; rfl
        refine rnx (zj (za rfl (zb Tryd.underlying27 rfl gz (by decide) rfl (za rfl (zg Tryd.underlying24 rfl rfl Mt.fb rfl (za rfl (zo Tryd.underlying41 rfl vx rfl B9t rfl (za rfl (yl (cs := #[.int .i64 x.op, .int .i64 (qo m x).d, .int .i64 (qo m x).a, .int .i64 (qo m x).b, .int .i64 x.t, .int .i64 x.k, .slice A4 (qo m x).l.length c4]) Tryd.underlying24 vx zpk (by decide) rfl (fill1x7 (.int .i64 x.op) (.int .i64 (qo m x).d) (.int .i64 (qo m x).a) (.int .i64 (qo m x).b) (.int .i64 x.t) (.int .i64 x.k) (.slice A4 (qo m x).l.length c4)) ?_)))))))))
        rintro g10 wU B10 E21 G10;have M4 := Mt.no E21;have hO21 := qf hO9 E21 (fun _ _ h => h.elim)
        refine za rfl (ju (n' := (is ++ [x9]).length) (xs' := kc (is ++ [x9])) Tryd.underlying24 inf41 rfl (by decide) rfl M4.ins.i rfl (vn B10 B10.lt rfl) (by simp [Value.oneCell']) hl9.symm (by rw [← insCs_add, hx9]; rfl) (by rw [hl9]; unfold maxLen; omega) (by rw [hl9]; omega) (by have := hEt.size; have := E21.size; omega) ?_);rintro A5 c5 wV O5 E22 N5
        have Bf := qn M4.fb M4.ins.i (by decide) E22;refine za rfl (zb Tryd.underlying27 rfl gz (by decide) rfl (zw (qi (cs' := fcC f an cn ac cc A5 (is ++ [x9]).length c5 none 0 0 n) gz rfl rfl Bf rfl rfl (Nat.le_of_ble_eq_true rfl) rfl ?_)));rintro wW Bs E23;have M5 := M4.put hO21 hap9 O5 E22 Bs E23
        have hE23 := ((hEt.step E21 (fun _ h => h.elim)).step E22 (fun q hq => Or.inl (show wB.heap.size ≤ q from ycv M4.ins.i q hq))).step E23 (fun q hq => Or.inl (hg7X q hq));refine yc (zf (zh (zj (za rfl (qc rfl rfl (yg (by omega)) (mvx rfl (yc ?_)))))))
        exact yt (i + 1, is ++ [x9], A5, c5) (by show f.ins.length - (i + 1) < f.ins.length - i; omega) ⟨rfl, rfl, rfl, rfl, rfl, rfl, rfl, trivial⟩ (⟨hilt, hE23, M5, by rw [List.map_append, hisi, List.take_add_one, List.getElem?_map, hx, hx9]; rfl⟩)
 ·
  have hi := of_decide_eq_false hi;have hie : i = f.ins.length := by omega
  rw [hie, List.take_of_length_le (by rw [List.length_map]; exact Nat.le_refl _)] at hisi
  refine qe (zm (zm (ya (zh (zp (srx (za rfl (zb Tryd.underlying27 rfl ko (by decide) rfl (za rfl (zg Tryd.underlying25 rfl rfl (hB1 hEi) rfl (za rfl (yw Tryd.underlying25 rfl (mvx rfl (rnx (yb (qu (ι := Nat × List LReg × Option Addr × Nat) (fun (j, rs, A3, c3) => [(1, .slice A m.length c), (6, .pointer (some ⟨g6, 0, none⟩)), (7, .pointer (some ⟨g7, 0, none⟩)), (115, .slice p.ar f.rgs.length p.cr), (116, .int .i64 (((f.rgs.length : Nat)) : Int)), (117, .int .i64 ((j : Nat) : Int))]) (fun (j, rs, A3, c3) w' => j ≤ f.rgs.length ∧ Ext (fun q => wB.heap.size ≤ q) wB w' ∧ CM wB.heap.size g7 g6 z6 f an cn ac cc A3 c3 rs n A2 c2 is w' ∧ rs = (f.rgs.map (xy m)).take j) (fun (j, _) => f.rgs.length - j) (0, [], none, 0) ⟨rfl, rfl, rfl, rfl, rfl, rfl, trivial⟩ (⟨Nat.zero_le _, hEi, Mi, rfl⟩) ?_))))))))))))))))
  rintro ⟨j, rs, A3, c3⟩ w19 ⟨hjl, hEj, Mj, hrs⟩;have hrsl : rs.length = j := by rw [hrs, List.length_take, List.length_map]; omega
  refine srx (za rfl (yy rfl rfl (rnx (zp (zr rfl (fun hj => ?_) (fun hj => ?_))))))
  ·
   have hj := of_decide_eq_true hj;have hjlt : j < f.rgs.length := by omega
   obtain ⟨r, hr⟩ : ∃ r, f.rgs[j]? = some r := ⟨_, List.getElem?_eq_getElem hjlt⟩;have hFj := hFz hEj;obtain ⟨gr, ro, hAr, hgr, hcr⟩ := hFj.rgs.row.at hr;have hrg := zxq hR.1 (List.mem_of_getElem? hr);obtain ⟨wi, hwi⟩ : ∃ wi, wi = w19 := ⟨_, rfl⟩;subst hwi
   refine zq (zh (zp (yb (srx (za rfl (yi (j := j) Tryd.underlying25 ku (congrArg (fun z ↦ some (Value.slice z f.rgs.length p.cr)) hAr) rfl rfl hjlt (za rfl (jb (cs := (zqz r).toArray) Tryd.underlying50 rfl ku rfl rfl (fun j v hj ↦ hcr j v (by simpa using hj)) (za rfl (qb zr50 ?_))))))))));rintro g9 wL B90 E13 G9
   refine zw (qz ku rfl rfl B90 rfl rfl rfl ?_);rintro wM B9 E14;have hg9 : ∀ q, Mut [some g9] q → wi.heap.size ≤ q := fun q hq => by have := qt hq; omega
   have hK14 : Ext (fun q => wi.heap.size ≤ q) wi wM := (E13.mono (Y := fun q => wi.heap.size ≤ q) (fun _ h _ => h.elim)).step E14 (fun q hq => Or.inl (hg9 q hq));have hmj := hmz (hEj.step hK14 (fun q hq => Or.inl (show wB.heap.size ≤ q by have := hEj.size; have hq : wi.heap.size ≤ q := hq; omega)));obtain ⟨gm, om, hAm, hgm, hcm⟩ := hmj.cell (xe hR hrg.2.2.2.2.2.1 hrg.2.2.2.2.2.2)
   refine rnx (srx (mvx rfl (za rfl (zb Tryd.underlying50 rfl sz3 (by decide) rfl (za rfl (zg Tryd.underlying3 rfl rfl B9 rfl (za rfl (zk (j := r.d.toNat) Tryd.underlying28 sz3 (congrArg (fun z ↦ some (Value.slice z m.length c)) hAm) rfl (by show r.d = ((r.d.toNat : Nat) : Int); omega) (by omega) (za rfl (zt Tryd.underlying3 rfl rfl hcm (za rfl (zb Tryd.underlying50 rfl sz3 (by decide) rfl (zw (qi (cs' := (zqz (xy m r)).toArray) sz3 rfl rfl B9 rfl rfl (Nat.le_of_ble_eq_true rfl) rfl ?_))))))))))))))
   rintro wN B9n E15;have hK15 := hK14.step E15 (fun q hq => Or.inl (hg9 q hq));have Mt := Mj.late hK15 (fun _ h => h);have hEt := hEj.step hK15 (fun q hq => Or.inl (show wB.heap.size ≤ q by have := hEj.size; have hq : wi.heap.size ≤ q := hq; omega));have hl9 : (rs ++ [xy m r]).length = rs.length + 1 := by rw [List.length_append]; rfl
   refine rnx (zj (za rfl (zb Tryd.underlying27 rfl ko (by decide) rfl (za rfl (zg Tryd.underlying25 rfl rfl Mt.fb rfl (za rfl (zo Tryd.underlying50 rfl ku rfl B9n rfl (za rfl (yl (cs := #[.int .i64 r.fr, .int .i64 r.to, .int .i64 r.tg, .int .i64 (mAt m r.d)]) Tryd.underlying25 ku zr50 (by decide) rfl (by rw [ym]; rfl) ?_)))))))))
   rintro g10 wU B10 E21 G10;have M4 := Mt.no E21
   refine za rfl (ju (n' := (rs ++ [xy m r]).length) (xs' := rgsV (rs ++ [xy m r])) Tryd.underlying25 inf50 rfl (by decide) rfl M4.rgs rfl (vn B10 B10.lt rfl) (by simp [Value.oneCell']) hl9.symm (by unfold rgsV; rw [List.flatMap_append]; rfl) (by rw [hl9]; unfold maxLen; omega) (by rw [hl9]; omega) (by have := hEt.size; have := E21.size; omega) ?_)
   rintro A5 c5 wV O5 E22 N5;have Bf := qn M4.fb M4.rgs (by decide) E22;refine za rfl (zb Tryd.underlying27 rfl ko (by decide) rfl (zw (qi (cs' := fcC f an cn ac cc A2 is.length c2 A5 c5 (rs ++ [xy m r]).length n) ko rfl rfl Bf rfl rfl (Nat.le_of_ble_eq_true rfl) rfl ?_)));rintro wW Bs E23;have M5 := M4.putR O5 E22 Bs E23
   have hE23 := ((hEt.step E21 (fun _ h => h.elim)).step E22 (fun q hq => Or.inl (show wB.heap.size ≤ q from ycv M4.rgs q hq))).step E23 (fun q hq => Or.inl (hg7X q hq));refine yc (zf (zh (zj (za rfl (qc rfl rfl (yg (by omega)) (mvx rfl (yc ?_)))))))
   exact yt (j + 1, rs ++ [xy m r], A5, c5) (by show f.rgs.length - (j + 1) < f.rgs.length - j; omega) ⟨rfl, rfl, rfl, rfl, rfl, rfl, trivial⟩ (⟨hjlt, hE23, M5, by rw [hrs, List.take_add_one, List.getElem?_map, hr]; rfl⟩)
  ·
   have hj := of_decide_eq_false hj;have hje : j = f.rgs.length := by omega
   rw [hje, List.take_of_length_le (by rw [List.length_map]; exact Nat.le_refl _)] at hrs;refine qe (zm (zm (ya (zh (srx (za rfl (zo Tryd.underlying27 rfl jp rfl Mj.fb rfl (zw (qz jp rfl rfl Mj.gb rfl rfl hz6.2.symm ?_)))))))));rintro wZ Bz EZ;have hbase : lo ≤ wB.heap.size := by omega
   have hFO : FnO lo wZ ⟨an, cn, ac, cc, A2, c2, A3, c3, is⟩ (zdq f m n) := ⟨vw (ye Mj.names Mj.gb (by decide) EZ) hbase, vw (ye Mj.consts Mj.gb (by decide) EZ) hbase, ⟨vw (ye Mj.ins.i Mj.gb (by decide) EZ) hbase, fun x hx => vw (ye (Mj.ins.l x hx) Mj.gb (by decide) EZ) hbase, Mj.ins.ap⟩, hisi, by
    have h := vw (ye Mj.rgs Mj.gb (by decide) EZ) hbase;rw [hrs] at h;exact h⟩
   have hFin := (hEB.step hEj (fun q hq => Or.inl (show lo ≤ q by have hq : wB.heap.size ≤ q := hq; omega))).step EZ (fun q hq => Or.inl (show lo ≤ q by have := qt hq; omega));have hisn : is.length = (f.ins.map (qo m)).length := by rw [← hisi, List.length_map]
   have hval : Value.agg (fcC f an cn ac cc A2 is.length c2 A3 c3 rs.length n) = fnV (QP.pl ⟨an, cn, ac, cc, A2, c2, A3, c3, is⟩) (zdq f m n) := by rw [hisn, hrs]; rfl
   refine rnx (zv (zu (rs := [.cell 6 27]) (vs := [_]) rfl ⟨⟨_, rfl, qj Tryd.underlying27 rfl jp Bz rfl⟩, trivial⟩ ?_));exact ⟨⟨an, cn, ac, cc, A2, c2, A3, c3, is⟩, by rw [← hval]; rfl, hlo ▸ hFO, hFin.below (fun q h => by rw [hlo] at h; exact h)⟩
end
end Go.Proofs.YtppdgjlmeahimaaDoor
namespace Go.Proofs.YtppdgjlmeahimaaDoor
open Go.RowKit
set_option maxRecDepth 100000
attribute [local irreducible] OW RS
def nilF : LFn := ⟨.empty, 0, 0, 0, false, 0, [], [], [], []⟩
def nilP : Pl := ⟨none, 0, none, 0, none, 0, none, 0⟩
theorem rightB_no {f : LFn} {m : List Int} {n : Int} (h : ¬ jq f m n) : zjz f m n = false := @decide_eq_false _ (Classical.propDecidable _) h
theorem FnO.base {lo lo' : Nat} {w : World} {q : QP} {f : LFn} (h : FnO lo w q f) (hl : lo' ≤ lo) : FnO lo' w q f :=
 ⟨vw h.names hl, vw h.consts hl, ⟨vw h.ins.i hl, fun x hx => vw (h.ins.l x hx) hl, h.ins.ap⟩, h.ise, vw h.rgs hl⟩
section
variable (w : World) (p : Pl) (f : LFn) (n0 : Nat) (hF : FnA n0 w p f) (A : Option Addr) (c n1 : Nat) (m : List Int) (hm : IntsA n1 w A m) (n : Int) (hn : I64 n) (hn1 : n1 ≤ w.heap.size) (hD : DbT w)
include hF hm hn hn1 hD
theorem apply_any : Calls Tryd.prog 13 #[fnV p f, .slice A m.length c, .int .i64 n] w fun e w' => Below w.heap.size w w' ∧ (¬ jq f m n → e = .returned (.tuple #[fnV nilP nilF, .int .i64 3])) ∧
 (jq f m n → ∃ q, e = .returned (.tuple #[fnV q.pl (zdq f m n), .int .i64 0]) ∧ FnO w.heap.size w' q (zdq f m n)) := by
 refine qs Tryd.func13 rfl Tryd.ntmps13 rfl (srx (za rfl (vk rfl ?_)));rintro g1 wA B1 E1 G1;refine za rfl (qb zr27 ?_);rintro g6 wB B6 E2 G6;have B1b : Blk wB g1 27 (fcC f p.an p.cn p.ac p.cc p.ai f.ins.length p.ci p.ar p.cr f.rgs.length f.regs) := B1.ext E2 (fun h => h.elim);have hE : Ext No w wB := E1.trans E2;have hFB := hF.low (X := No) ⟨hE, fun _ h => h.elim⟩
 have hmB := hm.low (X := No) ⟨hE, fun _ h => h.elim⟩;have hDB : DbT wB := Per.dbT hD (X := No) (fun _ h => h.elim) _ hE;have hsB := hE.size;have h6B := B6.lt;have h6g : w.heap.size ≤ g6 := by have := E1.size; omega
 refine anx rfl (zp (srx (za rfl (zo Tryd.underlying27 rfl jp rfl B1b rfl (mvx rfl (mvx rfl (za rfl (yf en9 rfl ((right_b hFB c hmB hn (Nat.le_trans hn1 hsB) hDB).mono ?_)))))))));rintro e w1 ⟨rfl, hb⟩;refine ⟨_, rfl, ?_⟩;have E3 := Ext.of_below hb No;have hE3 := hE.trans E3;have B1c := B1b.ext E3 (fun h => h.elim);have B6c := B6.ext E3 (fun h => h.elim)
 by_cases hR : jq f m n
 ·
  refine qr 11 (.bool true) rfl ((by rw [rightB_yes hR] : (.bool (zjz f m n) : Value) = _)) (za rfl (jg rfl (rnx (qp rfl (zq (zh (srx (za rfl (zo Tryd.underlying27 rfl jp rfl B1c rfl (mvx rfl (mvx rfl (za rfl (yf en31 rfl ((place_any _ p f n0 (hFB.low (X := No) ⟨E3, fun _ h => h.elim⟩) A c n1 m (hmB.low (X := No) ⟨E3, fun _ h => h.elim⟩) n hR (by have := E3.size; omega)).mono ?_))))))))))))))
  rintro e w2 ⟨q, rfl, hO, hb⟩;refine ⟨_, rfl, ?_⟩;have E4 := Ext.of_below hb No;have B6d := B6c.ext E4 (fun h => h.elim);have hs3 := E3.size;refine zw (qz jp rfl rfl B6d rfl rfl rfl ?_);rintro wD B6e E5;have hOD := hO.ext E5 (fun b hb hx => by have := hO.bl hb; have := qt hx; omega);have hs4 := E4.size
  refine anx rfl (zv (zu (rs := [.cell 6 27, .tmp 7]) (vs := [_, _]) rfl ⟨⟨_, rfl, qj Tryd.underlying27 rfl jp B6e rfl⟩, rfl, trivial⟩ ?_))
  exact ⟨((hE3.trans E4).mono (Y := fun q => w.heap.size ≤ q) (fun _ h _ => h.elim) |>.step E5 (fun q hq => Or.inl (show w.heap.size ≤ q by have := qt hq; omega))).below (fun q h => h), fun h => absurd hR h, fun _ => ⟨q, rfl, hOD.base (by omega)⟩⟩
 ·
  refine qr 11 (.bool false) rfl ((by rw [rightB_no hR] : (.bool (zjz f m n) : Value) = _)) (za rfl (jg rfl (rnx (yr rfl (srx (za rfl (vo (cs := #[.string ⟨#[]⟩, .int .i64 0, .int .i64 0, .int .i64 0, .bool false, .int .i64 0, .slice none 0 0, .slice none 0 0, .slice none 0 0, .slice none 0 0]) pl27 zr27 rfl rfl (zw (qz jp rfl rfl B6c rfl rfl rfl ?_)))))))))
  rintro wD B6e E5;refine anx rfl (zv (ze (zu (rs := [.cell 6 27, .tmp 7]) (vs := [_, _]) rfl ⟨⟨_, rfl, qj Tryd.underlying27 rfl jp B6e rfl⟩, rfl, trivial⟩ ?_)));exact ⟨(hE3.mono (Y := fun q => w.heap.size ≤ q) (fun _ h _ => h.elim) |>.step E5 (fun q hq => Or.inl (show w.heap.size ≤ q by have := qt hq; omega))).below (fun q h => h), fun _ => rfl, fun h => absurd h hR⟩
end
end Go.Proofs.YtppdgjlmeahimaaDoor
namespace Go.Proofs.YtppdgjlmeahimaaDoor
open Go.RowKit
set_option maxRecDepth 100000
attribute [local irreducible] OW RS
theorem same_ints (w : World) (A A' : Option Addr) (c c' n n' : Nat) (xs : List Int) (h : IntsA n w A xs) (h' : IntsA n' w A' xs) : Calls Tryd.prog 17 #[.slice A xs.length c, .slice A' xs.length c'] w fun e w' => e = .returned (.bool true) ∧ Below w.heap.size w w' := by
 obtain ⟨w0, hw0⟩ : ∃ w0, w0 = w := ⟨_, rfl⟩;have hlen := h.len
 refine qs Tryd.func17 rfl Tryd.ntmps17 rfl (srx (anx rfl (zp (srx (mvx rfl (za rfl (yw Tryd.underlying28 rfl (mvx rfl (za rfl (yw Tryd.underlying28 rfl (za rfl (vb rfl rfl (rnx (zy 10 (.bool false) rfl ((by rw [bne_self_eq_false] : (.bool ((((xs.length : Nat)) : Int) != (((xs.length : Nat)) : Int)) : Value) = _)) (qp rfl (zq (zh (zp (srx (anx rfl (yb (qu (ι := Nat) (fun i => [(0, .slice A xs.length c), (1, .slice A' xs.length c'), (5, .int .i64 ((i : Nat) : Int))]) (fun i w' => i ≤ xs.length ∧ Ext No w0 w') (fun i => xs.length - i) 0 ⟨rfl, rfl, rfl, trivial⟩ (⟨Nat.zero_le _, by rw [hw0]; exact Ext.refl _ _⟩) ?_))))))))))))))))))))))
 rintro i w2 ⟨hi0, hEi⟩;refine zp (srx (mvx rfl (mvx rfl (za rfl (yw Tryd.underlying28 rfl (za rfl (yy rfl rfl (rnx (zr rfl (fun hi => ?_) (fun hi => ?_))))))))))
 ·
  have hi := of_decide_eq_true hi;have hil : i < xs.length := by omega
  obtain ⟨x, hx⟩ : ∃ x, xs[i]? = some x := ⟨_, List.getElem?_eq_getElem hil⟩;rw [hw0] at hEi;have hz := h.low (X := No) ⟨hEi, fun _ h => h.elim⟩;have hz' := h'.low (X := No) ⟨hEi, fun _ h => h.elim⟩;obtain ⟨g, o, hA, hg, hc⟩ := hz.cell hx;obtain ⟨g', o', hA', hg', hc'⟩ := hz'.cell hx;refine zq (zh (zp (yb (zp ?_))))
  refine jx (No) Mut.none_ [] [] (kl [Fx.of (.slice A xs.length c),
   Fx.of (.int .i64 ((i : Nat) : Int)),
   Fx.of (.pointer (some ⟨g, o + i, none⟩)),
   Fx.of (.int .i64 x),
   Fx.of (.slice A' xs.length c'),
   Fx.of (.int .i64 ((i : Nat) : Int)),
   Fx.of (.pointer (some ⟨g', o' + i, none⟩)),
   Fx.of (.int .i64 x),
   Fx.of (.bool false)]) je rfl trivial (fun _ h => by cases h) ?_ ?_
  · refine ⟨?_, ?_, ?_, ?_, ?_, ?_, ?_, ?_, ?_, trivial⟩
    · intro vs X wq K;exact zl rfl ⟨Below.refl _ _, Left.of rfl⟩
    · intro vs X wq K;exact zl rfl ⟨Below.refl _ _, Left.of rfl⟩
    · intro vs X wq K;obtain ⟨_, e0, k0⟩ := K.dep 0 rfl rfl rfl;refine zd 17 (.slice A xs.length c) rfl e0 ?_;obtain ⟨_, e1, k1⟩ := K.dep 1 rfl rfl rfl;refine zd 18 (.int .i64 ((i : Nat) : Int)) rfl e1 ?_;exact zk (j := i) Tryd.underlying28 sz3 (congrArg (fun z ↦ some (Value.slice z xs.length c)) hA) rfl rfl hil ⟨Below.refl _ _, Left.of rfl⟩
    · intro vs X wq K;have LE := K.1;obtain ⟨_, e2, k2⟩ := K.dep 2 rfl rfl rfl;refine zd 19 (.pointer (some ⟨g, o + i, none⟩)) rfl e2 ?_;exact zt Tryd.underlying3 rfl rfl (xi LE (fun h ↦ h) hc) ⟨Below.refl _ _, Left.of rfl⟩
    · intro vs X wq K;exact zl rfl ⟨Below.refl _ _, Left.of rfl⟩
    · intro vs X wq K;exact zl rfl ⟨Below.refl _ _, Left.of rfl⟩
    · intro vs X wq K;obtain ⟨_, e4, k4⟩ := K.dep 4 rfl rfl rfl;refine zd 21 (.slice A' xs.length c') rfl e4 ?_;obtain ⟨_, e5, k5⟩ := K.dep 5 rfl rfl rfl;refine zd 22 (.int .i64 ((i : Nat) : Int)) rfl e5 ?_;exact zk (j := i) Tryd.underlying28 sz3 (congrArg (fun z ↦ some (Value.slice z xs.length c')) hA') rfl rfl hil ⟨Below.refl _ _, Left.of rfl⟩
    · intro vs X wq K;have LE := K.1;obtain ⟨_, e6, k6⟩ := K.dep 6 rfl rfl rfl;refine zd 23 (.pointer (some ⟨g', o' + i, none⟩)) rfl e6 ?_;exact zt Tryd.underlying3 rfl rfl (xi LE (fun h ↦ h) hc') ⟨Below.refl _ _, Left.of rfl⟩
    · intro vs X wq K;obtain ⟨_, e3, k3⟩ := K.dep 3 rfl rfl rfl;refine zd 20 (.int .i64 x) rfl e3 ?_;obtain ⟨_, e7, k7⟩ := K.dep 7 rfl rfl rfl;refine zd 24 (.int .i64 x) rfl e7 ?_;exact vb rfl rfl ⟨Below.refl _ _, Left.of ((by rw [bne_self_eq_false] : (.bool (x != x) : Value) = _))⟩
  intro vs w3 LE AO AL AF AA;have hbd : Below (w2).heap.size (w2) w3 := (((Ext.refl No (w2)).drew).trans LE).toBelow;obtain ⟨_, e8, k8⟩ := AL.2.2.2.2.2.2.2.2.1;refine vq (τ := [(0, _), (1, _), (5, _), (25, .bool false)]) ⟨rfl, rfl, rfl, congrArg some e8, trivial⟩ ?_;clear AL AF AA AO
  refine zh (qp rfl (zq (zf (zh (zj (mvx rfl (za rfl (qc rfl rfl (yg (by omega)) (avx rfl (yc ?_))))))))));exact yt (i + 1) (by show xs.length - (i + 1) < xs.length - i; omega) ⟨rfl, rfl, rfl, trivial⟩ (⟨hil, by rw [hw0]; exact hEi.trans (Ext.of_below hbd No)⟩)
 ·
  refine qe (zm (zm (ya (zh (srx (anx rfl (zv (zu (rs := [.tmp 4]) (vs := [_]) rfl ⟨rfl, trivial⟩ ?_))))))));exact ⟨rfl, by rw [hw0] at hEi; exact hEi.toBelow⟩
section
variable (w : World) (x : LIns) (B B' : Option Addr) (c c' n n' : Nat) (h : IntsA n w B x.l) (h' : IntsA n' w B' x.l)
include h h'
theorem same_ins : Calls Tryd.prog 32 #[.agg (jr x B c).toArray, .agg (jr x B' c').toArray] w fun e w' => e = .returned (.bool true) ∧ Below w.heap.size w w' := by
 refine qs Tryd.func32 rfl Tryd.ntmps32 rfl (srx (za rfl (vk rfl ?_)));rintro g2 wA B2 E1 G1;refine za rfl (vk rfl ?_);rintro g3 wB B3 E2 G2;have B2b := B2.ext E2 (fun h => h.elim);have hE := E1.trans E2
 refine anx rfl (srx (za rfl (zb Tryd.underlying41 rfl sz3 (by decide) rfl (za rfl (zg Tryd.underlying3 rfl rfl B2b rfl (za rfl (zb Tryd.underlying41 rfl sz3 (by decide) rfl (za rfl (zg Tryd.underlying3 rfl rfl B3 rfl (za rfl (yn rfl rfl (qr 9 (.bool true) rfl (by simp : (.bool (x.op == x.op) : Value) = _) (mvx rfl (onx rfl (zb Tryd.underlying41 rfl sz3 (by decide) rfl (onx rfl (zg Tryd.underlying3 rfl rfl B2b rfl (onx rfl (zb Tryd.underlying41 rfl sz3 (by decide) rfl (onx rfl (zg Tryd.underlying3 rfl rfl B3 rfl (onx rfl (yn rfl rfl (qr 15 (.bool true) rfl (by simp : (.bool (x.d == x.d) : Value) = _) (za rfl (zx rfl rfl (mvx rfl (onx rfl (zb Tryd.underlying41 rfl sz3 (by decide) rfl (onx rfl (zg Tryd.underlying3 rfl rfl B2b rfl (onx rfl (zb Tryd.underlying41 rfl sz3 (by decide) rfl (onx rfl (zg Tryd.underlying3 rfl rfl B3 rfl (onx rfl (yn rfl rfl (qr 22 (.bool true) rfl (by simp : (.bool (x.a == x.a) : Value) = _) (za rfl (zx rfl rfl (mvx rfl (onx rfl (zb Tryd.underlying41 rfl sz3 (by decide) rfl (onx rfl (zg Tryd.underlying3 rfl rfl B2b rfl (onx rfl (zb Tryd.underlying41 rfl sz3 (by decide) rfl (onx rfl (zg Tryd.underlying3 rfl rfl B3 rfl (onx rfl (yn rfl rfl (qr 29 (.bool true) rfl (by simp : (.bool (x.b == x.b) : Value) = _) (za rfl (zx rfl rfl (mvx rfl (onx rfl (zb Tryd.underlying41 rfl sz3 (by decide) rfl (onx rfl (zg Tryd.underlying3 rfl rfl B2b rfl (onx rfl (zb Tryd.underlying41 rfl sz3 (by decide) rfl (onx rfl (zg Tryd.underlying3 rfl rfl B3 rfl ?_)))))))))))))))))))))))))))))))))))))))))))))))))))))))))))))))
 refine onx rfl (yn rfl rfl (qr 36 (.bool true) rfl (by simp : (.bool (x.t == x.t) : Value) = _) (za rfl (zx rfl rfl (mvx rfl (onx rfl (zb Tryd.underlying41 rfl sz3 (by decide) rfl (onx rfl (zg Tryd.underlying3 rfl rfl B2b rfl (onx rfl (zb Tryd.underlying41 rfl sz3 (by decide) rfl (onx rfl (zg Tryd.underlying3 rfl rfl B3 rfl (onx rfl (yn rfl rfl (qr 43 (.bool true) rfl (by simp : (.bool (x.k == x.k) : Value) = _) (za rfl (zx rfl rfl (mvx rfl (onx rfl (zb Tryd.underlying41 rfl gu (by decide) rfl (onx rfl (zg Tryd.underlying28 rfl rfl B2b rfl (onx rfl (zb Tryd.underlying41 rfl gu (by decide) rfl (onx rfl (zg Tryd.underlying28 rfl rfl B3 rfl (onx rfl (yf en17 rfl ((same_ints _ B B' c c' n n' x.l (h.low (X := No) ⟨hE, fun _ h => h.elim⟩) (h'.low (X := No) ⟨hE, fun _ h => h.elim⟩)).mono ?_))))))))))))))))))))))))))))))
 rintro e w1 ⟨rfl, hb⟩;refine ⟨_, rfl, (za rfl (zx rfl rfl (anx rfl (zv (zu (rs := [.tmp 4]) (vs := [_]) rfl ⟨rfl, trivial⟩ ?_)))))⟩;exact ⟨rfl, (hE.trans (Ext.of_below hb No)).toBelow⟩
end
section
variable (w : World) (f : LFn) (p p' : Pl) (n n' : Nat) (hF : FnA n w p f) (hF' : FnA n' w p' f)
include hF hF'
theorem same_func : Calls Tryd.prog 14 #[fnV p f, fnV p' f] w fun e w' => e = .returned (.bool true) ∧ Below w.heap.size w w' := by
 have hnl := hF.names.len;have hcl := hF.consts.len;have hil := hF.ins.len;have hrl := hF.rgs.len;refine qs Tryd.func14 rfl Tryd.ntmps14 rfl (srx (za rfl (vk rfl ?_)));rintro g2 wA B2a E1 G1;refine za rfl (vk rfl ?_);rintro g3 wB B3b E2 G2;have B2 : Blk wB g2 27 (fcC f p.an p.cn p.ac p.cc p.ai f.ins.length p.ci p.ar p.cr f.rgs.length f.regs) := B2a.ext E2 (fun h => h.elim)
 have B3 : Blk wB g3 27 (fcC f p'.an p'.cn p'.ac p'.cc p'.ai f.ins.length p'.ci p'.ar p'.cr f.rgs.length f.regs) := B3b;have hE := E1.trans E2;have hFB := hF.low (X := No) ⟨hE, fun _ h => h.elim⟩;have hFB' := hF'.low (X := No) ⟨hE, fun _ h => h.elim⟩
 refine anx rfl (zp (srx (za rfl (zb Tryd.underlying27 rfl sz9 (by decide) rfl (za rfl (zg Tryd.underlying9 rfl rfl B2 rfl (za rfl (zb Tryd.underlying27 rfl sz9 (by decide) rfl (za rfl (zg Tryd.underlying9 rfl rfl B3 rfl (za rfl (ow_neqS rfl rfl (mvx rfl (qr 14 (.bool false) rfl (by rw [beq_self_eq_true]; rfl) (onx rfl (zb Tryd.underlying27 rfl sz3 (by decide) rfl (onx rfl (zg Tryd.underlying3 rfl rfl B2 rfl (onx rfl (zb Tryd.underlying27 rfl sz3 (by decide) rfl (onx rfl (zg Tryd.underlying3 rfl rfl B3 rfl (onx rfl (vb rfl rfl (za rfl (yd rfl rfl (mvx rfl (qr 21 (.bool false) rfl ((by rw [bne_self_eq_false] : (.bool (f.params != f.params) : Value) = _)) (onx rfl (zb Tryd.underlying27 rfl sz3 (by decide) rfl (onx rfl (zg Tryd.underlying3 rfl rfl B2 rfl (onx rfl (zb Tryd.underlying27 rfl sz3 (by decide) rfl (onx rfl (zg Tryd.underlying3 rfl rfl B3 rfl (onx rfl (vb rfl rfl (za rfl (yd rfl rfl (mvx rfl (qr 28 (.bool false) rfl ((by rw [bne_self_eq_false] : (.bool (f.regs != f.regs) : Value) = _)) (onx rfl (zb Tryd.underlying27 rfl sz3 (by decide) rfl (onx rfl (zg Tryd.underlying3 rfl rfl B2 rfl (onx rfl (zb Tryd.underlying27 rfl sz3 (by decide) rfl (onx rfl (zg Tryd.underlying3 rfl rfl B3 rfl (onx rfl (vb rfl rfl (za rfl (yd rfl rfl (mvx rfl (qr 35 (.bool false) rfl ((by rw [bne_self_eq_false] : (.bool (f.frees != f.frees) : Value) = _)) (onx rfl (zb Tryd.underlying27 rfl sz4 (by decide) rfl (onx rfl (zg Tryd.underlying4 rfl rfl B2 rfl (onx rfl (zb Tryd.underlying27 rfl sz4 (by decide) rfl ?_))))))))))))))))))))))))))))))))))))))))))))))))))))))))))))))
 refine onx rfl (zg Tryd.underlying4 rfl rfl B3 rfl (onx rfl (ow_neqB Tryd.underlying4 rfl rfl (za rfl (yd rfl rfl (mvx rfl (qr 42 (.bool false) rfl ((by rw [bne_self_eq_false] : (.bool (f.gen != f.gen) : Value) = _)) (onx rfl (zb Tryd.underlying27 rfl sz3 (by decide) rfl (onx rfl (zg Tryd.underlying3 rfl rfl B2 rfl (onx rfl (zb Tryd.underlying27 rfl sz3 (by decide) rfl (onx rfl (zg Tryd.underlying3 rfl rfl B3 rfl (onx rfl (vb rfl rfl (za rfl (yd rfl rfl (rnx (zy 48 (.bool false) rfl ((by rw [bne_self_eq_false] : (.bool (f.bound != f.bound) : Value) = _)) (qp rfl (zq (zh (zp (srx (za rfl (zb Tryd.underlying27 rfl sz22 (by decide) rfl (za rfl (zg Tryd.underlying22 rfl rfl B2 rfl (za rfl (yw Tryd.underlying22 rfl (za rfl (zb Tryd.underlying27 rfl sz22 (by decide) rfl (za rfl (zg Tryd.underlying22 rfl rfl B3 rfl (za rfl (yw Tryd.underlying22 rfl (za rfl (vb rfl rfl (mvx rfl (qr 56 (.bool false) rfl ((by rw [bne_self_eq_false] : (.bool ((((f.names.length : Nat)) : Int) != (((f.names.length : Nat)) : Int)) : Value) = _)) (onx rfl (zb Tryd.underlying27 rfl sz23 (by decide) rfl (onx rfl (zg Tryd.underlying23 rfl rfl B2 rfl (onx rfl (yw Tryd.underlying23 rfl (onx rfl (zb Tryd.underlying27 rfl sz23 (by decide) rfl (onx rfl (zg Tryd.underlying23 rfl rfl B3 rfl (onx rfl (yw Tryd.underlying23 rfl (onx rfl (vb rfl rfl (za rfl (yd rfl rfl (mvx rfl (qr 65 (.bool false) rfl ((by rw [bne_self_eq_false] : (.bool ((((f.consts.length : Nat)) : Int) != (((f.consts.length : Nat)) : Int)) : Value) = _)) (onx rfl (zb Tryd.underlying27 rfl gz (by decide) rfl ?_))))))))))))))))))))))))))))))))))))))))))))))))))))))))))))))
 refine onx rfl (zg Tryd.underlying24 rfl rfl B2 rfl (onx rfl (yw Tryd.underlying24 rfl (onx rfl (zb Tryd.underlying27 rfl gz (by decide) rfl (onx rfl (zg Tryd.underlying24 rfl rfl B3 rfl (onx rfl (yw Tryd.underlying24 rfl (onx rfl (vb rfl rfl (za rfl (yd rfl rfl (mvx rfl (qr 74 (.bool false) rfl ((by rw [bne_self_eq_false] : (.bool ((((f.ins.length : Nat)) : Int) != (((f.ins.length : Nat)) : Int)) : Value) = _)) (onx rfl (zb Tryd.underlying27 rfl ko (by decide) rfl (onx rfl (zg Tryd.underlying25 rfl rfl B2 rfl (onx rfl (yw Tryd.underlying25 rfl (onx rfl (zb Tryd.underlying27 rfl ko (by decide) rfl (onx rfl (zg Tryd.underlying25 rfl rfl B3 rfl (onx rfl (yw Tryd.underlying25 rfl (onx rfl (vb rfl rfl (za rfl (yd rfl rfl (rnx (zy 82 (.bool false) rfl ((by rw [bne_self_eq_false] : (.bool ((((f.rgs.length : Nat)) : Int) != (((f.rgs.length : Nat)) : Int)) : Value) = _)) (qp rfl (zq (zh (zp (srx (anx rfl (yb (qu (ι := Nat) (fun i1 => [(2, .pointer (some ⟨g2, 0, none⟩)), (3, .pointer (some ⟨g3, 0, none⟩)), (5, .int .i64 ((i1 : Nat) : Int))]) (fun i1 w' => i1 ≤ f.names.length ∧ Ext No wB w') (fun i1 => f.names.length - i1) 0 ⟨rfl, rfl, rfl, trivial⟩ (⟨Nat.zero_le _, Ext.refl _ _⟩) ?_)))))))))))))))))))))))))))))))))))))))))
 rintro i1 w2 ⟨hi01, hE1⟩;have B2_1 := B2.ext hE1 (fun h => h.elim);have B3_1 := B3.ext hE1 (fun h => h.elim);refine zp (srx (mvx rfl (za rfl (zb Tryd.underlying27 rfl sz22 (by decide) rfl (za rfl (zg Tryd.underlying22 rfl rfl B2_1 rfl (za rfl (yw Tryd.underlying22 rfl (za rfl (yy rfl rfl (rnx (zr rfl (fun hi1 => ?_) (fun hi1 => ?_)))))))))))))
 ·
  have hi := of_decide_eq_true hi1;have hlt : i1 < f.names.length := by omega
  obtain ⟨x, hx⟩ : ∃ x, f.names[i1]? = some x := ⟨_, List.getElem?_eq_getElem hlt⟩;have hz := hFB.low (X := No) ⟨hE1, fun _ h => h.elim⟩;have hz' := hFB'.low (X := No) ⟨hE1, fun _ h => h.elim⟩;obtain ⟨g, o, hA, hg, hc⟩ := hz.names.row.at hx;obtain ⟨g', o', hA', hg', hc'⟩ := hz'.names.row.at hx;refine zq (zh (zp (yb (zp ?_))))
  refine jx (No) Mut.none_ [] [] (kl [Fx.of (.pointer (some ⟨g2, 6, none⟩)),
   Fx.of (.slice p.an f.names.length p.cn),
   Fx.of (.int .i64 ((i1 : Nat) : Int)),
   Fx.of (.pointer (some ⟨g, o + i1, none⟩)),
   Fx.of (.string x),
   Fx.of (.pointer (some ⟨g3, 6, none⟩)),
   Fx.of (.slice p'.an f.names.length p'.cn),
   Fx.of (.int .i64 ((i1 : Nat) : Int)),
   Fx.of (.pointer (some ⟨g', o' + i1, none⟩)),
   Fx.of (.string x),
   Fx.of (.bool false)]) je rfl trivial (fun _ h => by cases h) ?_ ?_
  · refine ⟨?_, ?_, ?_, ?_, ?_, ?_, ?_, ?_, ?_, ?_, ?_, trivial⟩
    · intro vs X wq K;exact zb Tryd.underlying27 rfl sz22 (by decide) rfl ⟨Below.refl _ _, Left.of rfl⟩
    · intro vs X wq K;have LE := K.1;obtain ⟨_, e0, k0⟩ := K.dep 0 rfl rfl rfl;refine zd 90 (.pointer (some ⟨g2, 6, none⟩)) rfl e0 ?_;exact zg Tryd.underlying22 rfl rfl (vr LE B2_1) rfl ⟨Below.refl _ _, Left.of rfl⟩
    · intro vs X wq K;exact zl rfl ⟨Below.refl _ _, Left.of rfl⟩
    · intro vs X wq K;obtain ⟨_, e1, k1⟩ := K.dep 1 rfl rfl rfl;refine zd 91 (.slice p.an f.names.length p.cn) rfl e1 ?_;obtain ⟨_, e2, k2⟩ := K.dep 2 rfl rfl rfl;refine zd 92 (.int .i64 ((i1 : Nat) : Int)) rfl e2 ?_;exact zk (j := i1) Tryd.underlying22 sz9 (congrArg (fun z ↦ some (Value.slice z f.names.length p.cn)) hA) rfl rfl hlt ⟨Below.refl _ _, Left.of rfl⟩
    · intro vs X wq K;have LE := K.1;obtain ⟨_, e3, k3⟩ := K.dep 3 rfl rfl rfl;refine zd 93 (.pointer (some ⟨g, o + i1, none⟩)) rfl e3 ?_;exact zt Tryd.underlying9 rfl rfl (xi LE (fun h ↦ h) (by have h9 := hc; rw [Nat.mul_one] at h9; exact h9)) ⟨Below.refl _ _, Left.of rfl⟩
    · intro vs X wq K;exact zb Tryd.underlying27 rfl sz22 (by decide) rfl ⟨Below.refl _ _, Left.of rfl⟩
    · intro vs X wq K;have LE := K.1;obtain ⟨_, e5, k5⟩ := K.dep 5 rfl rfl rfl;refine zd 95 (.pointer (some ⟨g3, 6, none⟩)) rfl e5 ?_;exact zg Tryd.underlying22 rfl rfl (vr LE B3_1) rfl ⟨Below.refl _ _, Left.of rfl⟩
    · intro vs X wq K;exact zl rfl ⟨Below.refl _ _, Left.of rfl⟩
    · intro vs X wq K;obtain ⟨_, e6, k6⟩ := K.dep 6 rfl rfl rfl;refine zd 96 (.slice p'.an f.names.length p'.cn) rfl e6 ?_;obtain ⟨_, e7, k7⟩ := K.dep 7 rfl rfl rfl;refine zd 97 (.int .i64 ((i1 : Nat) : Int)) rfl e7 ?_;exact zk (j := i1) Tryd.underlying22 sz9 (congrArg (fun z ↦ some (Value.slice z f.names.length p'.cn)) hA') rfl rfl hlt ⟨Below.refl _ _, Left.of rfl⟩
    · intro vs X wq K;have LE := K.1;obtain ⟨_, e8, k8⟩ := K.dep 8 rfl rfl rfl;refine zd 98 (.pointer (some ⟨g', o' + i1, none⟩)) rfl e8 ?_;exact zt Tryd.underlying9 rfl rfl (xi LE (fun h ↦ h) (by have h9 := hc'; rw [Nat.mul_one] at h9; exact h9)) ⟨Below.refl _ _, Left.of rfl⟩
    · intro vs X wq K;obtain ⟨_, e4, k4⟩ := K.dep 4 rfl rfl rfl;refine zd 94 (.string x) rfl e4 ?_;obtain ⟨_, e9, k9⟩ := K.dep 9 rfl rfl rfl;refine zd 99 (.string x) rfl e9 ?_;exact ow_neqS rfl rfl ⟨Below.refl _ _, Left.of (by rw [beq_self_eq_true]; rfl)⟩
  intro vs w3 LE AO AL AF AA;have hbd : Below (w2).heap.size (w2) w3 := (((Ext.refl No (w2)).drew).trans LE).toBelow;obtain ⟨_, e10, k10⟩ := AL.2.2.2.2.2.2.2.2.2.2.1;refine vq (τ := [(2, _), (3, _), (5, _), (100, .bool false)]) ⟨rfl, rfl, rfl, congrArg some e10, trivial⟩ ?_;clear AL AF AA AO
  refine zh (qp rfl (zq (zf (zh (zj (mvx rfl (za rfl (qc rfl rfl (yg (by omega)) (avx rfl (yc ?_))))))))));exact yt (i1 + 1) (by show f.names.length - (i1 + 1) < f.names.length - i1; omega) ⟨rfl, rfl, rfl, trivial⟩ (⟨hlt, hE1.trans (Ext.of_below hbd No)⟩)
 ·
  refine qe (zm (zm (ya (zh (zp (srx (anx rfl (yb (qu (ι := Nat) (fun i2 => [(2, .pointer (some ⟨g2, 0, none⟩)), (3, .pointer (some ⟨g3, 0, none⟩)), (6, .int .i64 ((i2 : Nat) : Int))]) (fun i2 w' => i2 ≤ f.consts.length ∧ Ext No wB w') (fun i2 => f.consts.length - i2) 0 ⟨rfl, rfl, rfl, trivial⟩ (⟨Nat.zero_le _, hE1⟩) ?_)))))))))
  rintro i2 w5 ⟨hi02, hE2⟩;have B2_2 := B2.ext hE2 (fun h => h.elim);have B3_2 := B3.ext hE2 (fun h => h.elim);refine zp (srx (mvx rfl (za rfl (zb Tryd.underlying27 rfl sz23 (by decide) rfl (za rfl (zg Tryd.underlying23 rfl rfl B2_2 rfl (za rfl (yw Tryd.underlying23 rfl (za rfl (yy rfl rfl (rnx (zr rfl (fun hi2 => ?_) (fun hi2 => ?_)))))))))))))
  ·
   have hi := of_decide_eq_true hi2;have hlt : i2 < f.consts.length := by omega
   obtain ⟨x, hx⟩ : ∃ x, f.consts[i2]? = some x := ⟨_, List.getElem?_eq_getElem hlt⟩;have hz := hFB.low (X := No) ⟨hE2, fun _ h => h.elim⟩;have hz' := hFB'.low (X := No) ⟨hE2, fun _ h => h.elim⟩;obtain ⟨g, o, hA, hg, hc⟩ := hz.consts.row.at hx;obtain ⟨g', o', hA', hg', hc'⟩ := hz'.consts.row.at hx;refine zq (zh (zp (yb (zp ?_))))
   refine jx (No) Mut.none_ [] [] (kl [Fx.of (.pointer (some ⟨g2, 7, none⟩)),
    Fx.of (.slice p.ac f.consts.length p.cc),
    Fx.of (.int .i64 ((i2 : Nat) : Int)),
    Fx.of (.pointer (some ⟨g, o + i2 * 2, none⟩)),
    Fx.of (.agg #[.int .i64 x.1, .string x.2]),
    Fx.of (.pointer (some ⟨g3, 7, none⟩)),
    Fx.of (.slice p'.ac f.consts.length p'.cc),
    Fx.of (.int .i64 ((i2 : Nat) : Int)),
    Fx.of (.pointer (some ⟨g', o' + i2 * 2, none⟩)),
    Fx.of (.agg #[.int .i64 x.1, .string x.2]),
    Fx.of (.bool false)]) je rfl trivial (fun _ h => by cases h) ?_ ?_
   · refine ⟨?_, ?_, ?_, ?_, ?_, ?_, ?_, ?_, ?_, ?_, ?_, trivial⟩
     · intro vs X wq K;exact zb Tryd.underlying27 rfl sz23 (by decide) rfl ⟨Below.refl _ _, Left.of rfl⟩
     · intro vs X wq K;have LE := K.1;obtain ⟨_, e0, k0⟩ := K.dep 0 rfl rfl rfl;refine zd 108 (.pointer (some ⟨g2, 7, none⟩)) rfl e0 ?_;exact zg Tryd.underlying23 rfl rfl (vr LE B2_2) rfl ⟨Below.refl _ _, Left.of rfl⟩
     · intro vs X wq K;exact zl rfl ⟨Below.refl _ _, Left.of rfl⟩
     · intro vs X wq K;obtain ⟨_, e1, k1⟩ := K.dep 1 rfl rfl rfl;refine zd 109 (.slice p.ac f.consts.length p.cc) rfl e1 ?_;obtain ⟨_, e2, k2⟩ := K.dep 2 rfl rfl rfl;refine zd 110 (.int .i64 ((i2 : Nat) : Int)) rfl e2 ?_;exact yi (j := i2) Tryd.underlying23 sz37 (congrArg (fun z ↦ some (Value.slice z f.consts.length p.cc)) hA) rfl rfl hlt ⟨Below.refl _ _, Left.of rfl⟩
     · intro vs X wq K;have LE := K.1;obtain ⟨_, e3, k3⟩ := K.dep 3 rfl rfl rfl;refine zd 111 (.pointer (some ⟨g, o + i2 * 2, none⟩)) rfl e3 ?_;exact jb (cs := #[.int .i64 x.1, .string x.2]) Tryd.underlying37 rfl sz37 rfl rfl (fun j v hj ↦ xi LE (fun h ↦ h) (hc j v (by simpa using hj))) ⟨Below.refl _ _, Left.of rfl⟩
     · intro vs X wq K;exact zb Tryd.underlying27 rfl sz23 (by decide) rfl ⟨Below.refl _ _, Left.of rfl⟩
     · intro vs X wq K;have LE := K.1;obtain ⟨_, e5, k5⟩ := K.dep 5 rfl rfl rfl;refine zd 113 (.pointer (some ⟨g3, 7, none⟩)) rfl e5 ?_;exact zg Tryd.underlying23 rfl rfl (vr LE B3_2) rfl ⟨Below.refl _ _, Left.of rfl⟩
     · intro vs X wq K;exact zl rfl ⟨Below.refl _ _, Left.of rfl⟩
     · intro vs X wq K;obtain ⟨_, e6, k6⟩ := K.dep 6 rfl rfl rfl;refine zd 114 (.slice p'.ac f.consts.length p'.cc) rfl e6 ?_;obtain ⟨_, e7, k7⟩ := K.dep 7 rfl rfl rfl;refine zd 115 (.int .i64 ((i2 : Nat) : Int)) rfl e7 ?_;exact yi (j := i2) Tryd.underlying23 sz37 (congrArg (fun z ↦ some (Value.slice z f.consts.length p'.cc)) hA') rfl rfl hlt ⟨Below.refl _ _, Left.of rfl⟩
     · intro vs X wq K;have LE := K.1;obtain ⟨_, e8, k8⟩ := K.dep 8 rfl rfl rfl;refine zd 116 (.pointer (some ⟨g', o' + i2 * 2, none⟩)) rfl e8 ?_;exact jb (cs := #[.int .i64 x.1, .string x.2]) Tryd.underlying37 rfl sz37 rfl rfl (fun j v hj ↦ xi LE (fun h ↦ h) (hc' j v (by simpa using hj))) ⟨Below.refl _ _, Left.of rfl⟩
     · intro vs X wq K;obtain ⟨_, e4, k4⟩ := K.dep 4 rfl rfl rfl;refine zd 112 (.agg #[.int .i64 x.1, .string x.2]) rfl e4 ?_;obtain ⟨_, e9, k9⟩ := K.dep 9 rfl rfl rfl;refine zd 117 (.agg #[.int .i64 x.1, .string x.2]) rfl e9 ?_;exact ow_neqR (con_plain x.1 x.2) rfl rfl ⟨Below.refl _ _, Left.of rfl⟩
   intro vs w6 LE AO AL AF AA;have hbd : Below (w5).heap.size (w5) w6 := (((Ext.refl No (w5)).drew).trans LE).toBelow;obtain ⟨_, e10, k10⟩ := AL.2.2.2.2.2.2.2.2.2.2.1;refine vq (τ := [(2, _), (3, _), (6, _), (118, .bool false)]) ⟨rfl, rfl, rfl, congrArg some e10, trivial⟩ ?_;clear AL AF AA AO
   refine zh (qp rfl (zq (zf (zh (zj (mvx rfl (za rfl (qc rfl rfl (yg (by omega)) (avx rfl (yc ?_))))))))));exact yt (i2 + 1) (by show f.consts.length - (i2 + 1) < f.consts.length - i2; omega) ⟨rfl, rfl, rfl, trivial⟩ (⟨hlt, hE2.trans (Ext.of_below hbd No)⟩)
  ·
   refine qe (zm (zm (ya (zh (zp (srx (anx rfl (yb (qu (ι := Nat) (fun i3 => [(2, .pointer (some ⟨g2, 0, none⟩)), (3, .pointer (some ⟨g3, 0, none⟩)), (7, .int .i64 ((i3 : Nat) : Int))]) (fun i3 w' => i3 ≤ f.rgs.length ∧ Ext No wB w') (fun i3 => f.rgs.length - i3) 0 ⟨rfl, rfl, rfl, trivial⟩ (⟨Nat.zero_le _, hE2⟩) ?_)))))))))
   rintro i3 w8 ⟨hi03, hE3⟩;have B2_3 := B2.ext hE3 (fun h => h.elim);have B3_3 := B3.ext hE3 (fun h => h.elim);refine zp (srx (mvx rfl (za rfl (zb Tryd.underlying27 rfl ko (by decide) rfl (za rfl (zg Tryd.underlying25 rfl rfl B2_3 rfl (za rfl (yw Tryd.underlying25 rfl (za rfl (yy rfl rfl (rnx (zr rfl (fun hi3 => ?_) (fun hi3 => ?_)))))))))))))
   ·
    have hi := of_decide_eq_true hi3;have hlt : i3 < f.rgs.length := by omega
    obtain ⟨x, hx⟩ : ∃ x, f.rgs[i3]? = some x := ⟨_, List.getElem?_eq_getElem hlt⟩;have hz := hFB.low (X := No) ⟨hE3, fun _ h => h.elim⟩;have hz' := hFB'.low (X := No) ⟨hE3, fun _ h => h.elim⟩;obtain ⟨g, o, hA, hg, hc⟩ := hz.rgs.row.at hx;obtain ⟨g', o', hA', hg', hc'⟩ := hz'.rgs.row.at hx;refine zq (zh (zp (yb (zp ?_))))
    refine jx (No) Mut.none_ [] [] (kl [Fx.of (.pointer (some ⟨g2, 9, none⟩)),
     Fx.of (.slice p.ar f.rgs.length p.cr),
     Fx.of (.int .i64 ((i3 : Nat) : Int)),
     Fx.of (.pointer (some ⟨g, o + i3 * 4, none⟩)),
     Fx.of (.agg #[.int .i64 x.fr, .int .i64 x.to, .int .i64 x.tg, .int .i64 x.d]),
     Fx.of (.pointer (some ⟨g3, 9, none⟩)),
     Fx.of (.slice p'.ar f.rgs.length p'.cr),
     Fx.of (.int .i64 ((i3 : Nat) : Int)),
     Fx.of (.pointer (some ⟨g', o' + i3 * 4, none⟩)),
     Fx.of (.agg #[.int .i64 x.fr, .int .i64 x.to, .int .i64 x.tg, .int .i64 x.d]),
     Fx.of (.bool false)]) je rfl trivial (fun _ h => by cases h) ?_ ?_
    · refine ⟨?_, ?_, ?_, ?_, ?_, ?_, ?_, ?_, ?_, ?_, ?_, trivial⟩
      · intro vs X wq K;exact zb Tryd.underlying27 rfl ko (by decide) rfl ⟨Below.refl _ _, Left.of rfl⟩
      · intro vs X wq K;have LE := K.1;obtain ⟨_, e0, k0⟩ := K.dep 0 rfl rfl rfl;refine zd 126 (.pointer (some ⟨g2, 9, none⟩)) rfl e0 ?_;exact zg Tryd.underlying25 rfl rfl (vr LE B2_3) rfl ⟨Below.refl _ _, Left.of rfl⟩
      · intro vs X wq K;exact zl rfl ⟨Below.refl _ _, Left.of rfl⟩
      · intro vs X wq K;obtain ⟨_, e1, k1⟩ := K.dep 1 rfl rfl rfl;refine zd 127 (.slice p.ar f.rgs.length p.cr) rfl e1 ?_;obtain ⟨_, e2, k2⟩ := K.dep 2 rfl rfl rfl;refine zd 128 (.int .i64 ((i3 : Nat) : Int)) rfl e2 ?_;exact yi (j := i3) Tryd.underlying25 ku (congrArg (fun z ↦ some (Value.slice z f.rgs.length p.cr)) hA) rfl rfl hlt ⟨Below.refl _ _, Left.of rfl⟩
      · intro vs X wq K;have LE := K.1;obtain ⟨_, e3, k3⟩ := K.dep 3 rfl rfl rfl;refine zd 129 (.pointer (some ⟨g, o + i3 * 4, none⟩)) rfl e3 ?_;exact jb (cs := (zqz x).toArray) Tryd.underlying50 rfl ku rfl rfl (fun j v hj ↦ xi LE (fun h ↦ h) (hc j v (by simpa using hj))) ⟨Below.refl _ _, Left.of rfl⟩
      · intro vs X wq K;exact zb Tryd.underlying27 rfl ko (by decide) rfl ⟨Below.refl _ _, Left.of rfl⟩
      · intro vs X wq K;have LE := K.1;obtain ⟨_, e5, k5⟩ := K.dep 5 rfl rfl rfl;refine zd 131 (.pointer (some ⟨g3, 9, none⟩)) rfl e5 ?_;exact zg Tryd.underlying25 rfl rfl (vr LE B3_3) rfl ⟨Below.refl _ _, Left.of rfl⟩
      · intro vs X wq K;exact zl rfl ⟨Below.refl _ _, Left.of rfl⟩
      · intro vs X wq K;obtain ⟨_, e6, k6⟩ := K.dep 6 rfl rfl rfl;refine zd 132 (.slice p'.ar f.rgs.length p'.cr) rfl e6 ?_;obtain ⟨_, e7, k7⟩ := K.dep 7 rfl rfl rfl;refine zd 133 (.int .i64 ((i3 : Nat) : Int)) rfl e7 ?_;exact yi (j := i3) Tryd.underlying25 ku (congrArg (fun z ↦ some (Value.slice z f.rgs.length p'.cr)) hA') rfl rfl hlt ⟨Below.refl _ _, Left.of rfl⟩
      · intro vs X wq K;have LE := K.1;obtain ⟨_, e8, k8⟩ := K.dep 8 rfl rfl rfl;refine zd 134 (.pointer (some ⟨g', o' + i3 * 4, none⟩)) rfl e8 ?_;exact jb (cs := (zqz x).toArray) Tryd.underlying50 rfl ku rfl rfl (fun j v hj ↦ xi LE (fun h ↦ h) (hc' j v (by simpa using hj))) ⟨Below.refl _ _, Left.of rfl⟩
      · intro vs X wq K;obtain ⟨_, e4, k4⟩ := K.dep 4 rfl rfl rfl;refine zd 130 (.agg #[.int .i64 x.fr, .int .i64 x.to, .int .i64 x.tg, .int .i64 x.d]) rfl e4 ?_;obtain ⟨_, e9, k9⟩ := K.dep 9 rfl rfl rfl;refine zd 135 (.agg #[.int .i64 x.fr, .int .i64 x.to, .int .i64 x.tg, .int .i64 x.d]) rfl e9 ?_;exact ow_neqR (reg_plain x.fr x.to x.tg x.d) rfl rfl ⟨Below.refl _ _, Left.of rfl⟩
    intro vs w9 LE AO AL AF AA;have hbd : Below (w8).heap.size (w8) w9 := (((Ext.refl No (w8)).drew).trans LE).toBelow;obtain ⟨_, e10, k10⟩ := AL.2.2.2.2.2.2.2.2.2.2.1;refine vq (τ := [(2, _), (3, _), (7, _), (136, .bool false)]) ⟨rfl, rfl, rfl, congrArg some e10, trivial⟩ ?_;clear AL AF AA AO
    refine zh (qp rfl (zq (zf (zh (zj (mvx rfl (za rfl (qc rfl rfl (yg (by omega)) (avx rfl (yc ?_))))))))));exact yt (i3 + 1) (by show f.rgs.length - (i3 + 1) < f.rgs.length - i3; omega) ⟨rfl, rfl, rfl, trivial⟩ (⟨hlt, hE3.trans (Ext.of_below hbd No)⟩)
   ·
    refine qe (zm (zm (ya (zh (zp (srx (anx rfl (yb (qu (ι := Nat) (fun i4 => [(2, .pointer (some ⟨g2, 0, none⟩)), (3, .pointer (some ⟨g3, 0, none⟩)), (8, .int .i64 ((i4 : Nat) : Int))]) (fun i4 w' => i4 ≤ f.ins.length ∧ Ext No wB w') (fun i4 => f.ins.length - i4) 0 ⟨rfl, rfl, rfl, trivial⟩ (⟨Nat.zero_le _, hE3⟩) ?_)))))))))
    rintro i4 w11 ⟨hi04, hE4⟩;have B2_4 := B2.ext hE4 (fun h => h.elim);have B3_4 := B3.ext hE4 (fun h => h.elim);refine zp (srx (mvx rfl (za rfl (zb Tryd.underlying27 rfl gz (by decide) rfl (za rfl (zg Tryd.underlying24 rfl rfl B2_4 rfl (za rfl (yw Tryd.underlying24 rfl (za rfl (yy rfl rfl (rnx (zr rfl (fun hi4 => ?_) (fun hi4 => ?_)))))))))))))
    ·
     have hi := of_decide_eq_true hi4;have hlt : i4 < f.ins.length := by omega
     obtain ⟨x, hx⟩ : ∃ x, f.ins[i4]? = some x := ⟨_, List.getElem?_eq_getElem hlt⟩;have hz := hFB.low (X := No) ⟨hE4, fun _ h => h.elim⟩;have hz' := hFB'.low (X := No) ⟨hE4, fun _ h => h.elim⟩;obtain ⟨g, o, hA, hg, hc⟩ := hz.ins.row.at hx;obtain ⟨g', o', hA', hg', hc'⟩ := hz'.ins.row.at hx;obtain ⟨_, C1, d1, _, hl1, hd1⟩ := hc;obtain ⟨_, C2, d2, _, hl2, hd2⟩ := hc'
     refine zq (zh (zp (yb (zp ?_))));refine jx (No) Mut.none_ [] [] (kl [Fx.of (.pointer (some ⟨g2, 8, none⟩)),
      Fx.of (.slice p.ai f.ins.length p.ci),
      Fx.of (.int .i64 ((i4 : Nat) : Int)),
      Fx.of (.pointer (some ⟨g, o + i4 * 7, none⟩)),
      Fx.of (.agg #[.int .i64 x.op, .int .i64 x.d, .int .i64 x.a, .int .i64 x.b, .int .i64 x.t, .int .i64 x.k, .slice C1 x.l.length d1]),
      Fx.of (.pointer (some ⟨g3, 8, none⟩)),
      Fx.of (.slice p'.ai f.ins.length p'.ci),
      Fx.of (.int .i64 ((i4 : Nat) : Int)),
      Fx.of (.pointer (some ⟨g', o' + i4 * 7, none⟩)),
      Fx.of (.agg #[.int .i64 x.op, .int .i64 x.d, .int .i64 x.a, .int .i64 x.b, .int .i64 x.t, .int .i64 x.k, .slice C2 x.l.length d2]),
      Fx.of (.bool true),
      Fx.of (.bool false)]) je rfl trivial (fun _ h => by cases h) ?_ ?_
     · refine ⟨?_, ?_, ?_, ?_, ?_, ?_, ?_, ?_, ?_, ?_, ?_, ?_, trivial⟩
       · intro vs X wq K;exact zb Tryd.underlying27 rfl gz (by decide) rfl ⟨Below.refl _ _, Left.of rfl⟩
       · intro vs X wq K;have LE := K.1;obtain ⟨_, e0, k0⟩ := K.dep 0 rfl rfl rfl;refine zd 144 (.pointer (some ⟨g2, 8, none⟩)) rfl e0 ?_;exact zg Tryd.underlying24 rfl rfl (vr LE B2_4) rfl ⟨Below.refl _ _, Left.of rfl⟩
       · intro vs X wq K;exact zl rfl ⟨Below.refl _ _, Left.of rfl⟩
       · intro vs X wq K;obtain ⟨_, e1, k1⟩ := K.dep 1 rfl rfl rfl;refine zd 145 (.slice p.ai f.ins.length p.ci) rfl e1 ?_;obtain ⟨_, e2, k2⟩ := K.dep 2 rfl rfl rfl;refine zd 146 (.int .i64 ((i4 : Nat) : Int)) rfl e2 ?_;exact yi (j := i4) Tryd.underlying24 vx (congrArg (fun z ↦ some (Value.slice z f.ins.length p.ci)) hA) rfl rfl hlt ⟨Below.refl _ _, Left.of rfl⟩
       · intro vs X wq K;have LE := K.1;obtain ⟨_, e3, k3⟩ := K.dep 3 rfl rfl rfl;refine zd 147 (.pointer (some ⟨g, o + i4 * 7, none⟩)) rfl e3 ?_;exact jb (cs := (jr x C1 d1).toArray) Tryd.underlying41 rfl vx rfl rfl (fun j v hj ↦ xi LE (fun h ↦ h) (hd1 j v (by simpa using hj))) ⟨Below.refl _ _, Left.of rfl⟩
       · intro vs X wq K;exact zb Tryd.underlying27 rfl gz (by decide) rfl ⟨Below.refl _ _, Left.of rfl⟩
       · intro vs X wq K;have LE := K.1;obtain ⟨_, e5, k5⟩ := K.dep 5 rfl rfl rfl;refine zd 149 (.pointer (some ⟨g3, 8, none⟩)) rfl e5 ?_;exact zg Tryd.underlying24 rfl rfl (vr LE B3_4) rfl ⟨Below.refl _ _, Left.of rfl⟩
       · intro vs X wq K;exact zl rfl ⟨Below.refl _ _, Left.of rfl⟩
       · intro vs X wq K;obtain ⟨_, e6, k6⟩ := K.dep 6 rfl rfl rfl;refine zd 150 (.slice p'.ai f.ins.length p'.ci) rfl e6 ?_;obtain ⟨_, e7, k7⟩ := K.dep 7 rfl rfl rfl;refine zd 151 (.int .i64 ((i4 : Nat) : Int)) rfl e7 ?_;exact yi (j := i4) Tryd.underlying24 vx (congrArg (fun z ↦ some (Value.slice z f.ins.length p'.ci)) hA') rfl rfl hlt ⟨Below.refl _ _, Left.of rfl⟩
       · intro vs X wq K;have LE := K.1;obtain ⟨_, e8, k8⟩ := K.dep 8 rfl rfl rfl;refine zd 152 (.pointer (some ⟨g', o' + i4 * 7, none⟩)) rfl e8 ?_;exact jb (cs := (jr x C2 d2).toArray) Tryd.underlying41 rfl vx rfl rfl (fun j v hj ↦ xi LE (fun h ↦ h) (hd2 j v (by simpa using hj))) ⟨Below.refl _ _, Left.of rfl⟩
       · intro vs X wq K;have LE := K.1;obtain ⟨_, e4, k4⟩ := K.dep 4 rfl rfl rfl;refine zd 148 (.agg #[.int .i64 x.op, .int .i64 x.d, .int .i64 x.a, .int .i64 x.b, .int .i64 x.t, .int .i64 x.k, .slice C1 x.l.length d1]) rfl e4 ?_;obtain ⟨_, e9, k9⟩ := K.dep 9 rfl rfl rfl
         refine zd 153 (.agg #[.int .i64 x.op, .int .i64 x.d, .int .i64 x.a, .int .i64 x.b, .int .i64 x.t, .int .i64 x.k, .slice C2 x.l.length d2]) rfl e9 (yf en32 rfl ((same_ins _ x C1 C2 d1 d2 _ _ (hl1.low (X := No) ⟨(Ext.refl No _).drew.trans LE, fun _ h => h.elim⟩) (hl2.low (X := No) ⟨(Ext.refl No _).drew.trans LE, fun _ h => h.elim⟩)).mono ?_));rintro e w2 ⟨rfl, hb⟩
         exact ⟨_, rfl, hb, Left.of rfl⟩
       · intro vs X wq K;obtain ⟨_, e10, k10⟩ := K.dep 10 rfl rfl rfl;refine zd 154 (.bool true) rfl e10 ?_;exact jg rfl ⟨Below.refl _ _, Left.of rfl⟩
     intro vs w12 LE AO AL AF AA;have hbd : Below (w11).heap.size (w11) w12 := (((Ext.refl No (w11)).drew).trans LE).toBelow;obtain ⟨_, e11, k11⟩ := AL.2.2.2.2.2.2.2.2.2.2.2.1;refine vq (τ := [(2, _), (3, _), (8, _), (155, .bool false)]) ⟨rfl, rfl, rfl, congrArg some e11, trivial⟩ ?_;clear AL AF AA AO
     refine zh (qp rfl (zq (zf (zh (zj (mvx rfl (za rfl (qc rfl rfl (yg (by omega)) (avx rfl (yc ?_))))))))));exact yt (i4 + 1) (by show f.ins.length - (i4 + 1) < f.ins.length - i4; omega) ⟨rfl, rfl, rfl, trivial⟩ (⟨hlt, hE4.trans (Ext.of_below hbd No)⟩)
    ·
     refine qe (zm (zm (ya (zh (srx (anx rfl (zv (zu (rs := [.tmp 4]) (vs := [_]) rfl ⟨rfl, trivial⟩ ?_))))))));exact ⟨rfl, (hE.trans hE4).toBelow⟩
end
end Go.Proofs.YtppdgjlmeahimaaDoor
namespace Go.Proofs.YtppdgjlmeahimaaDoor
open Go.RowKit
set_option maxRecDepth 100000
section
variable {P : Program} {N : Nat} {ops : Array Oper} {Q : Exit → Act → World → Prop} {σ : Env} {w : World} {ty : TypeId} {pos : String} {af : Array Edge} {dst : Option Nat} {Post : Value → World → Prop}
theorem zgx {T e : TypeId} {x y : Operand} {g base n c s o : Nat} {v : Value} {xs xs' : List Value} (hs : vc P T 1) (hx : ev σ x = some (.pointer (some ⟨g, o, none⟩))) (hy : ev σ y = some v) (ho : w.ownsRow base e s (.slice (some ⟨g, 0, none⟩) n c) n xs) (hj : o < n * s) (hv : v.cells = #[v]) (h1 : xf [v] = true) (he : xs.set o v = xs')
 (k : ∀ w', w'.ownsRow base e s (.slice (some ⟨g, 0, none⟩) n c) n xs' → Ext (Mut [some g]) w w' → Post undef w') : OW P N ops Q ⟨dst, .store T x y, ty, pos, af, none⟩ σ w Post := by
 subst he;rcases ho.2 with ⟨h0, _⟩ | ⟨g', cap, cur, hv', hb, hh, hn, hm, hsz, ht⟩
 · cases h0
 · cases hv'
   have hcs : o < cur.size := by
    have h2 := congrArg List.length ht;rw [List.length_take, ho.1, Array.length_toList] at h2;omega
   refine qi (cs' := cur.setIfInBounds o v) hs hx hy (show Blk w g e cur from hh) hv h1 hcs rfl fun w' hb' he' => k w' ⟨by rw [List.length_set]; exact ho.1, Or.inr ⟨g, c, _, rfl, hb, hb', hn, hm, by rw [Array.size_setIfInBounds]; exact hsz, ?_⟩⟩ he';rw [Array.toList_setIfInBounds, List.take_set, ht]
end
theorem zrv {α : Type} {en : α → List Value} {s : Nat} (hs : ∀ x, (en x).length = s) {y x : α} {t : Nat} {v : Value} (ht : t < s) (hy : en y = (en x).set t v) : ∀ {xs : List α} {i : Nat}, xs[i]? = some x → (xs.flatMap en).set (i * s + t) v = (xs.set i y).flatMap en
 | [], _, h => by cases h
 | a :: xs, 0, h => by
  obtain rfl := Option.some.inj h;rw [List.set_cons_zero, List.flatMap_cons, List.flatMap_cons, hy, Nat.zero_mul, Nat.zero_add, List.set_append_left _ _ (by rw [hs]; exact ht)]
 | a :: xs, i + 1, h => by
  have ih := zrv hs ht hy (xs := xs) (i := i) h;rw [List.set_cons_succ, List.flatMap_cons, List.flatMap_cons, ← ih, List.set_append_right _ _ (by rw [hs, Nat.succ_mul]; omega), hs];congr 2
  rw [Nat.succ_mul]; omega
theorem flat_same {α : Type} {en : α → List Value} {y x : α} (hy : en y = en x) : ∀ {xs : List α} {i : Nat}, xs[i]? = some x → (xs.set i y).flatMap en = xs.flatMap en
 | [], _, h => by cases h
 | a :: xs, 0, h => by
  obtain rfl := Option.some.inj h;rw [List.set_cons_zero, List.flatMap_cons, List.flatMap_cons, hy]
 | a :: xs, i + 1, h => by rw [List.set_cons_succ, List.flatMap_cons, List.flatMap_cons, flat_same hy (xs := xs) (i := i) h]
theorem set_same {α : Type} : ∀ {xs : List α} {i : Nat} {x : α}, xs[i]? = some x → xs.set i x = xs
 | [], _, _, h => by cases h
 | a :: xs, 0, x, h => by obtain rfl := Option.some.inj h; rfl
 | a :: xs, i + 1, x, h => by rw [List.set_cons_succ, set_same (xs := xs) (i := i) h]
theorem set_at {α : Type} {xs : List α} {i : Nat} {x y : α} (h : xs[i]? = some x) : (xs.set i y)[i]? = some y := by
 have := (List.getElem?_eq_some_iff.1 h).1;rw [List.getElem?_set_self this]
theorem zyx {α : Type} {xs : List α} {i j : Nat} {x y a : α} (h : xs[i]? = some x) (ha : (xs.set i y)[j]? = some a) : (j = i ∧ a = y) ∨ (j ≠ i ∧ xs[j]? = some a) := by
 by_cases e : j = i
 · subst e;rw [set_at h] at ha;exact Or.inl ⟨rfl, (Option.some.inj ha).symm⟩
 · rw [List.getElem?_set_ne (by omega)] at ha;exact Or.inr ⟨e, ha⟩
section
variable {lo g1 g2 : Nat} {z2 : Array Value} {f : LFn} {an : Option Addr} {cn : Nat} {ac : Option Addr} {cc : Nat} {ar : Option Addr} {cr : Nat} {rs : List LReg} {regs : Int} {A : Option Addr} {c : Nat} {is : List IB} {w w1 : World}
theorem CM.setC {i : Nat} {x y : IB} (h : CM lo g1 g2 z2 f an cn ac cc ar cr rs regs A c is w) (hx : is[i]? = some x) (h2 : y.2 = x.2) (hl : y.1.l = x.1.l)
 (ho : w1.ownsRow lo 41 7 (.slice A is.length c) is.length (kc (is.set i y))) (k : Ext (Mut [(Value.slice A is.length c).ownBlock]) w w1) : CM lo g1 g2 z2 f an cn ac cc ar cr rs regs A c (is.set i y) w1 := by
 have hv : liV y = liV x := by unfold liV; rw [h2, hl]
 refine ⟨by rw [List.length_set]; exact qn h.fb h.ins.i (by decide) k, qx h.names h.ins.i (by decide) k, qx h.consts h.ins.i (by decide) k, qx h.rgs h.ins.i (by decide) k, ⟨by rw [List.length_set]; exact ho, fun z hz => ?_, fun j j' a b ha hb hj q hq => ?_⟩, qn h.gb h.ins.i (by decide) k, h.h12⟩
 · rcases List.mem_or_eq_of_mem_set hz with hz | rfl
   · exact qx (h.ins.l z hz) h.ins.i (by decide) k
   · rw [hv, hl]; exact qx (h.ins.l x (List.mem_of_getElem? hx)) h.ins.i (by decide) k
 · rcases zyx hx ha with ⟨rfl, rfl⟩ | ⟨e1, ha2⟩ <;> rcases zyx hx hb with ⟨rfl, rfl⟩ | ⟨e2, hb2⟩
   · exact absurd rfl hj
   · rw [hv] at hq; exact h.ins.ap _ _ _ _ hx hb2 hj q hq
   · rw [hv]; exact h.ins.ap _ _ _ _ ha2 hx hj q hq
   · exact h.ins.ap _ _ _ _ ha2 hb2 hj q hq
theorem CM.setL {i : Nat} {x y : IB} (h : CM lo g1 g2 z2 f an cn ac cc ar cr rs regs A c is w) (hx : is[i]? = some x) (h2 : y.2 = x.2) (hl : y.1.l.length = x.1.l.length) (hi : jr y.1 y.2.1 y.2.2 = jr x.1 x.2.1 x.2.2)
 (ho : w1.ownsRow lo 3 1 (liV x) x.1.l.length (yz y.1.l)) (k : Ext (Mut [(liV x).ownBlock]) w w1) : CM lo g1 g2 z2 f an cn ac cc ar cr rs regs A c (is.set i y) w1 := by
 have hv : liV y = liV x := by unfold liV; rw [h2, hl]
 have hxo := h.ins.l x (List.mem_of_getElem? hx);have hcs : kc (is.set i y) = kc is := by unfold kc; exact flat_same (en := fun x : IB => jr x.1 x.2.1 x.2.2) hi hx
 refine ⟨by rw [List.length_set]; exact qn h.fb hxo (by decide) k, qx h.names hxo (by decide) k, qx h.consts hxo (by decide) k, qx h.rgs hxo (by decide) k, ⟨by rw [List.length_set, hcs]; exact qx h.ins.i hxo (by decide) k, fun z hz => ?_, fun j j' a b ha hb hj q hq => ?_⟩, qn h.gb hxo (by decide) k, h.h12⟩
 · obtain ⟨j, hj⟩ := List.mem_iff_getElem?.1 hz;rcases zyx hx hj with ⟨rfl, rfl⟩ | ⟨e1, hz⟩
   · rw [hv, hl]; exact ho
   · exact qf (h.ins.l z (List.mem_of_getElem? hz)) k fun q hq hm => h.ins.ap _ _ _ _ hz hx e1 q hq (jo hm)
 · rcases zyx hx ha with ⟨rfl, rfl⟩ | ⟨e1, ha2⟩ <;> rcases zyx hx hb with ⟨rfl, rfl⟩ | ⟨e2, hb2⟩
   · exact absurd rfl hj
   · rw [hv] at hq; exact h.ins.ap _ _ _ _ hx hb2 hj q hq
   · rw [hv]; exact h.ins.ap _ _ _ _ ha2 hx hj q hq
   · exact h.ins.ap _ _ _ _ ha2 hb2 hj q hq
theorem CM.setR {rs' : List LReg} (h : CM lo g1 g2 z2 f an cn ac cc ar cr rs regs A c is w) (hl : rs'.length = rs.length) (ho : w1.ownsRow lo 50 4 (.slice ar rs.length cr) rs.length (rgsV rs')) (k : Ext (Mut [(Value.slice ar rs.length cr).ownBlock]) w w1) : CM lo g1 g2 z2 f an cn ac cc ar cr rs' regs A c is w1 :=
 ⟨by rw [hl]; exact qn h.fb h.rgs (by decide) k, qx h.names h.rgs (by decide) k, qx h.consts h.rgs (by decide) k, by rw [hl]; exact ho, ⟨qx h.ins.i h.rgs (by decide) k, fun z hz => qx (h.ins.l z hz) h.rgs (by decide) k, h.ins.ap⟩, qn h.gb h.rgs (by decide) k, h.h12⟩
end
theorem rl_ul (op : Int) : (rL op != -1) = uL op := by
 refine op_all (p := fun op => (rL op != -1) = uL op) (by decide +kernel) (fun op h => ?_) op;unfold rL uL; rw [flN_out h]; rfl
theorem turn_at {α : Type} {g : α → α} {xs : List α} {i : Nat} {x : α} (h : (((xs.map g).take i) ++ xs.drop i)[i]? = some x) (hi : i < xs.length) : xs[i]? = some x := by
 rw [List.getElem?_append_right (by simp; omega), List.length_take, List.length_map, show i - min i xs.length = 0 by omega, List.getElem?_drop, Nat.add_zero] at h;exact h
theorem turn_set {α : Type} {g : α → α} {xs : List α} {i : Nat} {x : α} (h : xs[i]? = some x) : (((xs.map g).take i) ++ xs.drop i).set i (g x) = ((xs.map g).take (i + 1)) ++ xs.drop (i + 1) := by
 have hi := (List.getElem?_eq_some_iff.1 h).1;have hx : xs[i] = x := by rw [List.getElem?_eq_getElem hi] at h; exact Option.some.inj h
 rw [List.set_append_right _ _ (by rw [List.length_take]; omega), List.length_take, List.length_map, show i - min i xs.length = 0 by omega, List.drop_eq_getElem_cons hi, List.set_cons_zero, List.take_add_one, List.getElem?_map, h];simp
end Go.Proofs.YtppdgjlmeahimaaDoor
namespace Go.Proofs.YtppdgjlmeahimaaDoor
open Go.RowKit
set_option maxRecDepth 100000
attribute [local irreducible] OW RS
theorem ow_load_at {w : World} {g o : Nat} {v : Value} (h : w.cell? ⟨g, o, none⟩ = some v) : w.cell? ⟨g, 0 + o, none⟩ = some v := by rw [Nat.zero_add]; exact h
def yD (m : List Int) (x : IB) : IB := (⟨x.1.op, (qo m x.1).d, x.1.a, x.1.b, x.1.t, x.1.k, x.1.l⟩, x.2)
def yA (m : List Int) (x : IB) : IB := (⟨x.1.op, (qo m x.1).d, (qo m x.1).a, x.1.b, x.1.t, x.1.k, x.1.l⟩, x.2)
def yB (m : List Int) (x : IB) : IB := (⟨x.1.op, (qo m x.1).d, (qo m x.1).a, (qo m x.1).b, x.1.t, x.1.k, x.1.l⟩, x.2)
def yL (m : List Int) (x : IB) (k : Nat) : IB := (⟨x.1.op, (qo m x.1).d, (qo m x.1).a, (qo m x.1).b, x.1.t, x.1.k, znz (uL x.1.op) m x.1.l k⟩, x.2)
section
variable {m : List Int} {x : IB}
theorem pd_yes (h : uD x.1.op = true) : (qo m x.1).d = mAt m x.1.d := if_pos h
theorem pd_no (h : uD x.1.op = false) : (qo m x.1).d = x.1.d := if_neg (by rw [h]; decide)
theorem pa_yes (h : uA x.1.op = true) : (qo m x.1).a = mAt m x.1.a := if_pos h
theorem pa_no (h : uA x.1.op = false) : (qo m x.1).a = x.1.a := if_neg (by rw [h]; decide)
theorem pb_yes (h : uB x.1.op = true) : (qo m x.1).b = mAt m x.1.b := if_pos h
theorem pb_no (h : uB x.1.op = false) : (qo m x.1).b = x.1.b := if_neg (by rw [h]; decide)
theorem yL_0 : yL m x 0 = yB m x := by unfold yL yB; rw [midL_0]
theorem yL_no (h : uL x.1.op = false) (k : Nat) : yL m x k = (qo m x.1, x.2) := by
 unfold yL qo;rw [h, midL_no];simp
theorem yL_end : yL m x x.1.l.length = (qo m x.1, x.2) := by
 unfold yL qo;rw [midL_end]
theorem yL_ins (k : Nat) : jr (yL m x k).1 (yL m x k).2.1 (yL m x k).2.2 = jr (yB m x).1 (yB m x).2.1 (yB m x).2.2 := by
 unfold jr yL yB;simp only [zrx]
end
section
variable (w : World) (p : Pl) (f : LFn) (n0 : Nat) (hF : FnA n0 w p f) (A : Option Addr) (c n1 : Nat) (m : List Int) (hm : IntsA n1 w A m) (n : Int) (hR : jq f m n) (hn1 : n1 ≤ w.heap.size)
include hF hm hR hn1
theorem rplace_any : Calls Tryd.prog 15 #[fnV p f, .slice A m.length c, .int .i64 n] w (RetFn w (zdq f m n)) := by
 have hn0 := hF.size;have hil := hF.ins.len;have hrl := hF.rgs.len;have hreg := hR.2.1;obtain ⟨lo, hlo⟩ : ∃ lo, lo = w.heap.size := ⟨_, rfl⟩;refine qs Tryd.func15 rfl Tryd.ntmps15 rfl (srx (za rfl (vk rfl ?_)));rintro g3 wA B3 E1 G3;refine za rfl (qb zr27 ?_);rintro g6 wB B6 E2 G6
 have B3b : Blk wB g3 27 (fcC f p.an p.cn p.ac p.cc p.ai f.ins.length p.ci p.ar p.cr f.rgs.length f.regs) := B3.ext E2 (fun h => h.elim);have hE2 := E1.trans E2;have hFB := hF.low (X := No) ⟨hE2, fun _ h => h.elim⟩;have hmB := hm.low (X := No) ⟨hE2, fun _ h => h.elim⟩;have hs2 := hE2.size;have hs1 := E1.size;obtain ⟨base, hbase⟩ : ∃ base, base = wB.heap.size := ⟨_, rfl⟩
 have hlob : lo ≤ base := by omega
 have h6b : g6 < base := by have := B6.lt; omega
 refine rnx (srx (za rfl (zo Tryd.underlying27 rfl jp rfl B3b rfl (za rfl (yf en16 rfl ((copy_any _ p f n0 hFB).mono ?_))))));rintro e w1 ⟨q, rfl, hO, hb⟩;refine ⟨_, rfl, ?_⟩;have E3 := Ext.of_below hb No;have hs3 := E3.size;rw [← hbase] at hO;obtain ⟨w3, hw3⟩ : ∃ w3, w3 = w1 := ⟨_, rfl⟩;subst hw3;have hql : q.is.length = f.ins.length := by rw [← hO.ise, List.length_map]
 refine za rfl (qb zr27 ?_);rintro g7 w4 B70 E4 G7;refine zw (qz jp rfl rfl B70 rfl rfl rfl ?_);rintro w5 B7 E5;refine rnx (srx (mvx rfl (za rfl (zb Tryd.underlying27 rfl sz3 (by decide) rfl (zw (qi (cs' := fcC f q.an q.cn q.ac q.cc q.ai f.ins.length q.ci q.ar q.cr f.rgs.length n) sz3 rfl rfl B7 rfl rfl (Nat.le_of_ble_eq_true rfl) rfl ?_))))))
 rintro wC B7r E6;have hX6 : Ext (fun q => w3.heap.size ≤ q) w3 wC := ((E4.mono (Y := fun q => w3.heap.size ≤ q) (fun _ h _ => h.elim)).step E5 (fun q hq => Or.inl (show w3.heap.size ≤ q by have := qt hq; omega))).step E6 (fun q hq => Or.inl (show w3.heap.size ≤ q by have := qt hq; omega));have hOC := hO.ext hX6 (fun b hb hx => by have := hO.bl hb; have hx : w3.heap.size ≤ b := hx; omega)
 have hEC : Ext (fun q => base ≤ q) wB wC := (E3.mono (Y := fun q => base ≤ q) (fun _ h _ => h.elim)).step hX6 (fun q hq => Or.inl (show base ≤ q by have hq : w3.heap.size ≤ q := hq; omega));have B6C : Blk wC g6 27 _ := B6.ext hEC (fun h => by have h : base ≤ g6 := h; omega);obtain ⟨z6, hz6⟩ : ∃ z6, Blk wC g6 27 z6 ∧ z6.size = 10 := ⟨_, B6C, rfl⟩
 have hmz : ∀ {z}, Ext (fun q => base ≤ q) wB z → IntsA n1 z A m := fun k => hmB.low (X := fun q => base ≤ q) ⟨k, fun q hq => by have hq : base ≤ q := hq; omega⟩;have h7b : base ≤ g7 := by omega
 have M0 : CM base g7 g6 z6 f q.an q.cn q.ac q.cc q.ar q.cr f.rgs n q.ai q.ci q.is wC := ⟨by rw [hql]; exact B7r, hOC.names, hOC.consts, hOC.rgs, hOC.ins, hz6.1, by omega⟩
 refine rnx (zp (srx (anx rfl (yb (qu (ι := Nat × List IB) (fun (i, is) => [(1, .slice A m.length c), (6, .pointer (some ⟨g6, 0, none⟩)), (7, .pointer (some ⟨g7, 0, none⟩)), (8, .int .i64 ((i : Nat) : Int))]) (fun (i, is) w' => i ≤ f.ins.length ∧ Ext (fun q => base ≤ q) wB w' ∧ CM base g7 g6 z6 f q.an q.cn q.ac q.cc q.ar q.cr f.rgs n q.ai q.ci is w' ∧ is.map (·.1) = (f.ins.map (qo m)).take i ++ f.ins.drop i) (fun (i, _) => f.ins.length - i) (0, q.is) ⟨rfl, rfl, rfl, rfl, trivial⟩ (⟨Nat.zero_le _, hEC, M0, by rw [List.take_zero, List.drop_zero, List.nil_append]; exact hO.ise⟩) ?_)))))
 rintro ⟨i, is⟩ w3 ⟨hil2, hEi, Mi, hisi⟩;have hisl : is.length = f.ins.length := by have h := congrArg List.length hisi; rw [List.length_map, List.length_append, List.length_take, List.length_map, List.length_drop] at h; omega
 refine zp (srx (mvx rfl (za rfl (zb Tryd.underlying27 rfl gz (by decide) rfl (za rfl (zg Tryd.underlying24 rfl rfl Mi.fb rfl (za rfl (yw Tryd.underlying24 rfl (za rfl (yy rfl rfl (rnx (zr rfl (fun hc => ?_) (fun hc => ?_)))))))))))))
 ·
  have hc := of_decide_eq_true hc;have hlt : i < is.length := by omega
  obtain ⟨x, hx⟩ : ∃ x, is[i]? = some x := ⟨_, List.getElem?_eq_getElem hlt⟩;have hxf : f.ins[i]? = some x.1 := by
   refine turn_at (g := qo m) ?_ (by omega);rw [← hisi, List.getElem?_map, hx]; rfl
  obtain ⟨pd, pa, pb, pl⟩ := place_in hR (List.mem_of_getElem? hxf);have hxl : 8 * x.1.l.length ≤ 140737488351232 := (hF.nums.ii x.1 (List.mem_of_getElem? hxf)).2.1;obtain ⟨gI, hA, hgI, hgI2, hcI⟩ := gg Mi.ins.i (by omega);obtain ⟨wi, hwi⟩ : ∃ wi, wi = w3 := ⟨_, rfl⟩;subst hwi
  refine zq (zh (zp (xv (ι := List IB) (fun isL => [(1, .slice A m.length c), (6, .pointer (some ⟨g6, 0, none⟩)), (7, .pointer (some ⟨g7, 0, none⟩)), (8, .int .i64 ((i : Nat) : Int))]) (fun isL w' => Ext (fun q => base ≤ q) wB w' ∧ CM base g7 g6 z6 f q.an q.cn q.ac q.cc q.ar q.cr f.rgs n q.ai q.ci isL w' ∧ isL = is.set i (qo m x.1, x.2)) ?_ ?_)))
  ·
   refine yb (srx (za rfl (zb Tryd.underlying27 rfl gz (by decide) rfl (za rfl (zg Tryd.underlying24 rfl rfl Mi.fb rfl (mvx rfl (za rfl (yi (j := i) Tryd.underlying24 vx (congrArg (fun z ↦ some (Value.slice z is.length q.ci)) hA) rfl rfl hlt (anx rfl (srx (mvx rfl (za rfl (gj rfl (za rfl (zb Tryd.underlying41 rfl sz3 (by decide) rfl (za rfl (zt Tryd.underlying3 rfl rfl (ow_load_at (hcI (i * 7 + 0) _ (zcq hx rfl))) (za rfl (yf en33 rfl ((ztx _ x.1.op).mono ?_))))))))))))))))))))
   rintro e w6 ⟨rfl, hb⟩;refine ⟨_, rfl, ?_⟩;have E7 := Ext.of_below hb No;have hs7 := E7.size;refine za rfl (qb zpv ?_);rintro g10 w8 B100 E8 G10;refine zw (qz yk rfl rfl B100 rfl rfl rfl ?_);rintro wR B10 E9
   have hER : Ext (fun q => wi.heap.size ≤ q) wi wR := ((E7.trans E8).mono (Y := fun q => wi.heap.size ≤ q) (fun _ h _ => h.elim)).step E9 (fun q hq => Or.inl (show wi.heap.size ≤ q by have := qt hq; omega));have MR := Mi.late hER (fun _ h => h);have hbi := hEi.size
   have hKR : Ext (fun q => base ≤ q) wB wR := hEi.step hER (fun q hq => Or.inl (show base ≤ q by have hq : wi.heap.size ≤ q := hq; omega));obtain ⟨wFD, hwFD⟩ : ∃ wFD, wFD = wR := ⟨_, rfl⟩;subst hwFD
   refine rnx (zp (srx (za rfl (zb Tryd.underlying68 rfl sz4 (by decide) rfl (za rfl (zg Tryd.underlying4 rfl rfl B10 rfl (rnx (xv (ι := List IB) (fun isD => [(1, .slice A m.length c), (6, .pointer (some ⟨g6, 0, none⟩)), (7, .pointer (some ⟨g7, 0, none⟩)), (8, .int .i64 ((i : Nat) : Int)), (9, .pointer (some ⟨gI, 0 + i * 7, none⟩)), (10, .pointer (some ⟨g10, 0, none⟩))]) (fun isD w' => Ext (fun q => base ≤ q) wB w' ∧ CM base g7 g6 z6 f q.an q.cn q.ac q.cc q.ar q.cr f.rgs n q.ai q.ci isD w' ∧ isD = is.set i (yD m x) ∧ Blk w' g10 68 #[.bool (flN x.1.op != 0), .bool (uD x.1.op), .bool (uA x.1.op), .bool (uB x.1.op), .bool (uT x.1.op), .int .i64 (rL x.1.op), .int .i64 (rK x.1.op), .int .i64 (rLo x.1.op), .int .i64 (rHi x.1.op)]) ?_ ?_))))))))
   ·
    refine zr rfl (fun hu => ?_) (fun hu => ?_)
    ·
     have hrg := pd hu;obtain ⟨gm, om, hAm, hgm, hcm⟩ := (hmz hKR).cell (xe hR hrg.1 hrg.2);obtain ⟨gJ, hJ, _, _, hcJ⟩ := gg MR.ins.i (by have := (List.getElem?_eq_some_iff.1 hx).1; omega);rw [hA] at hJ;cases hJ
     have hO9 := MR.ins.i;rw [hA] at hO9
     refine zj (mvx rfl (mvx rfl (mvx rfl (za rfl (gj rfl (za rfl (zb Tryd.underlying41 rfl sz3 (by decide) rfl (za rfl (zt Tryd.underlying3 rfl rfl (by have h9 := hcJ (i * 7 + 1) _ (zcq hx rfl); rw [Nat.zero_add]; exact h9) (za rfl (zk (j := (x.1.d).toNat) Tryd.underlying28 sz3 (congrArg (fun z ↦ some (Value.slice z m.length c)) hAm) rfl (by show x.1.d = (((x.1.d).toNat : Nat) : Int); omega) (by omega) (za rfl (zt Tryd.underlying3 rfl rfl hcm (za rfl (gj rfl (za rfl (zb Tryd.underlying41 rfl sz3 (by decide) rfl (zw (zgx (o := 0 + i * 7 + 1) (xs' := kc (is.set i (yD m x))) sz3 rfl rfl hO9 (by have := (List.getElem?_eq_some_iff.1 hx).1; omega) rfl rfl (by rw [Nat.zero_add]; unfold kc; exact zrv (en := fun x : IB => jr x.1 x.2.1 x.2.2) (fun _ => rfl) (t := 1) (by decide) (by unfold jr; rw [show (yD m x).1.d = mAt m x.1.d from pd_yes hu]; rfl) hx) ?_)))))))))))))))))))
     rintro wS OS ES;refine yc ?_;exact jh (is.set i (yD m x)) ⟨rfl, rfl, rfl, rfl, rfl, rfl, trivial⟩ (⟨hKR.step ES (fun q hq => Or.inl (show base ≤ q by have := qt hq; omega)), CM.setC MR hx rfl rfl (by rw [hA]; exact OS) (by rw [hA]; exact ES), rfl, qn B10 hO9 (by decide) ES⟩)
    ·
     refine zq ?_;exact jh is ⟨rfl, rfl, rfl, rfl, rfl, rfl, trivial⟩ (⟨hKR, MR, (set_same (by rw [show yD m x = x by unfold yD; rw [pd_no hu]]; exact hx)).symm, B10⟩)
   ·
    rintro isD w8 ⟨hKD, MD, hsetD, B10D⟩;have hsD : isD[i]? = some (yD m x) := by rw [hsetD]; exact set_at hx
    obtain ⟨wFA, hwFA⟩ : ∃ wFA, wFA = w8 := ⟨_, rfl⟩;subst hwFA
    refine zp (srx (za rfl (zb Tryd.underlying68 rfl sz4 (by decide) rfl (za rfl (zg Tryd.underlying4 rfl rfl B10D rfl (rnx (xv (ι := List IB) (fun isA => [(1, .slice A m.length c), (6, .pointer (some ⟨g6, 0, none⟩)), (7, .pointer (some ⟨g7, 0, none⟩)), (8, .int .i64 ((i : Nat) : Int)), (9, .pointer (some ⟨gI, 0 + i * 7, none⟩)), (10, .pointer (some ⟨g10, 0, none⟩))]) (fun isA w' => Ext (fun q => base ≤ q) wB w' ∧ CM base g7 g6 z6 f q.an q.cn q.ac q.cc q.ar q.cr f.rgs n q.ai q.ci isA w' ∧ isA = is.set i (yA m x) ∧ Blk w' g10 68 #[.bool (flN x.1.op != 0), .bool (uD x.1.op), .bool (uA x.1.op), .bool (uB x.1.op), .bool (uT x.1.op), .int .i64 (rL x.1.op), .int .i64 (rK x.1.op), .int .i64 (rLo x.1.op), .int .i64 (rHi x.1.op)]) ?_ ?_)))))))
    ·
     refine zr rfl (fun hu => ?_) (fun hu => ?_)
     ·
      have hrg := pa hu;obtain ⟨gm, om, hAm, hgm, hcm⟩ := (hmz hKD).cell (xe hR hrg.1 hrg.2);obtain ⟨gJ, hJ, _, _, hcJ⟩ := gg MD.ins.i (by have := (List.getElem?_eq_some_iff.1 hsD).1; omega);rw [hA] at hJ;cases hJ
      have hO9 := MD.ins.i;rw [hA] at hO9
      refine zj (mvx rfl (mvx rfl (mvx rfl (za rfl (gj rfl (za rfl (zb Tryd.underlying41 rfl sz3 (by decide) rfl (za rfl (zt Tryd.underlying3 rfl rfl (by have h9 := hcJ (i * 7 + 2) _ (zcq hsD rfl); rw [Nat.zero_add]; exact h9) (za rfl (zk (j := (x.1.a).toNat) Tryd.underlying28 sz3 (congrArg (fun z ↦ some (Value.slice z m.length c)) hAm) rfl (by show x.1.a = (((x.1.a).toNat : Nat) : Int); omega) (by omega) (za rfl (zt Tryd.underlying3 rfl rfl hcm (za rfl (gj rfl (za rfl (zb Tryd.underlying41 rfl sz3 (by decide) rfl (zw (zgx (o := 0 + i * 7 + 2) (xs' := kc (isD.set i (yA m x))) sz3 rfl rfl hO9 (by have := (List.getElem?_eq_some_iff.1 hsD).1; omega) rfl rfl (by rw [Nat.zero_add]; unfold kc; exact zrv (en := fun x : IB => jr x.1 x.2.1 x.2.2) (fun _ => rfl) (t := 2) (by decide) (by unfold jr; rw [show (yA m x).1.a = mAt m x.1.a from pa_yes hu]; rfl) hsD) ?_)))))))))))))))))))
      rintro wS OS ES;refine yc ?_;exact jh (isD.set i (yA m x)) ⟨rfl, rfl, rfl, rfl, rfl, rfl, trivial⟩ (⟨hKD.step ES (fun q hq => Or.inl (show base ≤ q by have := qt hq; omega)), CM.setC MD hsD rfl rfl (by rw [hA]; exact OS) (by rw [hA]; exact ES), by rw [hsetD, List.set_set], qn B10D hO9 (by decide) ES⟩)
     ·
      refine zq ?_;exact jh isD ⟨rfl, rfl, rfl, rfl, rfl, rfl, trivial⟩ (⟨hKD, MD, by rw [hsetD]; congr 1; unfold yD yA; rw [pa_no hu], B10D⟩)
    ·
     rintro isA w10 ⟨hKA, MA, hsetA, B10A⟩;have hsA : isA[i]? = some (yA m x) := by rw [hsetA]; exact set_at hx
     obtain ⟨wFB, hwFB⟩ : ∃ wFB, wFB = w10 := ⟨_, rfl⟩;subst hwFB
     refine zp (srx (za rfl (zb Tryd.underlying68 rfl sz4 (by decide) rfl (za rfl (zg Tryd.underlying4 rfl rfl B10A rfl (rnx (xv (ι := List IB) (fun isB => [(1, .slice A m.length c), (6, .pointer (some ⟨g6, 0, none⟩)), (7, .pointer (some ⟨g7, 0, none⟩)), (8, .int .i64 ((i : Nat) : Int)), (9, .pointer (some ⟨gI, 0 + i * 7, none⟩)), (10, .pointer (some ⟨g10, 0, none⟩))]) (fun isB w' => Ext (fun q => base ≤ q) wB w' ∧ CM base g7 g6 z6 f q.an q.cn q.ac q.cc q.ar q.cr f.rgs n q.ai q.ci isB w' ∧ isB = is.set i (yB m x) ∧ Blk w' g10 68 #[.bool (flN x.1.op != 0), .bool (uD x.1.op), .bool (uA x.1.op), .bool (uB x.1.op), .bool (uT x.1.op), .int .i64 (rL x.1.op), .int .i64 (rK x.1.op), .int .i64 (rLo x.1.op), .int .i64 (rHi x.1.op)]) ?_ ?_)))))))
     ·
      refine zr rfl (fun hu => ?_) (fun hu => ?_)
      ·
       have hrg := pb hu;obtain ⟨gm, om, hAm, hgm, hcm⟩ := (hmz hKA).cell (xe hR hrg.1 hrg.2);obtain ⟨gJ, hJ, _, _, hcJ⟩ := gg MA.ins.i (by have := (List.getElem?_eq_some_iff.1 hsA).1; omega);rw [hA] at hJ;cases hJ
       have hO9 := MA.ins.i;rw [hA] at hO9
       refine zj (mvx rfl (mvx rfl (mvx rfl (za rfl (gj rfl (za rfl (zb Tryd.underlying41 rfl sz3 (by decide) rfl (za rfl (zt Tryd.underlying3 rfl rfl (by have h9 := hcJ (i * 7 + 3) _ (zcq hsA rfl); rw [Nat.zero_add]; exact h9) (za rfl (zk (j := (x.1.b).toNat) Tryd.underlying28 sz3 (congrArg (fun z ↦ some (Value.slice z m.length c)) hAm) rfl (by show x.1.b = (((x.1.b).toNat : Nat) : Int); omega) (by omega) (za rfl (zt Tryd.underlying3 rfl rfl hcm (za rfl (gj rfl (za rfl (zb Tryd.underlying41 rfl sz3 (by decide) rfl (zw (zgx (o := 0 + i * 7 + 3) (xs' := kc (isA.set i (yB m x))) sz3 rfl rfl hO9 (by have := (List.getElem?_eq_some_iff.1 hsA).1; omega) rfl rfl (by rw [Nat.zero_add]; unfold kc; exact zrv (en := fun x : IB => jr x.1 x.2.1 x.2.2) (fun _ => rfl) (t := 3) (by decide) (by unfold jr; rw [show (yB m x).1.b = mAt m x.1.b from pb_yes hu]; rfl) hsA) ?_)))))))))))))))))))
       rintro wS OS ES;refine yc ?_;exact jh (isA.set i (yB m x)) ⟨rfl, rfl, rfl, rfl, rfl, rfl, trivial⟩ (⟨hKA.step ES (fun q hq => Or.inl (show base ≤ q by have := qt hq; omega)), CM.setC MA hsA rfl rfl (by rw [hA]; exact OS) (by rw [hA]; exact ES), by rw [hsetA, List.set_set], qn B10A hO9 (by decide) ES⟩)
      ·
       refine zq ?_;exact jh isA ⟨rfl, rfl, rfl, rfl, rfl, rfl, trivial⟩ (⟨hKA, MA, by rw [hsetA]; congr 1; unfold yA yB; rw [pb_no hu], B10A⟩)
     ·
      rintro isB w12 ⟨hKB, MB, hsetB, B10B⟩;have hsB : isB[i]? = some (yB m x) := by rw [hsetB]; exact set_at hx
      have hi4 : i < isB.length := (List.getElem?_eq_some_iff.1 hsB).1;obtain ⟨wL, hwL⟩ : ∃ wL, wL = w12 := ⟨_, rfl⟩;subst hwL
      refine srx (anx rfl (yb (qu (ι := Nat × List IB) (fun (k, isk) => [(1, .slice A m.length c), (6, .pointer (some ⟨g6, 0, none⟩)), (7, .pointer (some ⟨g7, 0, none⟩)), (8, .int .i64 ((i : Nat) : Int)), (9, .pointer (some ⟨gI, 0 + i * 7, none⟩)), (10, .pointer (some ⟨g10, 0, none⟩)), (11, .int .i64 ((k : Nat) : Int))]) (fun (k, isk) w' => k ≤ x.1.l.length ∧ Ext (fun q => base ≤ q) wB w' ∧ CM base g7 g6 z6 f q.an q.cn q.ac q.cc q.ar q.cr f.rgs n q.ai q.ci isk w' ∧ isk = is.set i (yL m x k) ∧ Blk w' g10 68 #[.bool (flN x.1.op != 0), .bool (uD x.1.op), .bool (uA x.1.op), .bool (uB x.1.op), .bool (uT x.1.op), .int .i64 (rL x.1.op), .int .i64 (rK x.1.op), .int .i64 (rLo x.1.op), .int .i64 (rHi x.1.op)]) (fun (k, _) => x.1.l.length - k) (0, isB) ⟨rfl, rfl, rfl, rfl, rfl, rfl, rfl, trivial⟩ (⟨Nat.zero_le _, hKB, MB, by rw [yL_0]; exact hsetB, B10B⟩) ?_)))
      rintro ⟨k, isk⟩ w14 ⟨hkl, hKk, Mk, hsetk, B10k⟩;have hsk : isk[i]? = some (yL m x k) := by rw [hsetk]; exact set_at hx
      obtain ⟨gJ, hJ, _, _, hcJ⟩ := gg Mk.ins.i (by have := (List.getElem?_eq_some_iff.1 hsk).1; omega);rw [hA] at hJ;cases hJ
      have hcL : w14.cell? ⟨gI, 0 + i * 7 + 6, none⟩ = some (.slice x.2.1 x.1.l.length x.2.2) := by
       have h9 := hcJ (i * 7 + 6) (.slice x.2.1 x.1.l.length x.2.2) (zcq hsk (by rw [yL_ins]; rfl));rw [Nat.zero_add]; exact h9
      refine zp (srx (mvx rfl (mvx rfl (za rfl (gj rfl (za rfl (zb Tryd.underlying41 rfl gu (by decide) rfl (za rfl (zt Tryd.underlying28 rfl rfl hcL (za rfl (yw Tryd.underlying28 rfl (za rfl (yy rfl rfl (mvx rfl (yx 76 rfl (fun hk => ?_) (fun hk => ?_))))))))))))))))
      ·
       have hk := of_decide_eq_true hk;have hklt : k < x.1.l.length := by omega
       refine onx rfl (zb Tryd.underlying68 rfl sz3 (by decide) rfl (onx rfl (zg Tryd.underlying3 rfl rfl B10k rfl (onx rfl (vb rfl rfl (za rfl (zx rfl rfl (rnx (zy 80 (.bool (uL x.1.op)) rfl ((by rw [rl_ul] : (.bool ((rL x.1.op) != (-1)) : Value) = _)) (zr rfl (fun hu => ?_) (fun hu => ?_)))))))))))
       ·
        obtain ⟨y, hy⟩ : ∃ y, x.1.l[k]? = some y := ⟨_, List.getElem?_eq_getElem hklt⟩;have hrg := pl hu y (List.mem_of_getElem? hy);obtain ⟨gm, om, hAm, hgm, hcm⟩ := (hmz hKk).cell (xe hR hrg.1 hrg.2);have hO9 : w14.ownsRow base 3 1 (.slice x.2.1 x.1.l.length x.2.2) x.1.l.length (yz (znz (uL x.1.op) m x.1.l k)) := by
         have h9 := Mk.ins.l _ (List.mem_of_getElem? hsk);unfold liV yL at h9;simp only [zrx] at h9
         exact h9
        obtain ⟨gL, hAL, hgL, hgL2, hcLL⟩ := jm hO9 (by omega);rw [hAL] at hO9;have hcy := hcLL k (.int .i64 y) (by unfold yz; rw [List.getElem?_map, hu, midL_at hy]; rfl);refine zq (zh (zp (yb (kr je (kt 16 rfl ?_)))));refine vv (No) Mut.none_ [] [] (kl [Fx.of (.pointer (some ⟨gI, 0 + i * 7, none⟩)),
         Fx.of (.pointer (some ⟨gI, 0 + i * 7, none⟩)),
         Fx.of (.pointer (some ⟨gI, 0 + i * 7 + 6, none⟩)),
         Fx.of (.slice x.2.1 x.1.l.length x.2.2),
         Fx.of (.int .i64 ((k : Nat) : Int)),
         Fx.of (.slice A m.length c),
         Fx.of (.pointer (some ⟨gI, 0 + i * 7, none⟩)),
         Fx.of (.pointer (some ⟨gI, 0 + i * 7, none⟩)),
         Fx.of (.pointer (some ⟨gI, 0 + i * 7 + 6, none⟩)),
         Fx.of (.slice x.2.1 x.1.l.length x.2.2),
         Fx.of (.int .i64 ((k : Nat) : Int)),
         Fx.of (.pointer (some ⟨gL, 0 + k, none⟩)),
         Fx.of (.int .i64 y),
         Fx.of (.pointer (some ⟨gm, om + y.toNat, none⟩)),
         Fx.of (.int .i64 (mAt m y)),
         Fx.of (.pointer (some ⟨gL, 0 + k, none⟩))]) rfl trivial (fun _ h => by cases h) ?_ ?_
        · refine ⟨?_, ?_, ?_, ?_, ?_, ?_, ?_, ?_, ?_, ?_, ?_, ?_, ?_, ?_, ?_, ?_, trivial⟩
          · intro vs X wq K;exact zl rfl ⟨Below.refl _ _, Left.of rfl⟩
          · intro vs X wq K;obtain ⟨_, e0, k0⟩ := K.dep 0 rfl rfl rfl;refine zd 83 (.pointer (some ⟨gI, 0 + i * 7, none⟩)) rfl e0 ?_;exact gj rfl ⟨Below.refl _ _, Left.of rfl⟩
          · intro vs X wq K;obtain ⟨_, e1, k1⟩ := K.dep 1 rfl rfl rfl;refine zd 84 (.pointer (some ⟨gI, 0 + i * 7, none⟩)) rfl e1 ?_;exact zb Tryd.underlying41 rfl gu (by decide) rfl ⟨Below.refl _ _, Left.of rfl⟩
          · intro vs X wq K;have LE := K.1;obtain ⟨_, e2, k2⟩ := K.dep 2 rfl rfl rfl;refine zd 85 (.pointer (some ⟨gI, 0 + i * 7 + 6, none⟩)) rfl e2 ?_;exact zt Tryd.underlying28 rfl rfl (js LE hcL) ⟨Below.refl _ _, Left.of rfl⟩
          · intro vs X wq K;exact zl rfl ⟨Below.refl _ _, Left.of rfl⟩
          · intro vs X wq K;exact zl rfl ⟨Below.refl _ _, Left.of rfl⟩
          · intro vs X wq K;exact zl rfl ⟨Below.refl _ _, Left.of rfl⟩
          · intro vs X wq K;obtain ⟨_, e6, k6⟩ := K.dep 6 rfl rfl rfl;refine zd 89 (.pointer (some ⟨gI, 0 + i * 7, none⟩)) rfl e6 ?_;exact gj rfl ⟨Below.refl _ _, Left.of rfl⟩
          · intro vs X wq K;obtain ⟨_, e7, k7⟩ := K.dep 7 rfl rfl rfl;refine zd 90 (.pointer (some ⟨gI, 0 + i * 7, none⟩)) rfl e7 ?_;exact zb Tryd.underlying41 rfl gu (by decide) rfl ⟨Below.refl _ _, Left.of rfl⟩
          · intro vs X wq K;have LE := K.1;obtain ⟨_, e8, k8⟩ := K.dep 8 rfl rfl rfl;refine zd 91 (.pointer (some ⟨gI, 0 + i * 7 + 6, none⟩)) rfl e8 ?_;exact zt Tryd.underlying28 rfl rfl (js LE hcL) ⟨Below.refl _ _, Left.of rfl⟩
          · intro vs X wq K;exact zl rfl ⟨Below.refl _ _, Left.of rfl⟩
          · intro vs X wq K;obtain ⟨_, e9, k9⟩ := K.dep 9 rfl rfl rfl;refine zd 92 (.slice x.2.1 x.1.l.length x.2.2) rfl e9 ?_;obtain ⟨_, e10, k10⟩ := K.dep 10 rfl rfl rfl;refine zd 93 (.int .i64 ((k : Nat) : Int)) rfl e10 ?_
            exact zk (j := k) Tryd.underlying28 sz3 (congrArg (fun z ↦ some (Value.slice z x.1.l.length x.2.2)) hAL) rfl rfl hklt ⟨Below.refl _ _, Left.of rfl⟩
          · intro vs X wq K;have LE := K.1;obtain ⟨_, e11, k11⟩ := K.dep 11 rfl rfl rfl;refine zd 94 (.pointer (some ⟨gL, 0 + k, none⟩)) rfl e11 ?_;exact zt Tryd.underlying3 rfl rfl (by rw [Nat.zero_add]; exact js LE hcy) ⟨Below.refl _ _, Left.of rfl⟩
          · intro vs X wq K;obtain ⟨_, e5, k5⟩ := K.dep 5 rfl rfl rfl;refine zd 88 (.slice A m.length c) rfl e5 ?_;obtain ⟨_, e12, k12⟩ := K.dep 12 rfl rfl rfl;refine zd 95 (.int .i64 y) rfl e12 ?_
            exact zk (j := y.toNat) Tryd.underlying28 sz3 (congrArg (fun z ↦ some (Value.slice z m.length c)) hAm) rfl (by show y = ((y.toNat : Nat) : Int); omega) (by omega) ⟨Below.refl _ _, Left.of rfl⟩
          · intro vs X wq K;have LE := K.1;obtain ⟨_, e13, k13⟩ := K.dep 13 rfl rfl rfl;refine zd 96 (.pointer (some ⟨gm, om + y.toNat, none⟩)) rfl e13 ?_;exact zt Tryd.underlying3 rfl rfl (js LE hcm) ⟨Below.refl _ _, Left.of rfl⟩
          · intro vs X wq K;obtain ⟨_, e3, k3⟩ := K.dep 3 rfl rfl rfl;refine zd 86 (.slice x.2.1 x.1.l.length x.2.2) rfl e3 ?_;obtain ⟨_, e4, k4⟩ := K.dep 4 rfl rfl rfl;refine zd 87 (.int .i64 ((k : Nat) : Int)) rfl e4 ?_;exact zk (j := k) Tryd.underlying28 sz3 (congrArg (fun z ↦ some (Value.slice z x.1.l.length x.2.2)) hAL) rfl rfl hklt ⟨Below.refl _ _, Left.of rfl⟩
        intro vs w15 LE AO AL AF AA;have hbd : Below (w14).heap.size (w14) w15 := (((Ext.refl No (w14)).drew).trans LE).toBelow;obtain ⟨_, e14, k14⟩ := AL.2.2.2.2.2.2.2.2.2.2.2.2.2.2.1;obtain ⟨_, e15, k15⟩ := AL.2.2.2.2.2.2.2.2.2.2.2.2.2.2.2.1
        refine vq (τ := [(1, _), (6, _), (7, _), (8, _), (9, _), (10, _), (11, _), (97, .int .i64 (mAt m y)), (98, .pointer (some ⟨gL, 0 + k, none⟩))]) ⟨rfl, rfl, rfl, rfl, rfl, rfl, rfl, congrArg some e14, congrArg some e15, trivial⟩ ?_;clear AL AF AA AO;refine ol (ji (by kernel_rfl) (fun _ _ d_ _ _ h => by cases d_ <;> exact h) ?_);have hEd := Ext.of_below hbd No
        have Md := Mk.no hEd;have hO10 := qf hO9 hEd (fun _ _ h => h.elim);have B10d := B10k.ext hEd (fun h => h.elim);obtain ⟨wd, hwd⟩ : ∃ wd, wd = w15 := ⟨_, rfl⟩;subst hwd;refine zw (zgx (o := 0 + k) (xs' := yz (znz (uL x.1.op) m x.1.l (k + 1))) sz3 rfl rfl hO10 (by omega) rfl rfl (by rw [Nat.zero_add, intsV_set, hu, midL_set hy]) ?_);rintro wS OS ES
        have hOS : wS.ownsRow base 3 1 (liV (yL m x k)) (yL m x k).1.l.length (yz (yL m x (k + 1)).1.l) := by
         unfold liV yL;simp only [zrx]
         rw [hAL];exact OS
        have hES : Ext (Mut [(liV (yL m x k)).ownBlock]) wd wS := by
         unfold liV yL;simp only [zrx]
         rw [hAL];exact ES
        refine yc (zf (zh (zj (mvx rfl (za rfl (qc rfl rfl (yg (by omega)) (avx rfl (yc ?_))))))))
        exact yt (k + 1, isk.set i (yL m x (k + 1))) (by show x.1.l.length - (k + 1) < x.1.l.length - k; omega) ⟨rfl, rfl, rfl, rfl, rfl, rfl, rfl, trivial⟩ (⟨hklt, (hKk.step hEd (fun _ h => h.elim)).step ES (fun q hq => Or.inl (show base ≤ q by have := qt hq; omega)), CM.setL Md hsk rfl (by unfold yL; simp only [zrx]) (by rw [yL_ins, yL_ins]) hOS hES, by rw [hsetk, List.set_set], qn B10d hO10 (by decide) ES⟩)
       ·
        refine qe (zm (zm (ya (zf ?_))));exact jh isk ⟨rfl, rfl, rfl, rfl, trivial⟩ (⟨hKk, Mk, by rw [hsetk, yL_no hu]⟩)
      ·
       have hk := of_decide_eq_false hk;have hke : k = x.1.l.length := by omega
       refine za rfl (zc rfl (za rfl (zc rfl (za rfl (zc rfl (za rfl (yd rfl rfl (rnx (qp rfl (qe (zm (zm (ya (zf ?_))))))))))))));exact jh isk ⟨rfl, rfl, rfl, rfl, trivial⟩ (⟨hKk, Mk, by rw [hsetk, hke, yL_end]⟩)
  ·
   rintro isL w5 ⟨hKL, ML, hsetL⟩;refine zj (mvx rfl (za rfl (qc rfl rfl (yg (by omega)) (avx rfl (yc ?_)))));exact yt (i + 1, isL) (by show f.ins.length - (i + 1) < f.ins.length - i; omega) ⟨rfl, rfl, rfl, rfl, trivial⟩ (⟨by omega, hKL, ML, by rw [hsetL, List.map_set, hisi]; exact turn_set hxf⟩)
 ·
  have hc := of_decide_eq_false hc;have hie : i = f.ins.length := by omega
  rw [hie, List.drop_length, List.append_nil, List.take_of_length_le (by rw [List.length_map]; exact Nat.le_refl _)] at hisi
  refine qe (zm (zm (ya (zh (zp (srx (anx rfl (yb (qu (ι := Nat × List LReg) (fun (j, rs) => [(1, .slice A m.length c), (6, .pointer (some ⟨g6, 0, none⟩)), (7, .pointer (some ⟨g7, 0, none⟩)), (12, .int .i64 ((j : Nat) : Int))]) (fun (j, rs) w' => j ≤ f.rgs.length ∧ Ext (fun q => base ≤ q) wB w' ∧ CM base g7 g6 z6 f q.an q.cn q.ac q.cc q.ar q.cr rs n q.ai q.ci is w' ∧ rs = (f.rgs.map (xy m)).take j ++ f.rgs.drop j) (fun (j, _) => f.rgs.length - j) (0, f.rgs) ⟨rfl, rfl, rfl, rfl, trivial⟩ (⟨Nat.zero_le _, hEi, Mi, by rw [List.take_zero, List.drop_zero, List.nil_append]⟩) ?_)))))))))
  rintro ⟨j, rs⟩ w17 ⟨hjl, hEj, Mj, hrs⟩;have hrsl : rs.length = f.rgs.length := by rw [hrs, List.length_append, List.length_take, List.length_map, List.length_drop]; omega
  refine zp (srx (mvx rfl (za rfl (zb Tryd.underlying27 rfl ko (by decide) rfl (za rfl (zg Tryd.underlying25 rfl rfl Mj.fb rfl (za rfl (yw Tryd.underlying25 rfl (za rfl (yy rfl rfl (rnx (zr rfl (fun hj => ?_) (fun hj => ?_)))))))))))))
  ·
   have hj := of_decide_eq_true hj;have hjlt : j < rs.length := by omega
   obtain ⟨r, hr⟩ : ∃ r, rs[j]? = some r := ⟨_, List.getElem?_eq_getElem hjlt⟩;have hrf : f.rgs[j]? = some r := turn_at (g := xy m) (by rw [← hrs]; exact hr) (by omega);have hrg := zxq hR.1 (List.mem_of_getElem? hrf);obtain ⟨gm, om, hAm, hgm, hcm⟩ := (hmz hEj).cell (xe hR hrg.2.2.2.2.2.1 hrg.2.2.2.2.2.2);have hO9 := Mj.rgs
   obtain ⟨gR, hAR, hgR, hgR2, hcR⟩ := gg hO9 (by omega);rw [hAR] at hO9;have hcd := hcR (j * 4 + 3) (.int .i64 r.d) (by unfold rgsV; exact ziv (en := zqz) (fun _ => rfl) hr (show (zqz r)[3]? = some (.int .i64 r.d) from rfl));refine zq (zh (zp (yb (kr je (kt 14 rfl ?_)))))
   refine vv (No) Mut.none_ [] [] (kl [Fx.of (.pointer (some ⟨g7, 9, none⟩)),
    Fx.of (.slice q.ar rs.length q.cr),
    Fx.of (.int .i64 ((j : Nat) : Int)),
    Fx.of (.slice A m.length c),
    Fx.of (.pointer (some ⟨g7, 9, none⟩)),
    Fx.of (.slice q.ar rs.length q.cr),
    Fx.of (.int .i64 ((j : Nat) : Int)),
    Fx.of (.pointer (some ⟨gR, 0 + j * 4, none⟩)),
    Fx.of (.pointer (some ⟨gR, 0 + j * 4 + 3, none⟩)),
    Fx.of (.int .i64 r.d),
    Fx.of (.pointer (some ⟨gm, om + r.d.toNat, none⟩)),
    Fx.of (.int .i64 (mAt m r.d)),
    Fx.of (.pointer (some ⟨gR, 0 + j * 4, none⟩)),
    Fx.of (.pointer (some ⟨gR, 0 + j * 4 + 3, none⟩))]) rfl trivial (fun _ h => by cases h) ?_ ?_
   · refine ⟨?_, ?_, ?_, ?_, ?_, ?_, ?_, ?_, ?_, ?_, ?_, ?_, ?_, ?_, trivial⟩
     · intro vs X wq K;exact zb Tryd.underlying27 rfl ko (by decide) rfl ⟨Below.refl _ _, Left.of rfl⟩
     · intro vs X wq K;have LE := K.1;obtain ⟨_, e0, k0⟩ := K.dep 0 rfl rfl rfl;refine zd 106 (.pointer (some ⟨g7, 9, none⟩)) rfl e0 ?_;exact zg Tryd.underlying25 rfl rfl (vr LE Mj.fb) rfl ⟨Below.refl _ _, Left.of rfl⟩
     · intro vs X wq K;exact zl rfl ⟨Below.refl _ _, Left.of rfl⟩
     · intro vs X wq K;exact zl rfl ⟨Below.refl _ _, Left.of rfl⟩
     · intro vs X wq K;exact zb Tryd.underlying27 rfl ko (by decide) rfl ⟨Below.refl _ _, Left.of rfl⟩
     · intro vs X wq K;have LE := K.1;obtain ⟨_, e4, k4⟩ := K.dep 4 rfl rfl rfl;refine zd 110 (.pointer (some ⟨g7, 9, none⟩)) rfl e4 ?_;exact zg Tryd.underlying25 rfl rfl (vr LE Mj.fb) rfl ⟨Below.refl _ _, Left.of rfl⟩
     · intro vs X wq K;exact zl rfl ⟨Below.refl _ _, Left.of rfl⟩
     · intro vs X wq K;obtain ⟨_, e5, k5⟩ := K.dep 5 rfl rfl rfl;refine zd 111 (.slice q.ar rs.length q.cr) rfl e5 ?_;obtain ⟨_, e6, k6⟩ := K.dep 6 rfl rfl rfl;refine zd 112 (.int .i64 ((j : Nat) : Int)) rfl e6 ?_;exact yi (j := j) Tryd.underlying25 ku (congrArg (fun z ↦ some (Value.slice z rs.length q.cr)) hAR) rfl rfl hjlt ⟨Below.refl _ _, Left.of rfl⟩
     · intro vs X wq K;obtain ⟨_, e7, k7⟩ := K.dep 7 rfl rfl rfl;refine zd 113 (.pointer (some ⟨gR, 0 + j * 4, none⟩)) rfl e7 ?_;exact zb Tryd.underlying50 rfl sz3 (by decide) rfl ⟨Below.refl _ _, Left.of rfl⟩
     · intro vs X wq K;have LE := K.1;obtain ⟨_, e8, k8⟩ := K.dep 8 rfl rfl rfl;refine zd 114 (.pointer (some ⟨gR, 0 + j * 4 + 3, none⟩)) rfl e8 ?_;exact zt Tryd.underlying3 rfl rfl (by rw [Nat.zero_add]; exact js LE hcd) ⟨Below.refl _ _, Left.of rfl⟩
     · intro vs X wq K;obtain ⟨_, e3, k3⟩ := K.dep 3 rfl rfl rfl;refine zd 109 (.slice A m.length c) rfl e3 ?_;obtain ⟨_, e9, k9⟩ := K.dep 9 rfl rfl rfl;refine zd 115 (.int .i64 r.d) rfl e9 ?_
       exact zk (j := r.d.toNat) Tryd.underlying28 sz3 (congrArg (fun z ↦ some (Value.slice z m.length c)) hAm) rfl (by show r.d = ((r.d.toNat : Nat) : Int); omega) (by omega) ⟨Below.refl _ _, Left.of rfl⟩
     · intro vs X wq K;have LE := K.1;obtain ⟨_, e10, k10⟩ := K.dep 10 rfl rfl rfl;refine zd 116 (.pointer (some ⟨gm, om + r.d.toNat, none⟩)) rfl e10 ?_;exact zt Tryd.underlying3 rfl rfl (js LE hcm) ⟨Below.refl _ _, Left.of rfl⟩
     · intro vs X wq K;obtain ⟨_, e1, k1⟩ := K.dep 1 rfl rfl rfl;refine zd 107 (.slice q.ar rs.length q.cr) rfl e1 ?_;obtain ⟨_, e2, k2⟩ := K.dep 2 rfl rfl rfl;refine zd 108 (.int .i64 ((j : Nat) : Int)) rfl e2 ?_;exact yi (j := j) Tryd.underlying25 ku (congrArg (fun z ↦ some (Value.slice z rs.length q.cr)) hAR) rfl rfl hjlt ⟨Below.refl _ _, Left.of rfl⟩
     · intro vs X wq K;obtain ⟨_, e12, k12⟩ := K.dep 12 rfl rfl rfl;refine zd 118 (.pointer (some ⟨gR, 0 + j * 4, none⟩)) rfl e12 ?_;exact zb Tryd.underlying50 rfl sz3 (by decide) rfl ⟨Below.refl _ _, Left.of rfl⟩
   intro vs w18 LE AO AL AF AA;have hbd : Below (w17).heap.size (w17) w18 := (((Ext.refl No (w17)).drew).trans LE).toBelow;obtain ⟨_, e11, k11⟩ := AL.2.2.2.2.2.2.2.2.2.2.2.1;obtain ⟨_, e13, k13⟩ := AL.2.2.2.2.2.2.2.2.2.2.2.2.2.1
   refine vq (τ := [(1, _), (6, _), (7, _), (12, _), (117, .int .i64 (mAt m r.d)), (119, .pointer (some ⟨gR, 0 + j * 4 + 3, none⟩))]) ⟨rfl, rfl, rfl, rfl, congrArg some e11, congrArg some e13, trivial⟩ ?_;clear AL AF AA AO;refine ol (ji (by kernel_rfl) (fun _ _ d_ _ _ h => by cases d_ <;> exact h) ?_);have hEd := Ext.of_below hbd No;have Md := Mj.no hEd
   have hO10 := qf hO9 hEd (fun _ _ h => h.elim);refine zw (zgx (o := 0 + j * 4 + 3) (xs' := rgsV (rs.set j (xy m r))) sz3 rfl rfl hO10 (by omega) rfl rfl (by rw [Nat.zero_add]; unfold rgsV; exact zrv (en := zqz) (s := 4) (fun _ => rfl) (t := 3) (by decide) (show zqz (xy m r) = (zqz r).set 3 (.int .i64 (mAt m r.d)) from rfl) hr) ?_);rintro wS OS ES
   refine yc (zf (zh (zj (mvx rfl (za rfl (qc rfl rfl (yg (by omega)) (avx rfl (yc ?_))))))))
   exact yt (j + 1, rs.set j (xy m r)) (by show f.rgs.length - (j + 1) < f.rgs.length - j; omega) ⟨rfl, rfl, rfl, rfl, trivial⟩ (⟨by omega, (hEj.step hEd (fun _ h => h.elim)).step ES (fun q hq => Or.inl (show base ≤ q by have := qt hq; omega)), CM.setR Md (by rw [List.length_set]) (by rw [hAR]; exact OS) (by rw [hAR]; exact ES), by rw [hrs]; exact turn_set hrf⟩)
  ·
   have hj := of_decide_eq_false hj;have hje : j = f.rgs.length := by omega
   rw [hje, List.drop_length, List.append_nil, List.take_of_length_le (by rw [List.length_map]; exact Nat.le_refl _)] at hrs;refine qe (zm (zm (ya (zh (srx (za rfl (zo Tryd.underlying27 rfl jp rfl Mj.fb rfl (zw (qz jp rfl rfl Mj.gb rfl rfl hz6.2.symm ?_)))))))));rintro wZ Bz EZ
   have hFO : FnO lo wZ ⟨q.an, q.cn, q.ac, q.cc, q.ai, q.ci, q.ar, q.cr, is⟩ (zdq f m n) := ⟨vw (ye Mj.names Mj.gb (by decide) EZ) hlob, vw (ye Mj.consts Mj.gb (by decide) EZ) hlob, ⟨vw (ye Mj.ins.i Mj.gb (by decide) EZ) hlob, fun x hx => vw (ye (Mj.ins.l x hx) Mj.gb (by decide) EZ) hlob, Mj.ins.ap⟩, hisi, by
    have h := vw (ye Mj.rgs Mj.gb (by decide) EZ) hlob;rw [hrs] at h;exact h⟩
   have hFin : Ext (fun q => lo ≤ q) w wZ := ((hE2.mono (Y := fun q => lo ≤ q) (fun _ h _ => h.elim)).step hEj (fun q hq => Or.inl (show lo ≤ q by have hq : base ≤ q := hq; omega))).step EZ (fun q hq => Or.inl (show lo ≤ q by have := qt hq; omega));have hisn : is.length = (f.ins.map (qo m)).length := by rw [← hisi, List.length_map]
   have hval : Value.agg (fcC f q.an q.cn q.ac q.cc q.ai is.length q.ci q.ar q.cr rs.length n) = fnV (QP.pl ⟨q.an, q.cn, q.ac, q.cc, q.ai, q.ci, q.ar, q.cr, is⟩) (zdq f m n) := by rw [hisn, hrs]; rfl
   refine rnx (zv (zu (rs := [.cell 6 27]) (vs := [_]) rfl ⟨⟨_, rfl, qj Tryd.underlying27 rfl jp Bz rfl⟩, trivial⟩ ?_));exact ⟨⟨q.an, q.cn, q.ac, q.cc, q.ai, q.ci, q.ar, q.cr, is⟩, by rw [← hval]; rfl, hlo ▸ hFO, hFin.below (fun q h => by rw [hlo] at h; exact h)⟩
  end
  end Go.Proofs.YtppdgjlmeahimaaDoor
namespace Go.Proofs.YtppdgjlmeahimaaDoor
open Go.RowKit
set_option maxRecDepth 100000
def OkR (lo hi : Nat) (w : World) (e : TypeId) (s : Nat) (A : Option Addr) (n : Nat) : Prop := 0 < n → ∃ g cur, A = some ⟨g, 0, none⟩ ∧ Blk w g e cur ∧ n * s ≤ cur.size ∧ lo ≤ g ∧ g < hi
theorem owns_blkM {w : World} {lo s n c : Nat} {e : TypeId} {A : Option Addr} {xs : List Value} (h : w.ownsRow lo e s (.slice A n c) n xs) (h0 : 0 < n) : ∃ g cur, A = some ⟨g, 0, none⟩ ∧ Blk w g e cur ∧ n * s ≤ cur.size ∧ lo ≤ g ∧ cur.toList.take (n * s) = xs := by
 rcases h.2 with ⟨_, rfl⟩ | ⟨g, cap, cur, hv, hg, hh, hn, hm, hsz, ht⟩
 · omega
 · cases hv
   refine ⟨g, cur, rfl, hh, ?_, hg, ht⟩;have h1 := congrArg List.length ht;rw [List.length_take, h.1, Array.length_toList] at h1;omega
section
variable {lo hi : Nat} {w w' : World} {X : Nat → Prop}
theorem OkR.of {s n c : Nat} {e : TypeId} {A : Option Addr} {xs : List Value} (h : w.ownsRow lo e s (.slice A n c) n xs) (hs : w.heap.size ≤ hi) : OkR lo hi w e s A n := fun h0 => by
 obtain ⟨g, cur, hA, hb, h1, h2, _⟩ := owns_blkM h h0;exact ⟨g, cur, hA, hb, h1, h2, by have := hb.lt; omega⟩
theorem OkR.ext {e : TypeId} {s n : Nat} {A : Option Addr} (h : OkR lo hi w e s A n) (k : Ext X w w') (hX : ∀ q, lo ≤ q → q < hi → ¬ X q) : OkR lo hi w' e s A n := fun h0 => by
 obtain ⟨g, cur, hA, hb, h1, h2, h3⟩ := h h0;exact ⟨g, cur, hA, hb.ext k (hX g h2 h3), h1, h2, h3⟩
theorem blk_same {g : Nat} {e e' : TypeId} {cs cs' : Array Value} (h : Blk w g e cs) (h' : Blk w g e' cs') : e = e' ∧ cs = cs' := by
 unfold Blk at h h';rw [h] at h';injection h' with h'
 injection h' with h1 h2
 exact ⟨h2, h1⟩
theorem OkR.put {e e' : TypeId} {s n g' : Nat} {A : Option Addr} {cs cs' : Array Value} (h : OkR lo hi w e s A n) (hb : Blk w g' e' cs) (hb' : Blk w' g' e' cs') (hs : cs'.size = cs.size) (k : Ext (Mut [some g']) w w') : OkR lo hi w' e s A n := fun h0 => by
 obtain ⟨g, cur, hA, hg, h1, h2, h3⟩ := h h0;by_cases e1 : g = g'
 · subst e1;obtain ⟨rfl, rfl⟩ := blk_same hg hb;exact ⟨g, cs', hA, hb', by omega, h2, h3⟩
 · exact ⟨g, cur, hA, hg.ext k (fun hm => e1 (qt hm)), h1, h2, h3⟩
def InsJ (lo hi : Nat) (w : World) (A : Option Addr) (is : List IB) (i : Nat) : Prop := 0 < is.length → ∃ g cur, A = some ⟨g, 0, none⟩ ∧ Blk w g 41 cur ∧ is.length * 7 ≤ cur.size ∧ lo ≤ g ∧ g < hi ∧ ∀ j x, i ≤ j → is[j]? = some x → ∀ t v, (jr x.1 x.2.1 x.2.2)[t]? = some v → cur[j * 7 + t]? = some v
theorem InsJ.of {A : Option Addr} {c : Nat} {is : List IB} (h : InsO lo w A c is) (hs : w.heap.size ≤ hi) : InsJ lo hi w A is 0 := fun h0 => by
 obtain ⟨g, cur, hA, hb, h1, h2, ht⟩ := owns_blkM h.i h0;refine ⟨g, cur, hA, hb, h1, h2, by have := hb.lt; omega, fun j x _ hx t v hv => ?_⟩;have h3 := zcq hx hv;rw [← ht, List.getElem?_take] at h3;split at h3
 · rw [← Array.getElem?_toList]; exact h3
 · cases h3
theorem InsJ.ext {A : Option Addr} {is : List IB} {i : Nat} (h : InsJ lo hi w A is i) (k : Ext X w w') (hX : ∀ q, lo ≤ q → q < hi → ¬ X q) : InsJ lo hi w' A is i := fun h0 => by
 obtain ⟨g, cur, hA, hb, h1, h2, h3, h4⟩ := h h0;exact ⟨g, cur, hA, hb.ext k (hX g h2 h3), h1, h2, h3, h4⟩
theorem InsJ.other {A : Option Addr} {is : List IB} {i g' : Nat} {e' : TypeId} {cs : Array Value} (h : InsJ lo hi w A is i) (hb : Blk w g' e' cs) (hne : 41 ≠ e') (k : Ext (Mut [some g']) w w') : InsJ lo hi w' A is i := fun h0 => by
 obtain ⟨g, cur, hA, hg, h1, h2, h3, h4⟩ := h h0;exact ⟨g, cur, hA, hg.ext k (fun hm => hg.ne_ hb hne (qt hm)), h1, h2, h3, h4⟩
theorem InsJ.put {A : Option Addr} {is : List IB} {i g : Nat} {cur : Array Value} {vs : List Value} (h : InsJ lo hi w A is i) (hA : A = some ⟨g, 0, none⟩) (hb : Blk w g 41 cur) (hl : vs.length = 7) (hb' : Blk w' g 41 (jv cur (0 + i * 7) vs)) : InsJ lo hi w' A is (i + 1) := fun h0 => by
 obtain ⟨g2, cur2, hA2, hg, h1, h2, h3, h4⟩ := h h0;rw [hA] at hA2;cases hA2
 obtain ⟨_, rfl⟩ := blk_same hg hb;refine ⟨g, _, hA, hb', by rw [xt]; exact h1, h2, h3, fun j x hj hx t v hv => ?_⟩;rw [zmq, if_neg (by rw [hl]; omega)];exact h4 j x (by omega) hx t v hv
structure KG (lo hi : Nat) (w : World) (q : QP) (f : LFn) (i : Nat) : Prop where
 names : OkR lo hi w 9 1 q.an f.names.length
 consts : OkR lo hi w 37 2 q.ac f.consts.length
 rgs : OkR lo hi w 50 4 q.ar f.rgs.length
 l : ∀ x ∈ q.is, OkR lo hi w 3 1 x.2.1 x.1.l.length
 ins : InsJ lo hi w q.ai q.is i
variable {q : QP} {f : LFn} {i : Nat}
theorem KG.of (h : FnO lo w q f) (hs : w.heap.size ≤ hi) : KG lo hi w q f 0 := ⟨.of h.names hs, .of h.consts hs, .of h.rgs hs, fun x hx => .of (h.ins.l x hx) hs, .of h.ins hs⟩
theorem KG.ext (h : KG lo hi w q f i) (k : Ext X w w') (hX : ∀ q, lo ≤ q → q < hi → ¬ X q) : KG lo hi w' q f i := ⟨h.names.ext k hX, h.consts.ext k hX, h.rgs.ext k hX, fun x hx => (h.l x hx).ext k hX, h.ins.ext k hX⟩
theorem KG.other {g' : Nat} {e' : TypeId} {cs cs' : Array Value} (h : KG lo hi w q f i) (hb : Blk w g' e' cs) (hne : 41 ≠ e') (hb' : Blk w' g' e' cs') (hs : cs'.size = cs.size) (k : Ext (Mut [some g']) w w') : KG lo hi w' q f i :=
 ⟨h.names.put hb hb' hs k, h.consts.put hb hb' hs k, h.rgs.put hb hb' hs k, fun x hx => (h.l x hx).put hb hb' hs k, h.ins.other hb hne k⟩
theorem KG.put {g : Nat} {cur : Array Value} {vs : List Value} (h : KG lo hi w q f i) (hA : q.ai = some ⟨g, 0, none⟩) (hb : Blk w g 41 cur) (hl : vs.length = 7) (hb' : Blk w' g 41 (jv cur (0 + i * 7) vs)) (k : Ext (Mut [some g]) w w') : KG lo hi w' q f (i + 1) :=
 ⟨h.names.put hb hb' (xt _ _ _) k, h.consts.put hb hb' (xt _ _ _) k, h.rgs.put hb hb' (xt _ _ _) k, fun x hx => (h.l x hx).put hb hb' (xt _ _ _) k, h.ins.put hA hb hl hb'⟩
end
end Go.Proofs.YtppdgjlmeahimaaDoor
namespace Go.Proofs.YtppdgjlmeahimaaDoor
open Go.RowKit
set_option maxRecDepth 100000
attribute [local irreducible] OW RS
theorem Ext.late {a b : Nat} {w1 w2 w3 : World} (h : Ext (fun q => a ≤ q) w1 w2) (k : Ext (fun q => b ≤ q) w2 w3) (hab : a ≤ b) : Ext (fun q => a ≤ q) w1 w3 := h.step k fun q hq => Or.inl (show a ≤ q by have hq : b ≤ q := hq; omega)
theorem Ext.noL (a : Nat) {w1 w2 : World} (h : Ext No w1 w2) : Ext (fun q => a ≤ q) w1 w2 := h.mono fun _ h _ => h.elim
theorem apply_yes {w : World} {p : Pl} {f G : LFn} {n0 : Nat} (hF : FnA n0 w p f) {A : Option Addr} (c : Nat) {n1 : Nat} {m : List Int} (hm : IntsA n1 w A m) {n : Int} (hn : I64 n) (hn1 : n1 ≤ w.heap.size) (hD : DbT w) (hR :     jq f m n) (hG : G =    zdq f m n) :
 Calls Tryd.prog 13 #[fnV p f, .slice A m.length c, .int .i64 n] w fun e w' => ∃ q, e = .returned (.tuple #[fnV q.pl G, .int .i64 0]) ∧ FnO w.heap.size w' q G ∧ Below w.heap.size w w' :=
 (apply_any w p f n0 hF A c n1 m hm n hn hn1 hD).mono fun e w' ⟨hb, _, h⟩ => by
  obtain ⟨q, he, hO⟩ := h hR;rw [hG];exact ⟨q, he, hO, hb⟩
theorem DbT.low {X : Nat → Prop} {w w' : World} (hD : DbT w) (h : Ext X w w') (hX : ∀ q, X q → w.heap.size ≤ q) : DbT w' := fun j y hj => Low.cell (n := w.heap.size) (X := X) ⟨h, hX⟩ (World.block_lt_of_cell? w _ (hD j y hj)) (hD j y hj)
section
variable (w : World) (p : Pl) (f : LFn) (n0 : Nat) (hF : FnA n0 w p f) (hD : DbT w)
include hF hD
end
end Go.Proofs.YtppdgjlmeahimaaDoor
namespace Go.Proofs.YtppdgjlmeahimaaDoor
open Go.RowKit
set_option maxRecDepth 100000
attribute [local irreducible] OW RS
theorem apply_no {w : World} {p : Pl} {f : LFn} {n0 : Nat} (hF : FnA n0 w p f) {A : Option Addr} (c : Nat) {n1 : Nat} {m : List Int} (hm : IntsA n1 w A m) {n : Int} (hn : I64 n) (hn1 : n1 ≤ w.heap.size) (hD : DbT w) (hR : ¬ jq f m n) :
 Calls Tryd.prog 13 #[fnV p f, .slice A m.length c, .int .i64 n] w fun e w' => e = .returned (.tuple #[fnV nilP nilF, .int .i64 3]) ∧ Below w.heap.size w w' :=
 (apply_any w p f n0 hF A c n1 m hm n hn hn1 hD).mono fun _ _ ⟨hb, h, _⟩ => ⟨h hR, hb⟩
theorem nil_fn (w : World) : FnA w.heap.size w nilP nilF :=
 ⟨by decide, by decide, by decide, by decide, by decide, .nil _ _ _, ⟨by decide, fun x h => (by cases h), fun h => absurd rfl h⟩, ⟨by decide, fun h => absurd rfl h⟩, .nil _ _ _, Nat.le_refl _⟩
theorem rplace_of {w : World} {p : Pl} {f G : LFn} {n0 : Nat} (hF : FnA n0 w p f) {A : Option Addr} (c : Nat) {n1 : Nat} {m : List Int} (hm : IntsA n1 w A m) {n : Int} (hn1 : n1 ≤ w.heap.size) (hR : jq f m n) (hG : G = zdq f m n) :
 Calls Tryd.prog 15 #[fnV p f, .slice A m.length c, .int .i64 n] w (RetFn w G) := by
 rw [hG];exact rplace_any w p f n0 hF A c n1 m hm n hR hn1
section
variable (w : World) (p : Pl) (f : LFn) (n0 : Nat) (hF : FnA n0 w p f) (hbk : (f.ins.map fun x => x.l.length + 1).sum ≤ 1048576) (hD : DbT w)
include hF hbk hD
theorem places_law (A : Option Addr) (c n1 : Nat) (m : List Int) (hm : IntsA n1 w A m) (n : Int) (hn : I64 n) (hn1 : n1 ≤ w.heap.size) : Calls Tryd.prog 6 #[fnV p f, .slice A m.length c, .int .i64 n] w fun e w' => e = .returned (.bool true) ∧ Below w.heap.size w w' := by
 have hnf := hF.nums;refine qs Tryd.func6 rfl Tryd.ntmps6 rfl (srx (za rfl (vk rfl ?_)));rintro g3 wA B1 E1 G1;have hF1 := hF.low (X := No) ⟨E1, fun _ h => h.elim⟩;have hm1 := hm.low (X := No) ⟨E1, fun _ h => h.elim⟩;have hs1 := E1.size;have hD1 : DbT wA := hD.low E1 (fun _ h => h.elim);refine anx rfl (zp (srx (za rfl (yf en8 rfl ((known_any _ hD1).mono ?_)))))
 rintro e w1 ⟨rfl, hb⟩;refine ⟨_, rfl, ?_⟩;have E2 := Ext.of_below hb No;have hs2 := E2.size;have B2 : Blk w1 g3 27 (fcC f p.an p.cn p.ac p.cc p.ai f.ins.length p.ci p.ar p.cr f.rgs.length f.regs) := B1.ext E2 (fun h => h.elim);obtain ⟨w2, hw2⟩ : ∃ w2, w2 = w1 := ⟨_, rfl⟩;subst hw2;have hE2 : Ext No w w2 := E1.trans E2;have hF2 := hF1.low (X := No) ⟨E2, fun _ h => h.elim⟩
 have hm2 := hm1.low (X := No) ⟨E2, fun _ h => h.elim⟩;have hD2 : DbT w2 := hD1.low E2 (fun _ h => h.elim);have hg3 := B2.lt;have hn2 : n1 ≤ w2.heap.size := by omega
 refine za rfl (jg rfl (rnx (qp rfl (zq (zh (srx (za rfl (zo Tryd.underlying27 rfl jp rfl B2 rfl (mvx rfl (mvx rfl ?_))))))))));by_cases hR : jq f m n
 ·
  obtain ⟨G, hG⟩ : ∃ G, G = zdq f m n := ⟨_, rfl⟩;have hGI : FnI G := hG ▸ place_nums hR hnf hn;refine za rfl (yf en13 rfl ((apply_yes hF2 c hm2 hn hn2 hD2 hR hG).mono ?_));rintro e w2 ⟨q, rfl, hO3, hb⟩;refine ⟨_, rfl, ?_⟩;have E3 := Ext.of_below hb No;obtain ⟨w3, hw3⟩ : ∃ w3, w3 = w2 := ⟨_, rfl⟩;subst hw3;have hs3 := E3.size
  refine mvx rfl (za rfl (vz rfl rfl (za rfl (vz rfl rfl (za rfl (qb zr27 ?_))))));rintro g7 w4 B40 E4 G4;refine zw (qz jp rfl rfl B40 rfl rfl rfl ?_);rintro w5 B50 E5;have B5 : Blk w5 g7 27 (fcC G q.an q.cn q.ac q.cc q.ai G.ins.length q.ci q.ar q.cr G.rgs.length G.regs) := B50
  have h35 : Ext (fun q => w3.heap.size ≤ q) w3 w5 := (E4.noL w3.heap.size).step E5 fun q hq => Or.inl (show w3.heap.size ≤ q by have := qt hq; omega);have h25 : Ext (fun q => w2.heap.size ≤ q) w2 w5 := (E3.noL w2.heap.size).late h35 hs3;have hO5 := hO3.ext h35 (fun b hb hx => by have := hO3.bl hb; have hx : w3.heap.size ≤ b := hx; omega)
  have B3b := B2.ext h25 (fun h => by have h : w2.heap.size ≤ g3 := h; omega);have hF5 := hF2.low (X := fun q => w2.heap.size ≤ q) ⟨h25, fun q hq => by have := hF2.size; have hq : w2.heap.size ≤ q := hq; omega⟩;have hm5 := hm2.low (X := fun q => w2.heap.size ≤ q) ⟨h25, fun q hq => by have hq : w2.heap.size ≤ q := hq; omega⟩;have hs25 := h25.size
  refine anx rfl (zp (srx (za rfl (zo Tryd.underlying27 rfl jp rfl B3b rfl (mvx rfl (mvx rfl (za rfl (yf en10 rfl ((rright_b hF5 hbk c hm5 n (by omega)).mono ?_)))))))));rintro e w3 ⟨rfl, hb⟩;refine ⟨_, rfl, (qr 21 (.bool true) rfl ((by rw [rightB_yes hR] : (.bool (zjz f m n) : Value) = _)) ?_)⟩;have E6 := Ext.of_below hb No
  obtain ⟨w6, hw6⟩ : ∃ w6, w6 = w3 := ⟨_, rfl⟩;subst hw6;have hs6 := E6.size;have B36 := B3b.ext E6 (fun h => h.elim);have B56 := B5.ext E6 (fun h => h.elim);have hO6 := hO5.no E6;have hF6 := hF5.low (X := No) ⟨E6, fun _ h => h.elim⟩;have hm6 := hm5.low (X := No) ⟨E6, fun _ h => h.elim⟩;refine za rfl (jg rfl (rnx (qp rfl (zq (zh (zp ?_))))))
  refine jx (No) Mut.none_ [] [] (kl [Fx.of (.int .i64 0),
   Fx.of (.bool true),
   Fx.of (.bool true),
   Fx.of (.agg (fcC G q.an q.cn q.ac q.cc q.ai G.ins.length q.ci q.ar q.cr G.rgs.length G.regs)),
   Fx.of (.agg (fcC f p.an p.cn p.ac p.cc p.ai f.ins.length p.ci p.ar p.cr f.rgs.length f.regs)),
   Fx.of (.slice A m.length c),
   Fx.of (.int .i64 n),
   ⟨QP, fun r => fnV r.pl G, fun r b => (∃ nr, FnA nr b r.pl G)⟩,
   Fx.of (.bool true),
   Fx.of (.bool true),
   Fx.of (.bool true)]) je rfl trivial (fun _ h => by cases h) ?_ ?_
  · refine ⟨?_, ?_, ?_, ?_, ?_, ?_, ?_, ?_, ?_, ?_, ?_, trivial⟩
    · intro vs X wq K;exact zl rfl ⟨Below.refl _ _, Left.of rfl⟩
    · intro vs X wq K;obtain ⟨_, e0, k0⟩ := K.dep 0 rfl rfl rfl;refine zd 30 (.int .i64 0) rfl e0 ?_;exact yn rfl rfl ⟨Below.refl _ _, Left.of rfl⟩
    · intro vs X wq K;obtain ⟨_, e1, k1⟩ := K.dep 1 rfl rfl rfl;refine zd 31 (.bool true) rfl e1 ?_;exact zl rfl ⟨Below.refl _ _, Left.of rfl⟩
    · intro vs X wq K;have LE := K.1;obtain ⟨_, e2, k2⟩ := K.dep 2 rfl rfl rfl;refine zd 32 (.bool true) rfl e2 ?_;exact qq rfl (zo Tryd.underlying27 rfl jp rfl (vr LE B56) rfl ⟨Below.refl _ _, Left.of rfl⟩)
    · intro vs X wq K;have LE := K.1;obtain ⟨_, e2, k2⟩ := K.dep 2 rfl rfl rfl;refine zd 32 (.bool true) rfl e2 ?_;exact qq rfl (zo Tryd.underlying27 rfl jp rfl (vr LE B36) rfl ⟨Below.refl _ _, Left.of rfl⟩)
    · intro vs X wq K;obtain ⟨_, e2, k2⟩ := K.dep 2 rfl rfl rfl;refine zd 32 (.bool true) rfl e2 ?_;exact qq rfl (zl rfl ⟨Below.refl _ _, Left.of rfl⟩)
    · intro vs X wq K;obtain ⟨_, e2, k2⟩ := K.dep 2 rfl rfl rfl;refine zd 32 (.bool true) rfl e2 ?_;exact qq rfl (zl rfl ⟨Below.refl _ _, Left.of rfl⟩)
    · intro vs X wq K;have LE := K.1;have XN := K.2.1;obtain ⟨_, e4, k4⟩ := K.dep 4 rfl rfl rfl;refine zd 34 (.agg (fcC f p.an p.cn p.ac p.cc p.ai f.ins.length p.ci p.ar p.cr f.rgs.length f.regs)) rfl e4 ?_;obtain ⟨_, e5, k5⟩ := K.dep 5 rfl rfl rfl;refine zd 35 (.slice A m.length c) rfl e5 ?_;obtain ⟨_, e6, k6⟩ := K.dep 6 rfl rfl rfl;refine zd 36 (.int .i64 n) rfl e6 ?_
      obtain ⟨_, e2, k2⟩ := K.dep 2 rfl rfl rfl;refine zd 32 (.bool true) rfl e2 (qq rfl (yf en15 rfl ((rplace_of (hF6.low (X := No) ⟨(Ext.refl No _).drew.trans LE, fun _ h => h.elim⟩) c (hm6.low (X := No) ⟨(Ext.refl No _).drew.trans LE, fun _ h => h.elim⟩) (Nat.le_trans (show n1 ≤ w6.heap.size by omega) LE.size) hR hG).mono ?_)));rintro e w2 ⟨r, rfl, hOr, hb⟩
      exact ⟨_, rfl, hb, ⟨r, rfl, (fun b hb => ⟨_, (hOr.ext hb (fun q hq hx => by have := hOr.bl hq; have := XN q hx; have := LE.size; have : w6.drew.heap.size = w6.heap.size := rfl; omega)).fn hGI⟩)⟩⟩
    · intro vs X wq K;have LE := K.1;obtain ⟨_, e3, k3⟩ := K.dep 3 rfl rfl rfl;refine zd 33 (.agg (fcC G q.an q.cn q.ac q.cc q.ai G.ins.length q.ci q.ar q.cr G.rgs.length G.regs)) rfl e3 ?_;obtain ⟨r, e7, k7⟩ := K.dep 7 rfl rfl rfl;refine zd 37 (fnV r.pl G) rfl e7 ?_;obtain ⟨_, e2, k2⟩ := K.dep 2 rfl rfl rfl
      refine zd 32 (.bool true) rfl e2 (qq rfl (yf en14 rfl ((same_func _ G q.pl r.pl _ _ ((hO6.no ((Ext.refl No _).drew.trans LE)).fn hGI) (k7.here).choose_spec).mono ?_)));rintro e w2 ⟨rfl, hb⟩;exact ⟨_, rfl, hb, Left.of rfl⟩
    · intro vs X wq K;obtain ⟨_, e2, k2⟩ := K.dep 2 rfl rfl rfl;refine zd 32 (.bool true) rfl e2 ?_;obtain ⟨_, e8, k8⟩ := K.dep 8 rfl rfl rfl;refine zd 38 (.bool true) rfl e8 ?_;exact zx rfl rfl ⟨Below.refl _ _, Left.of rfl⟩
    · intro vs X wq K;obtain ⟨_, e9, k9⟩ := K.dep 9 rfl rfl rfl;refine zd 39 (.bool true) rfl e9 ?_;exact va rfl ⟨Below.refl _ _, Left.of rfl⟩
  intro vs w4 LE AO AL AF AA;have hbd : Below (w6).heap.size (w6) w4 := (((Ext.refl No (w6)).drew).trans LE).toBelow;obtain ⟨_, e10, k10⟩ := AL.2.2.2.2.2.2.2.2.2.2.1;refine vq (τ := [(6, .bool true)]) ⟨congrArg some e10, trivial⟩ ?_;clear AL AF AA AO;refine zh (zv (zu (rs := [.tmp 6]) (vs := [_]) rfl ⟨rfl, trivial⟩ ?_))
  exact ⟨rfl, (((hE2.noL w.heap.size).late h25 (by omega)).trans (((E6.trans (Ext.of_below hbd No))).noL _)).below (fun _ h => h)⟩
 ·
  refine za rfl (yf en13 rfl ((apply_no hF2 c hm2 hn hn2 hD2 hR).mono ?_));rintro e w5 ⟨rfl, hb⟩;refine ⟨_, rfl, ?_⟩;have E3 := Ext.of_below hb No;obtain ⟨w3, hw3⟩ : ∃ w3, w3 = w5 := ⟨_, rfl⟩;subst hw3;have hs3 := E3.size;refine mvx rfl (za rfl (vz rfl rfl (za rfl (vz rfl rfl (za rfl (qb zr27 ?_))))));rintro g7 w4 B40 E4 G4
  refine zw (qz jp rfl rfl B40 rfl rfl rfl ?_);rintro w5 B50 E5;have B5 : Blk w5 g7 27 (fcC nilF nilP.an nilP.cn nilP.ac nilP.cc nilP.ai nilF.ins.length nilP.ci nilP.ar nilP.cr nilF.rgs.length nilF.regs) := B50;have h35 : Ext (fun q => w3.heap.size ≤ q) w3 w5 := (E4.noL w3.heap.size).step E5 fun q hq => Or.inl (show w3.heap.size ≤ q by have := qt hq; omega)
  have h25 : Ext (fun q => w2.heap.size ≤ q) w2 w5 := (E3.noL w2.heap.size).late h35 hs3;have B3b := B2.ext h25 (fun h => by have h : w2.heap.size ≤ g3 := h; omega);have hF5 := hF2.low (X := fun q => w2.heap.size ≤ q) ⟨h25, fun q hq => by have := hF2.size; have hq : w2.heap.size ≤ q := hq; omega⟩
  have hm5 := hm2.low (X := fun q => w2.heap.size ≤ q) ⟨h25, fun q hq => by have hq : w2.heap.size ≤ q := hq; omega⟩;have hs25 := h25.size;refine anx rfl (zp (srx (za rfl (zo Tryd.underlying27 rfl jp rfl B3b rfl (mvx rfl (mvx rfl (za rfl (yf en10 rfl ((rright_b hF5 hbk c hm5 n (by omega)).mono ?_)))))))));rintro e w6 ⟨rfl, hb⟩
  refine ⟨_, rfl, (qr 21 (.bool false) rfl ((by rw [rightB_no hR] : (.bool (zjz f m n) : Value) = _)) ?_)⟩;have E6 := Ext.of_below hb No;have B56 := B5.ext E6 (fun h => h.elim)
  refine za rfl (jg rfl (rnx (yr rfl (srx (mvx rfl (za rfl (yn rfl rfl (mvx rfl (onx rfl (zo Tryd.underlying27 rfl jp rfl B56 rfl (onx rfl (vo (cs := #[.string ⟨#[]⟩, .int .i64 0, .int .i64 0, .int .i64 0, .bool false, .int .i64 0, .slice none 0 0, .slice none 0 0, .slice none 0 0, .slice none 0 0]) pl27 zr27 rfl rfl (onx rfl (yf en14 rfl ((same_func _ nilF nilP nilP _ _ (nil_fn _) (nil_fn _)).mono ?_)))))))))))))))
  rintro e w7 ⟨rfl, hb⟩;refine ⟨_, rfl, (za rfl (zx rfl rfl (anx rfl (zv (ze (zu (rs := [.tmp 6]) (vs := [_]) rfl ⟨rfl, trivial⟩ ?_))))))⟩;exact ⟨rfl, (((hE2.noL w.heap.size).late h25 (by have := hE2.size; omega)).trans ((E6.trans (Ext.of_below hb No)).noL _)).below (fun _ h => h)⟩
end
end Go.Proofs.YtppdgjlmeahimaaDoor
