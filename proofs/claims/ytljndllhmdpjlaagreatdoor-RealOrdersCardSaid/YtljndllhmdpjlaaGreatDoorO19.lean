/- From what the rows of layer 3 list to what the walks ask of the tables. The card of the law RealOrders: for every input that can be read it answers true and leaves its arguments as they were; the row lists the tables and errors of strconv (the card ties them to the program's text). -/
import Derived.Test.YtljndllhmdpjlaaGreatDoorO18
import Derived.MakeChecks
import Derived.Stop.LaidErr
import Derived.SizedLaws
import Derived.ChangeMaps5
namespace Go.Proofs.YtljndllhmdpjlaaGreatDoor
open Go.ChangeShapes Go.WideShapes Go.ChangeAt Go.RowKit Go.Joins
set_option maxRecDepth 100000
theorem tab_stays {W b : World} (h : TabD W) (hb : Below W.heap.size W b) : TabD b := by
  have hg : Tryz.prog.globalNamed "internal/strconv.uint64pow10" = some 9 := by kernel_rfl
  unfold TabD Lib.TabIs World.var? at h ⊢
  rw [hg, Option.bind_some] at h ⊢
  have hlt : 9 < W.heap.size := by
    rcases Nat.lt_or_ge 9 W.heap.size with h' | h'
    · exact h'
    · rw [Array.getElem?_eq_none h'] at h; cases h
  rw [hb.block _ hlt]
  exact h
theorem pow10_at : (Go.Pinned.pow10Rows.map fun x => (DataW.agg [.lit (.int .u64 x.1), .lit (.int .u64 x.2)] : DataW Unit))[364]? = some (.agg [.lit (.int .u64 10240000000000000000), .lit (.int .u64 0)]) := by kernel_rfl
theorem ten_of_head {W : World} {rest : List (String × DataW Unit)} (h : laidMet Tryz.prog (("internal/strconv.pow10Tab", Rows.laid_internal_strconv_pow10Tab) :: rest) W) : Ten W := by
  obtain ⟨ps, ⟨g', t', cs, fuel, p, q, hg', ht', hvar, hd, _, _⟩, _⟩ := h
  obtain rfl := Option.some.inj (ten_named.symm.trans hg')
  obtain rfl : 221 = t' := Option.some.inj ((show (Tryz.prog.globals[13]?).map (·.type) = some 221 by kernel_rfl).symm.trans ht')
  refine ⟨cs, hvar, ?_⟩
  obtain ⟨xs, m, _, hx, hl, hn, hi⟩ := DataW.trod_array Tryz.underlying221 hd
  have hce : Tryz.prog.cellsOf 220 = 2 := by kernel_rfl
  have h364 := hi 364 (by decide)
  rw [hce] at h364
  have hmap : xs.map (·.1) = Go.Pinned.pow10Rows.map fun x => (DataW.agg [.lit (.int .u64 x.1), .lit (.int .u64 x.2)] : DataW Unit) := by
    have := congrArg Prod.fst hx
    simp only [Rows.laid_internal_strconv_pow10Tab, Go.Pinned.pow10Tab] at this
    injection this with this
    exact this.symm
  have h1 : (xs[364]?).map (·.1) = some (.agg [.lit (.int .u64 10240000000000000000), .lit (.int .u64 0)]) := by
    rw [← List.getElem?_map, hmap]; exact pow10_at
  obtain ⟨y, hy, hy1⟩ := Option.map_eq_some_iff.1 h1
  rw [hy] at h364
  obtain ⟨zs, m2, _, hz, hzl, hzn, hf⟩ := DataW.trod_struct Tryz.underlying220 h364
  have hz1 : zs.map (·.1) = [.lit (.int .u64 10240000000000000000), .lit (.int .u64 0)] := by
    rw [hz] at hy1
    injection hy1
  have hcu : Tryz.prog.cellsOf 22 = 1 := by kernel_rfl
  match zs, hz1, hf with
  | [z0, z1], hz1, hf =>
    simp only [List.map_cons, List.map_nil, List.cons.injEq, and_true] at hz1
    have f0 := hf 0 _ rfl
    have f1 := hf 1 _ rfl
    obtain ⟨n0, hc0, e0, _⟩ := DataW.trod_int Tryz.underlying22 f0
    obtain ⟨n1, hc1, e1, _⟩ := DataW.trod_int Tryz.underlying22 f1
    rw [e0, e1] at hz1
    simp only [DataW.lit.injEq, Lit.int.injEq, true_and] at hz1
    obtain ⟨rfl, rfl⟩ := hz1
    have g0 := congrArg (·[0]?) hc0
    have g1 := congrArg (·[0]?) hc1
    simp [hcu] at g0 g1
    exact ⟨g0, g1⟩
theorem laid_plain {W : World} (h : laidMetH Tryz.prog Rows.realSumsRow.laid W) : laidMet Tryz.prog Rows.realSumsRow.laid W := by
  rw [MakeChecks.laidMetH_plain _ _ _ (by kernel_rfl)] at h
  exact h
theorem ten_of {W : World} (h : laidMetH Tryz.prog Rows.realSumsRow.laid W) (b : World) (hb : Below W.heap.size W b) : Ten b :=
  (ten_of_head (laid_plain h).tail.tail.tail.tail.tail.tail.tail.tail.tail.tail.tail.tail).stays hb
theorem tabd_of {W : World} (h : laidMetH Tryz.prog Rows.realSumsRow.laid W) (b : World) (hb : Below W.heap.size W b) : TabD b :=
  tab_stays (Lib.tabIs_of_head (k := .u64) (zs := Lib.pow10Tab) (g := 9) (t := 203) (e := 22) (n := 20) (by kernel_rfl) (by kernel_rfl) Tryz.underlying203 Tryz.underlying22 (by kernel_rfl) (by kernel_rfl) (laid_plain h).tail.tail.tail.tail.tail.tail.tail.tail) hb
theorem standIns_r (t : TypeId) (h : t = 41 ∨ t = 22 ∨ t = 9) : Tryz.prog.wantsStandIn t = false := by
  rcases h with rfl | rfl | rfl
  · kernel_rfl
  · kernel_rfl
  · kernel_rfl
end Go.Proofs.YtljndllhmdpjlaaGreatDoor
namespace Go.Proofs.YtljndllhmdpjlaaGreatDoor.fnRealOrders
open Go.ChangeShapes Go.WideShapes Go.ChangeAt Go.RowKit Go.Joins
set_option maxRecDepth 100000

/-- What the walk gives, for every argument. -/
theorem contract (H : Type) (enc : TypeId × Value → H) (W : World) (base : Nat) (args : Array Value) (ds gs : List (DataW H)) (before : List MemPlace)
    (hval : ∀ (j : Nat) t v, Tryz.f10.params[j]? = some t → args[j]? = some v → Value.okWide Tryz.prog W .any base t v)
    (hW : DataW.Whole enc Tryz.prog Tryz.f10.params.toList Rows.realOrdersSpec.vars false W args.toList ds gs before) (hlaid : laidMetH Tryz.prog Rows.realOrdersRow.laid W) :
    Calls Tryz.prog 10 args W fun e W' => ∃ v, e = .returned v ∧ Rows.realOrdersSpec.post enc Tryz.prog Tryz.f10 false true false false W args v W' := by
  have hW' := hW
  obtain ⟨p, q, hA0, hV, rfl, hfz, hnd⟩ := hW
  have hA : DataW.TrodAll enc Tryz.prog W 0 (fun _ => true) true Tryz.f10.params.toList args.toList ds p := hA0
  rw [Tryz.params10] at hA hval
  obtain ⟨v0, vs0, d0, ds0, p0, q0, hargs, rfl, rfl, h0, r0⟩ := trodAll_cons hA
  obtain ⟨v1, vs1, d1, ds1, p1, q1, rfl, rfl, rfl, h1, r1⟩ := trodAll_cons r0
  obtain ⟨v2, vs2, d2, ds2, p2, q2, rfl, rfl, rfl, h2, r2⟩ := trodAll_cons r1
  obtain ⟨rfl, rfl, rfl⟩ := trodAll_nil r2
  obtain rfl : args = #[v0, v1, v2] := by cases args; simp_all
  obtain ⟨rfl, rfl⟩ := trodVars_none hV
  obtain ⟨i0, rfl, rfl, rfl, wf0⟩ := open_int Tryz.underlying22 (hval 0 22 _ rfl rfl) h0
  obtain ⟨m0, rfl⟩ := Int.eq_ofNat_of_zero_le (u64_of_wf wf0).1
  obtain ⟨i1, rfl, rfl, rfl, wf1⟩ := open_int Tryz.underlying22 (hval 1 22 _ rfl rfl) h1
  obtain ⟨m1, rfl⟩ := Int.eq_ofNat_of_zero_le (u64_of_wf wf1).1
  obtain ⟨n2, A2, c2, xs2, rfl, hx2, hl2⟩ := open_big (hval 2 41 _ rfl rfl) h2
  refine (orders_law W m0 m1 n2 A2 c2 xs2 (by have := (u64_of_wf wf0).2; omega) (by have := (u64_of_wf wf1).2; omega) hx2 (Nat.le_trans hl2 (by decide)) (ten_of hlaid) (tabd_of hlaid)).mono fun e W' ⟨he, hb⟩ => ?_
  subst he
  exact ⟨_, rfl, law_post hW' hb rfl rfl (by rw [Tryz.params10]; decide) rfl⟩

theorem reads (os : Os) {H : Type} (enc : TypeId × Value → H) : ∃ places, DataW.whole enc Tryz.prog (Wit.laidMem os #[.int .u64 0, .int .u64 0, .agg #[.bool false, .slice none 0 0]]) Tryz.f10.params.toList Rows.realOrdersSpec.vars false (#[.int .u64 0, .int .u64 0, .agg #[.bool false, .slice none 0 0]] : Array Value).toList 8 = some ([.lit (.int .u64 0), .lit (.int .u64 0), .agg [.lit (.bool false), .nil]], [], places) :=
  ⟨[], by kernel_rfl⟩
theorem lifted (os : Os) (started : os.Started) (H : Type) (enc : TypeId × Value → H) (F : Stop.Interp) :
    ReturnsInHanded {} Tryz.checked os 10 .any ((OpenSpec.ofChange Rows.realOrdersSpec).preRow enc Tryz.prog Tryz.f10 Rows.realOrdersRow.domain false Rows.realOrdersRow.laid) (((OpenSpec.ofChange Rows.realOrdersSpec).at F).post enc Tryz.prog Tryz.f10 false true false false) := by
  obtain ⟨places, hx⟩ := reads os enc
  refine returnsInHanded_of_row (C := Tryz.checked) (s := OpenSpec.ofChange Rows.realOrdersSpec) own started (by kernel_rfl) Tryz.func10
    (Wit.witness_r (enc := enc) false os #[.int .u64 0, .int .u64 0, .agg #[.bool false, .slice none 0 0]] (by kernel_rfl)
      (OpenSpec.preRow_of_cond 8 hx (by kernel_rfl) (fun k hk => by cases hk) (by kernel_rfl) (Wit.laid_met os _))) ?_
  intro W base args ds gs before hval hW _ _ _ hlaid _ _
  exact contract H enc W base args ds gs before hval hW hlaid

end Go.Proofs.YtljndllhmdpjlaaGreatDoor.fnRealOrders
