/- Texts of this claim. -/
import Derived.Test.YtjdcjdohghkcgaaGreatDoorX20
import Derived.MakeChecks
import Derived.Stop.LaidErr
import Derived.SizedLaws
import Derived.ChangeMaps5
namespace Go.Proofs.YtjdcjdohghkcgaaGreatDoor
open Go.ChangeShapes Go.WideShapes Go.ChangeAt Go.RowKit Go.Joins
set_option maxRecDepth 100000
theorem tab_stays {W b : World} (h : TabD W) (hb : Below W.heap.size W b) : TabD b := by
 have hg : Tryz.prog.globalNamed "internal/strconv.uint64pow10" = some 9 := by kernel_rfl
 unfold TabD Lib.TabIs World.var? at h ⊢;rw [hg, Option.bind_some] at h ⊢;have hlt : 9 < W.heap.size := by
  rcases Nat.lt_or_ge 9 W.heap.size with h' | h'
  · exact h'
  · rw [Array.getElem?_eq_none h'] at h; cases h
 rw [hb.block _ hlt];exact h
theorem pow10_at : (Go.Pinned.pow10Rows.map fun x => (DataW.agg [.lit (.int .u64 x.1), .lit (.int .u64 x.2)] : DataW Unit))[364]? = some (.agg [.lit (.int .u64 10240000000000000000), .lit (.int .u64 0)]) := by kernel_rfl
theorem ten_of_head {W : World} {rest : List (String × DataW Unit)} (h : laidMet Tryz.prog (("internal/strconv.pow10Tab", Rows.laid_internal_strconv_pow10Tab) :: rest) W) : Ten W := by
 obtain ⟨ps, ⟨g', t', cs, fuel, p, q, hg', ht', hvar, hd, _, _⟩, _⟩ := h;obtain rfl := Option.some.inj (ten_named.symm.trans hg');obtain rfl : 254 = t' := Option.some.inj ((show (Tryz.prog.globals[13]?).map (·.type) = some 254 by kernel_rfl).symm.trans ht');refine ⟨cs, hvar, ?_⟩;obtain ⟨xs, m, _, hx, hl, hn, hi⟩ := DataW.trod_array Tryz.underlying254 hd
 have hce : Tryz.prog.cellsOf 253 = 2 := by kernel_rfl
 have h364 := hi 364 (by decide);rw [hce] at h364;have hmap : xs.map (·.1) = Go.Pinned.pow10Rows.map fun x => (DataW.agg [.lit (.int .u64 x.1), .lit (.int .u64 x.2)] : DataW Unit) := by
  have := congrArg Prod.fst hx;simp only [Rows.laid_internal_strconv_pow10Tab, Go.Pinned.pow10Tab] at this
  injection this with this
  exact this.symm
 have h1 : (xs[364]?).map (·.1) = some (.agg [.lit (.int .u64 10240000000000000000), .lit (.int .u64 0)]) := by
  rw [← List.getElem?_map, hmap]; exact pow10_at
 obtain ⟨y, hy, hy1⟩ := Option.map_eq_some_iff.1 h1;rw [hy] at h364;obtain ⟨zs, m2, _, hz, hzl, hzn, hf⟩ := DataW.trod_struct Tryz.underlying253 h364;have hz1 : zs.map (·.1) = [.lit (.int .u64 10240000000000000000), .lit (.int .u64 0)] := by
  rw [hz] at hy1;injection hy1
 have hcu : Tryz.prog.cellsOf 32 = 1 := by kernel_rfl
 match zs, hz1, hf with
 | [z0, z1], hz1, hf =>
  simp only [List.map_cons, List.map_nil, List.cons.injEq, and_true] at hz1
  have f0 := hf 0 _ rfl;have f1 := hf 1 _ rfl;obtain ⟨n0, hc0, e0, _⟩ := DataW.trod_int Tryz.underlying32 f0;obtain ⟨n1, hc1, e1, _⟩ := DataW.trod_int Tryz.underlying32 f1;rw [e0, e1] at hz1;simp only [DataW.lit.injEq, Lit.int.injEq, true_and] at hz1
  obtain ⟨rfl, rfl⟩ := hz1;have g0 := congrArg (·[0]?) hc0;have g1 := congrArg (·[0]?) hc1;simp [hcu] at g0 g1
  exact ⟨g0, g1⟩
theorem zoq {W : World} (h : laidMetH Tryz.prog Rows.codeChecksRow.laid W) : laidMet Tryz.prog Rows.codeChecksRow.laid W := by
 rw [MakeChecks.laidMetH_plain _ _ _ (by kernel_rfl)] at h;exact h
theorem ten_of {W : World} (h : laidMetH Tryz.prog Rows.codeChecksRow.laid W) (b : World) (hb : Below W.heap.size W b) : Ten b :=
 (ten_of_head (zoq h).tail.tail.tail.tail.tail.tail.tail.tail.tail.tail.tail.tail).stays hb
theorem tabd_of {W : World} (h : laidMetH Tryz.prog Rows.codeChecksRow.laid W) (b : World) (hb : Below W.heap.size W b) : TabD b :=
 tab_stays (Lib.tabIs_of_head (k := .u64) (zs := Lib.pow10Tab) (g := 9) (t := 237) (e := 32) (n := 20) (by kernel_rfl) (by kernel_rfl) Tryz.underlying237 Tryz.underlying32 (by kernel_rfl) (by kernel_rfl) (zoq h).tail.tail.tail.tail.tail.tail.tail.tail) hb
theorem standIns_r (t : TypeId) (h : t = 42 ∨ t = 32 ∨ t = 9) : Tryz.prog.wantsStandIn t = false := by
 rcases h with rfl | rfl | rfl
 · kernel_rfl
 · kernel_rfl
 · kernel_rfl
end Go.Proofs.YtjdcjdohghkcgaaGreatDoor
