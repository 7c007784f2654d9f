/- The card of the law WholeTexts: for every input that can be read it answers true and leaves its arguments as they were; the row lists three tables and two errors of the library (the card ties them to the program's text). -/
import Derived.Test.YteggjfmcpodepaaDoorWT16
import Derived.Stop.LaidErr
import Derived.MakeChecks
import Derived.SizedLaws
import Derived.ChangeMaps5
namespace Go.Proofs.YteggjfmcpodepaaDoor.fnWholeTexts
open Go.ChangeShapes Go.WideShapes Go.ChangeAt Go.RowKit Go.Joins
set_option maxRecDepth 100000

/-- The text of an error that the library makes at its start. -/
def errText : DataW Unit → ByteArray
  | .iface _ (.ptr (.agg [.lit (.string s)])) => ⟨s.toArray⟩
  | _ => ⟨#[]⟩
/-- So many blocks has the settled world. -/
noncomputable def low : Nat := (World.holding Tryd.prog default ⟨#[], #[], []⟩).heap.size
/-- A world for the witness: the settled one, the three tables and the two errors holding what their initialisers lay. -/
noncomputable def laidWorldE (os : Os) : World :=
  let put (w : World) (b : Nat) (d : DataW Unit) : World := { w with heap := w.heap.modify b fun | .cells _ t frozen => .cells (tabCells d) t frozen | o => o }
  let err (w : World) (b g : Nat) : World := { w with heap := w.heap.modify b fun | .cells _ t frozen => .cells #[.iface 121 (.pointer (some ⟨g, 0, none⟩))] t frozen | o => o }
  err (err (put (put (put (World.holding Tryd.prog os ⟨#[.cells #[.string (errText Rows.laid_strconv_ErrRange)] 123, .cells #[.string (errText Rows.laid_strconv_ErrSyntax)] 123], #[], []⟩) 5 Rows.laid_math_bits_deBruijn32tab) 6 Rows.laid_math_bits_deBruijn64tab) 4 Rows.laid_internal_strconv_uint64pow10) 3 low) 2 (low + 1)
theorem tab_stays {W b : World} (h : Lib.TabIs Tryd.prog W "internal/strconv.uint64pow10" .u64 Lib.pow10Tab) (hb : Below W.heap.size W b) : Lib.TabIs Tryd.prog b "internal/strconv.uint64pow10" .u64 Lib.pow10Tab := by
  have hg : Tryd.prog.globalNamed "internal/strconv.uint64pow10" = some 4 := by kernel_rfl
  unfold Lib.TabIs World.var? at h ⊢
  rw [hg, Option.bind_some] at h ⊢
  have hlt : 4 < W.heap.size := by
    rcases Nat.lt_or_ge 4 W.heap.size with h' | h'
    · exact h'
    · rw [Array.getElem?_eq_none h'] at h; cases h
  rw [hb.block _ hlt]
  exact h
theorem tab_of {W : World} (h : laidMetH Tryd.prog Rows.wholeTextsRow.laid W) : Tab W := by
  rw [MakeChecks.laidMetH_plain _ _ _ (by kernel_rfl)] at h
  have h3 := h.tail.tail
  intro b hb
  refine tab_stays ?_ hb
  exact Lib.tabIs_of_head (k := .u64) (zs := Lib.pow10Tab) (g := 4) (t := 115) (e := 63) (n := 20) (by kernel_rfl) (by kernel_rfl) Tryd.underlying115 Tryd.underlying63 (by kernel_rfl) (by kernel_rfl) h3
/-- What the walk gives, for every argument. -/
theorem contract (H : Type) (enc : TypeId × Value → H) (W : World) (base : Nat) (args : Array Value) (ds gs : List (DataW H)) (before : List MemPlace)
    (hval : ∀ (j : Nat) t v, Tryd.f12.params[j]? = some t → args[j]? = some v → Value.okWide Tryd.prog W .any base t v)
    (hW : DataW.Whole enc Tryd.prog Tryd.f12.params.toList Rows.wholeTextsSpec.vars false W args.toList ds gs before)
    (hz : (DataW.weightsEach Tryd.prog (Tryd.f12.params.toList ++ (OpenSpec.ofChange Rows.wholeTextsSpec).bare.plain.varTypes Tryd.prog) (ds ++ gs)).all (· ≤ reachBytes) = true) (hlaid : laidMetH Tryd.prog Rows.wholeTextsRow.laid W) :
    Calls Tryd.prog 12 args W fun e W' => ∃ v, e = .returned v ∧ Rows.wholeTextsSpec.post enc Tryd.prog Tryd.f12 false true false false W args v W' := by
  have hW' := hW
  obtain ⟨p, q, hA0, hV, rfl, hfz, hnd⟩ := hW
  have hA : DataW.TrodAll enc Tryd.prog W 0 (fun _ => true) true Tryd.f12.params.toList args.toList ds p := hA0
  rw [Tryd.params12] at hA hval hz
  obtain ⟨v0, vs0, d0, ds0, p0, q0, hargs, rfl, rfl, h0, r0⟩ := trodAll_cons hA
  obtain ⟨v1, vs1, d1, ds1, p1, q1, rfl, rfl, rfl, h1, r1⟩ := trodAll_cons r0
  obtain ⟨rfl, rfl, rfl⟩ := trodAll_nil r1
  obtain rfl : args = #[v0, v1] := by cases args; simp_all
  obtain ⟨rfl, rfl⟩ := trodVars_none hV
  obtain ⟨n0, A0, c0, xs0, rfl, hx0, hl0⟩ := open_big (hval 0 24 _ rfl rfl) h0
  obtain ⟨s1, rfl, rfl, rfl, ws1⟩ := Go.ChangeMaps.open_string Tryd.underlying9 (hval 1 9 _ rfl rfl) h1
  have hs8 := sized_string hz (j := 1) rfl rfl
  have hs9 : s1.size ≤ 140737488355328 := by have h9 := reachBytes_lt; have h8 : s1.data.toList.length = s1.size := Array.length_toList; omega
  refine (texts_law n0 A0 c0 xs0 s1 W hx0 (Nat.le_trans hl0 (by decide)) hs9 (tab_of hlaid)).mono fun e W' ⟨he, hb⟩ => ?_
  subst he
  exact ⟨_, rfl, law_post hW' hb rfl rfl (by rw [Tryd.params12]; decide) rfl⟩

theorem reads (os : Os) {H : Type} (enc : TypeId × Value → H) : ∃ places, DataW.whole enc Tryd.prog ((laidWorldE os).forCall (fun _ _ => 0) ⟨#[], #[.agg #[.bool false, .slice none 0 0], .string ⟨#[]⟩], []⟩).memory Tryd.f12.params.toList Rows.wholeTextsSpec.vars false (#[.agg #[.bool false, .slice none 0 0], .string ⟨#[]⟩] : Array Value).toList 8 = some ([.agg [.lit (.bool false), .nil], .lit (.string [])], [], places) :=
  ⟨[], by kernel_rfl⟩
theorem laid_met (os : Os) : laidMet Tryd.prog Rows.wholeTextsRow.laid ((laidWorldE os).forCall (fun _ _ => 0) ⟨#[], #[.agg #[.bool false, .slice none 0 0], .string ⟨#[]⟩], []⟩).memory :=
  laidMet_of_run' 8 (by kernel_rfl) (by kernel_rfl)

theorem lifted (os : Os) (started : os.Started) (H : Type) (enc : TypeId × Value → H) (F : Stop.Interp) :
    ReturnsInHanded {} Tryd.checked os 12 .any ((OpenSpec.ofChange Rows.wholeTextsSpec).preRow enc Tryd.prog Tryd.f12 Rows.wholeTextsRow.domain false Rows.wholeTextsRow.laid) (((OpenSpec.ofChange Rows.wholeTextsSpec).at F).post enc Tryd.prog Tryd.f12 false true false false) := by
  obtain ⟨places, hx⟩ := reads os enc
  refine returnsInHanded_of_row (C := Tryd.checked) (s := OpenSpec.ofChange Rows.wholeTextsSpec) own started (by kernel_rfl) Tryd.func12
    (witness_row_at (enc := enc) (C := Tryd.checked) false (laidWorldE os) #[.agg #[.bool false, .slice none 0 0], .string ⟨#[]⟩] rfl (by kernel_rfl) (by kernel_rfl) (by kernel_rfl)
      (OpenSpec.preRow_of_cond 8 hx (by kernel_rfl) (fun k hk => by cases hk) (by kernel_rfl) (laid_met os))) ?_
  intro W base args ds gs before hval hW _ _ hz hlaid _ _
  exact contract H enc W base args ds gs before hval hW hz hlaid

theorem said : Rows.WholeTextsSaid :=
  OpenClaim.holds_of_cond 12 Tryd.f12 rfl rfl rfl rfl rfl rfl rfl ⟨rfl, rfl, rfl, rfl, rfl⟩ rfl rfl rfl rfl rfl (by kernel_rfl) Tryd.func12 (by kernel_rfl)
    (of_decide_eq_true (by kernel_rfl)) (by unfold Func.isWrapper; first | (rw [if_pos (by decide +kernel)]; kernel_rfl) | (rw [if_neg (by decide +kernel)]; exact ⟨rfl, rfl⟩))
    (fun os started H enc _ F => by rw [OpenClaim.pre_eq_preRow]; exact lifted os started H enc F)

theorem plain (f : FuncId) (fn : Func) (hf : Tryd.pinned.checked.prog.funcNamed "scree/screelaw02.WholeTexts" = some f) (hfn : Tryd.pinned.checked.prog.funcs[f]? = some fn) :
    true = Tryd.pinned.checked.prog.looks [] ∧ ∀ (j : Nat) t, fn.params[j]? = some t → Tryd.pinned.checked.prog.wantsStandIn t = false := by
  obtain rfl : f = 12 := Option.some.inj ((show Tryd.prog.funcNamed "scree/screelaw02.WholeTexts" = some 12 by kernel_rfl).symm.trans hf) |>.symm
  obtain rfl : fn = Tryd.f12 := (Option.some.inj (Tryd.func12.symm.trans hfn)).symm
  refine ⟨by kernel_rfl, fun j t ht => ?_⟩
  rw [Tryd.params12] at ht
  have h := Array.mem_of_getElem? ht
  simp at h
  rcases h with h | h <;> exact standIns_none t (by simp [h])
/-- The card. -/
theorem card : Rows.WholeTextsCardSaid :=
  Claim7.holds_tied_plain_at .later [] _ _ _ _ said (fun _ h => by cases h) (by kernel_rfl) (fun _ h => by cases h) wholeTexts_row_tie rfl ⟨rfl, rfl⟩ (by kernel_rfl) rfl plain (by kernel_rfl)
end Go.Proofs.YteggjfmcpodepaaDoor.fnWholeTexts
