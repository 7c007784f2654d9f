/- Texts of this claim. -/
import Derived.Test.YtppdgjlmeahimaaDoorE9
import Derived.Laws.StructEq
namespace Go.Proofs.YtppdgjlmeahimaaDoor
open Go.RowKit
set_option maxRecDepth 100000
def PlainV (P : Program) (t : TypeId) (v : Value) : Prop := (∃ k k' n, P.underlying t = some (.int k') ∧ v = .int k n) ∨ (∃ s, P.underlying t = some .string ∧ v = .string s)
section
variable {P : Program} {w : World}
theorem part_plainV {t : TypeId} {xs : Array Value} {off : Nat} {v : Value} (hx : xs[off]? = some v) (h : PlainV P t v) : (part t xs off).run P w = .ok v w := by
 rcases h with ⟨k, k', n, hu, rfl⟩ | ⟨s, hu, rfl⟩ <;> simp [part, isAgg, run_underlying hu, hx]
theorem same_plainV {t : TypeId} {v : Value} (d : Nat) (h : PlainV P t v) : (Op.equalIn (d + 1) t v v).run P w = .ok true w := by
 rcases h with ⟨k, k', n, hu, rfl⟩ | ⟨s, hu, rfl⟩
 · rw [run_equalIn_int w d t k k' n n hu, beq_self_eq_true]
 · rw [run_equalIn_string w d t s s hu, beq_self_eq_true]
theorem zvx {xs : Array Value} (d : Nat) : ∀ (fs : List Field), (∀ q ∈ fs.map (fun f => (f.type, f.offset)), ∃ v, xs[q.2]? = some v ∧ PlainV P q.1 v) → (Op.eqFields (d + 1) xs xs fs).run P w = .ok true w
 | [], _ => by simp [Op.eqFields]
 | f :: fs, h => by
  obtain ⟨v, hv, hp⟩ := h (f.type, f.offset) (by simp);have ih := zvx d fs fun q hq => h q (by simp only [List.map_cons, List.mem_cons]; exact Or.inr hq);rw [Op.eqFields];split
  · simp only [Sem.run_bind, part_plainV hv hp, Result.andThen_ok, same_plainV d hp, Bool.not_true, Bool.false_eq_true, if_false]
    exact ih
  · exact ih
def PlainS (P : Program) (T : TypeId) (cs : Array Value) : Prop := P.underlying T = some (.struct (P.fieldsOf T)) ∧ P.stoodInHeld T = false ∧ P.eqGuardType P.depth T = false ∧ ∀ q ∈ (P.fieldsOf T).toList.map (fun f => (f.type, f.offset)), ∃ v, cs[q.2]? = some v ∧ PlainV P q.1 v
theorem run_same {T : TypeId} {cs : Array Value} (h : PlainS P T cs) : (Op.equal T (.agg cs) (.agg cs)).run P w = .ok true w := by
 unfold Op.equal;rw [show Op.maxDepth = 9998 + 1 + 1 from rfl, run_equalIn_struct w (9998 + 1) T cs cs h.1 h.2.1];exact zvx 9998 _ h.2.2.2
variable {N : Nat} {ops : Array Oper} {Q : Exit → Act → World → Prop} {σ : Env} {ty : TypeId} {pos : String} {af : Array Edge} {dst : Option Nat} {Post : Value → World → Prop}
theorem ow_neqR {T U : TypeId} {x y : Operand} {cs : Array Value} (h : PlainS P T cs) (hx : ev σ x = some (.agg cs)) (hy : ev σ y = some (.agg cs)) (k : Post (.bool false) w) : OW P N ops Q ⟨dst, .binOp .neq T x y U, ty, pos, af, none⟩ σ w Post :=
 ve (fun ρ ha => by
  have e := run_same (w := w) h;simp only [execOp, ha hx, ha hy, eqGuard, binOp]
  simp [e, bne, go_sem, h.2.2.1]) k
end
/-! ### the structs of a function -/
theorem con_plain (k : Int) (s : ByteArray) : PlainS Tryd.prog 37 #[.int .i64 k, .string s] := by
 refine ⟨by kernel_rfl, by kernel_rfl, by kernel_rfl, fun q hq => ?_⟩;rw [show ((Tryd.prog.fieldsOf 37).toList.map (fun f => (f.type, f.offset))) = [(3, 0), (9, 1)] by kernel_rfl] at hq;simp only [List.mem_cons, List.not_mem_nil, or_false] at hq
 rcases hq with rfl | rfl
 · exact ⟨.int .i64 k, rfl, Or.inl ⟨_, _, _, Tryd.underlying3, rfl⟩⟩
 · exact ⟨.string s, rfl, Or.inr ⟨_, Tryd.underlying9, rfl⟩⟩
theorem reg_plain (a b c d : Int) : PlainS Tryd.prog 50 #[.int .i64 a, .int .i64 b, .int .i64 c, .int .i64 d] := by
 refine ⟨by kernel_rfl, by kernel_rfl, by kernel_rfl, fun q hq => ?_⟩;rw [show ((Tryd.prog.fieldsOf 50).toList.map (fun f => (f.type, f.offset))) = [(3, 0), (3, 1), (3, 2), (3, 3)] by kernel_rfl] at hq;simp only [List.mem_cons, List.not_mem_nil, or_false] at hq
 rcases hq with rfl | rfl | rfl | rfl <;> exact ⟨_, rfl, Or.inl ⟨_, _, _, Tryd.underlying3, rfl⟩⟩
end Go.Proofs.YtppdgjlmeahimaaDoor
