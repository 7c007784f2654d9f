/- Texts of this claim. -/
import Derived.Test.YtmjbnhjgebjhlaaDoorK6
import Derived.Laws.IdiomStrings
import Derived.Lib.ItoaMem
namespace Go.Proofs.YtmjbnhjgebjhlaaDoor
open Go.RowKit
theorem Per.turn {X Y : Nat → Prop} {w w' : World} {F : World → Prop} (h : Per X w F) (e : Ext X w w') (hy : ∀ k, Y k → X k ∨ w.heap.size ≤ k) : Per Y w' F := fun _ hb => h _ (e.step hb hy)
theorem Apart.turn {r r' s : Option Nat} {n : Nat} (d : Apart r s) (kn : ∀ k, r' = some k → r = some k ∨ n ≤ k) (hs : ∀ k, s = some k → k < n) : Apart r' s := fun k e f => (kn k e).elim (fun e' => d k e' f) (fun h => by have := hs k f; omega)
theorem Apart.ge {r s : Option Nat} {n : Nat} (kn : ∀ k, r = some k → n ≤ k) (hs : ∀ k, s = some k → k < n) : Apart r s := fun k e f => by have h1 := kn k e; have h2 := hs k f; omega
theorem vf {w : World} {base n size : Nat} {e : TypeId} {v : Value} {xs : List Value} (h : w.ownsRow base e size v n xs) : ∃ A c, v = .slice A n c := by
 rcases h.2 with ⟨rfl, rfl⟩ | ⟨g, cap, cur, rfl, _⟩
 · exact ⟨none, 0, rfl⟩
 · exact ⟨_, _, rfl⟩
theorem jd {w : World} {base size : Nat} {e : TypeId} : w.ownsRow base e size (.slice none 0 0) 0 [] := ⟨by simp, Or.inl ⟨rfl, rfl⟩⟩
theorem ju {p : Nat → Prop} : ∀ k, (Value.slice none 0 0).ownBlock = some k → p k := fun _ e => by cases e
theorem Per.ownsN {l : List (Option Nat)} {w : World} {base n size : Nat} {e : TypeId} {v : Value} {xs : List Value} (h : w.ownsRow base e size v n xs) (hn : NotIn v.ownBlock l) : Per (Mut l) w (fun b => b.ownsRow base e size v n xs) := fun _ hb => ji h hb hn
theorem xi {w : World} {base base' n size : Nat} {e : TypeId} {v : Value} {xs : List Value} (h : w.ownsRow base e size v n xs) (hb : base' ≤ base) : w.ownsRow base' e size v n xs := by
 refine ⟨h.1, h.2.imp id ?_⟩;rintro ⟨g, cap, cur, hv, hg, r⟩;exact ⟨g, cap, cur, hv, by omega, r⟩
theorem xh {w : World} {base n c : Nat} {e : TypeId} {A : Option Addr} {xs : List Value} (h : w.ownsRow base e 1 (.slice A n c) n xs) (h0 : 0 < n) : ∃ g, A = some ⟨g, 0, none⟩ ∧ base ≤ g ∧ g < w.heap.size ∧ ∀ j u, xs[j]? = some u → w.cell? ⟨g, j, none⟩ = some u := by
 rcases h.2 with ⟨_, rfl⟩ | ⟨g, cap, cur, hv, hg, hh, hn, _, hs, ht⟩
 · omega
 · cases hv
   refine ⟨g, rfl, hg, (Array.getElem?_eq_some_iff.1 hh).1, fun j u hj => ?_⟩;unfold World.cell?;simp only [hh, Option.isSome_none, Bool.false_eq_true, if_false]
   rw [← ht, List.getElem?_take] at hj;split at hj
   · simpa using hj
   · cases hj
theorem xg {w : World} {g : Nat} {t : TypeId} {cs : Array Value} {B n : Nat} (h : Blk w g t cs) (hB : g < B) (hn : cs.size = n) : Reads w B 1 (some ⟨g, 0, none⟩) n cs.toList := by
 refine ⟨by simp [hn], fun _ => ⟨_, rfl, hB, fun j u hj => ?_⟩⟩;have h1 := h.cell j;rw [Lib.add_plain];simpa [h1] using hj
section
variable {P : Program} {N : Nat} {ops : Array Oper} {Q : Exit → Act → World → Prop} {σ : Env} {w : World} {ty : TypeId} {pos : String} {af : Array Edge} {dst : Option Nat} {Post : Value → World → Prop}
theorem og {ρ : Operand → Value} (ha : ∀ {x v}, ev σ x = some v → ρ x = v) (y : Operand) (q : IntKind) (j lim : Nat) (code : BoundsCode) (hy : ev σ y = some (.int q (j : Int))) (hj : j ≤ lim) : (Instr.sliceBound (ρ y) lim code).run P w = .ok j w := by
 have h2 : (0 : Int) ≤ (j : Int) ∧ (j : Int) ≤ (lim : Int) := by omega
 simp only [Instr.sliceBound, ha hy, asIntOf, Sem.run_bind, Sem.run_pure, Result.andThen_ok]
 rw [if_pos h2];simp
theorem vo {T : TypeId} {x : Operand} {lo hi : Option Operand} {s : ByteArray} {l h : Nat} (hd : P.underlying T = some .string) (hx : ev σ x = some (.string s))
 (hl : (match lo with | none => l = 0 | some y => ∃ q, ev σ y = some (.int q (l : Int)))) (hh : (match hi with | none => h = s.size | some y => ∃ q, ev σ y = some (.int q (h : Int)))) (hlh : l ≤ h) (hhc : h ≤ s.size)
 (k : Post (.string (s.extract l h)) w) : OW P N ops Q ⟨dst, .slice T x lo hi none, ty, pos, af, none⟩ σ w Post :=
 qb (fun ρ ha => by
  cases lo with
  | none =>
   cases hi with
   | none =>
    simp only at hl hh
    subst hl; subst hh;simp only [execOp, Instr.sliceAt, Option.map_none, ha hx, Sem.run_bind, run_underlying hd, Result.andThen_ok, Instr.slice, Instr.sliceBounds, Sem.run_pure, Option.isSome_none, Bool.false_eq_true, if_false]
   | some y =>
    simp only at hl
    subst hl;obtain ⟨q, hy⟩ := hh;simp only [execOp, Instr.sliceAt, Option.map_none, Option.map_some, ha hx, Sem.run_bind, run_underlying hd, Result.andThen_ok, Instr.slice, Instr.sliceBounds, Sem.run_pure, Option.isSome_none, Bool.false_eq_true, if_false, og ha y q h s.size _ hy hhc]
  | some z =>
   obtain ⟨q', hz⟩ := hl;cases hi with
   | none =>
    simp only at hh
    subst hh;simp only [execOp, Instr.sliceAt, Option.map_none, Option.map_some, ha hx, Sem.run_bind, run_underlying hd, Result.andThen_ok, Instr.slice, Instr.sliceBounds, Sem.run_pure, Option.isSome_none, Bool.false_eq_true, if_false, og ha z q' l _ _ hz hlh]
   | some y =>
    obtain ⟨q, hy⟩ := hh;simp only [execOp, Instr.sliceAt, Option.map_none, Option.map_some, ha hx, Sem.run_bind, run_underlying hd, Result.andThen_ok, Instr.slice, Instr.sliceBounds, Sem.run_pure, Option.isSome_none, Bool.false_eq_true, if_false, og ha y q h s.size _ hy hhc, og ha z q' l _ _ hz hlh]) k
theorem ow_max {x y : Operand} {t1 t2 : TypeId} {q q2 : IntKind} {m n : Int} (hx : ev σ x = some (.int q m)) (hy : ev σ y = some (.int q2 n))
 (k : Post (.int q (if n > m then n else m)) w) : OW P N ops Q ⟨dst, .call ⟨.builtin .max, #[x, y], #[t1, t2]⟩, ty, pos, af, none⟩ σ w Post :=
 qb (fun ρ ha => by simp [execOp, resolve, invoke, builtin, Builtin.max_, Builtin.max2, ha hx, ha hy, go_sem]) k
end
set_option maxRecDepth 100000
end Go.Proofs.YtmjbnhjgebjhlaaDoor
