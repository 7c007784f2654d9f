/- Texts of this claim. -/
import Derived.Test.YtjdcjdohghkcgaaGreatDoorX6
import Derived.Laws.IdiomStrings
import Derived.Lib.ItoaMem
namespace Go.Proofs.YtjdcjdohghkcgaaGreatDoor
open Go.RowKit
theorem Per.turn {X Y : Nat → Prop} {w w' : World} {F : World → Prop} (h : Per X w F) (e : Ext X w w') (hy : ∀ k, Y k → X k ∨ w.heap.size ≤ k) : Per Y w' F := fun _ hb => h _ (e.step hb hy)
theorem jw {w : World} {base n size : Nat} {e : TypeId} {v : Value} {xs : List Value} (h : w.ownsRow base e size v n xs) : ∃ A c, v = .slice A n c := by
 rcases h.2 with ⟨rfl, rfl⟩ | ⟨g, cap, cur, rfl, _⟩
 · exact ⟨none, 0, rfl⟩
 · exact ⟨_, _, rfl⟩
theorem owns_cells {w : World} {base n c : Nat} {e : TypeId} {A : Option Addr} {xs : List Value} (h : w.ownsRow base e 1 (.slice A n c) n xs) (h0 : 0 < n) : ∃ g, A = some ⟨g, 0, none⟩ ∧ base ≤ g ∧ g < w.heap.size ∧ ∀ j u, xs[j]? = some u → w.cell? ⟨g, j, none⟩ = some u := by
 rcases h.2 with ⟨_, rfl⟩ | ⟨g, cap, cur, hv, hg, hh, hn, _, hs, ht⟩
 · omega
 · cases hv
   refine ⟨g, rfl, hg, (Array.getElem?_eq_some_iff.1 hh).1, fun j u hj => ?_⟩;unfold World.cell?;simp only [hh, Option.isSome_none, Bool.false_eq_true, if_false]
   rw [← ht, List.getElem?_take] at hj;split at hj
   · simpa using hj
   · cases hj
theorem zxq {w : World} {base n c : Nat} {e : TypeId} {A : Option Addr} {xs : List Value} {l : List UInt8} (h : w.ownsRow base e 1 (.slice A n c) n xs) (hx : xs = l.map fun b => .int .u8 (b.toNat : Int)) :
 0 < l.length → ∃ b o, A = some ⟨b, o, none⟩ ∧ ∀ j (hj : j < l.length), w.cell? ⟨b, o + j, none⟩ = some (.int .u8 (l[j].toNat : Int)) := by
 intro h0;have hn : n = l.length := by have := h.1; rw [hx] at this; simpa using this.symm
 obtain ⟨g, rfl, _, _, hc⟩ := owns_cells h (by omega);refine ⟨g, 0, rfl, fun j hj => ?_⟩;rw [Nat.zero_add];exact hc j _ (by rw [hx]; simp [hj])
theorem gi {w : World} {g : Nat} {t : TypeId} {cs : Array Value} {B n : Nat} (h : Blk w g t cs) (hB : g < B) (hn : cs.size = n) : Reads w B 1 (some ⟨g, 0, none⟩) n cs.toList := by
 refine ⟨by simp [hn], fun _ => ⟨_, rfl, hB, fun j u hj => ?_⟩⟩;have h1 := h.cell j;rw [Lib.add_plain];simpa [h1] using hj
section
variable {P : Program} {N : Nat} {ops : Array Oper} {Q : Exit → Act → World → Prop} {σ : Env} {w : World} {ty : TypeId} {pos : String} {af : Array Edge} {dst : Option Nat} {Post : Value → World → Prop}
theorem ot {ρ : Operand → Value} (ha : ∀ {x v}, ev σ x = some v → ρ x = v) (y : Operand) (q : IntKind) (j lim : Nat) (code : BoundsCode) (hy : ev σ y = some (.int q (j : Int))) (hj : j ≤ lim) : (Instr.sliceBound (ρ y) lim code).run P w = .ok j w := by
 have h2 : (0 : Int) ≤ (j : Int) ∧ (j : Int) ≤ (lim : Int) := by omega
 simp only [Instr.sliceBound, ha hy, asIntOf, Sem.run_bind, Sem.run_pure, Result.andThen_ok]
 rw [if_pos h2];simp
theorem kn {T : TypeId} {x : Operand} {lo hi : Option Operand} {s : ByteArray} {l h : Nat} (hd : P.underlying T = some .string) (hx : ev σ x = some (.string s))
 (hl : (match lo with | none => l = 0 | some y => ∃ q, ev σ y = some (.int q (l : Int)))) (hh : (match hi with | none => h = s.size | some y => ∃ q, ev σ y = some (.int q (h : Int)))) (hlh : l ≤ h) (hhc : h ≤ s.size)
 (k : Post (.string (s.extract l h)) w) : OW P N ops Q ⟨dst, .slice T x lo hi none, ty, pos, af, none⟩ σ w Post :=
 yv (fun ρ ha => by
  cases lo with
  | none =>
   cases hi with
   | none =>
    simp only at hl hh
    subst hl; subst hh;simp only [execOp, Instr.sliceAt, Option.map_none, ha hx, Sem.run_bind, run_underlying hd, Result.andThen_ok, Instr.slice, Instr.sliceBounds, Sem.run_pure, Option.isSome_none, Bool.false_eq_true, if_false]
   | some y =>
    simp only at hl
    subst hl;obtain ⟨q, hy⟩ := hh;simp only [execOp, Instr.sliceAt, Option.map_none, Option.map_some, ha hx, Sem.run_bind, run_underlying hd, Result.andThen_ok, Instr.slice, Instr.sliceBounds, Sem.run_pure, Option.isSome_none, Bool.false_eq_true, if_false, ot ha y q h s.size _ hy hhc]
  | some z =>
   obtain ⟨q', hz⟩ := hl;cases hi with
   | none =>
    simp only at hh
    subst hh;simp only [execOp, Instr.sliceAt, Option.map_none, Option.map_some, ha hx, Sem.run_bind, run_underlying hd, Result.andThen_ok, Instr.slice, Instr.sliceBounds, Sem.run_pure, Option.isSome_none, Bool.false_eq_true, if_false, ot ha z q' l _ _ hz hlh]
   | some y =>
    obtain ⟨q, hy⟩ := hh;simp only [execOp, Instr.sliceAt, Option.map_none, Option.map_some, ha hx, Sem.run_bind, run_underlying hd, Result.andThen_ok, Instr.slice, Instr.sliceBounds, Sem.run_pure, Option.isSome_none, Bool.false_eq_true, if_false, ot ha y q h s.size _ hy hhc, ot ha z q' l _ _ hz hlh]) k
theorem ow_sliceA {T e : TypeId} {x y : Operand} {g n s h : Nat} {q : IntKind} (hd : P.underlying T = some (.array n e)) (hs : vm P e s) (hx : ev σ x = some (.pointer (some ⟨g, 0, none⟩))) (hy : ev σ y = some (.int q (h : Int))) (hn : h ≤ n)
 (k : Post (.slice (some ⟨g, 0, none⟩) h n) w) : OW P N ops Q ⟨dst, .slice T x none (some y) none, ty, pos, af, none⟩ σ w Post :=
 yv (fun ρ ha => by
  simp only [execOp, Instr.sliceAt, Option.map_none, Option.map_some, ha hx, Sem.run_bind, run_underlying hd, Result.andThen_ok, Instr.sureAddr, Instr.sliceBounds, Sem.run_pure, jy hs, Option.isSome_none, Bool.false_eq_true, if_false, ot ha y q h n _ hy hn]
  simp [Addr.add]) k
theorem zaq {S D e : TypeId} {x : Operand} {A : Option Addr} {c : Nat} {l : List UInt8} (hS : P.underlying S = some (.slice e)) (he : P.underlying e = some (.int .u8)) (hD : P.underlying D = some .string) (hx : ev σ x = some (.slice A l.length c))
 (hc : 0 < l.length → ∃ b o, A = some ⟨b, o, none⟩ ∧ ∀ j (hj : j < l.length), w.cell? ⟨b, o + j, none⟩ = some (.int .u8 (l[j].toNat : Int)))
 (k : Post (.string ⟨l.toArray⟩) w) : OW P N ops Q ⟨dst, .convert S D x, ty, pos, af, none⟩ σ w Post :=
 yv (fun ρ ha => by
  have key : (convert S D (.slice A l.length c)).run P w = .ok (.string ⟨l.toArray⟩) w := by
   rcases Nat.eq_zero_or_pos l.length with h0 | h0
   · obtain rfl : l = [] := List.length_eq_zero_iff.1 h0;rw [run_convert_bytes_string w S D e A _ c hS he hD];cases A <;> simp [Conv.bytesToString, loadCellsFrom, go_sem] <;> rfl
   · obtain ⟨b, o, rfl, hcc⟩ := hc h0;exact run_convert_bytes_back w S D e ⟨b, o, none⟩ c l hS he hD (fun j hj => by
      rw [Lib.add_plain];exact hcc j hj)
  simp only [execOp, ha hx, Sem.run_bind, key, Result.andThen_ok, Sem.run_pure]) k
theorem ypz {x y : Operand} {t1 t2 : TypeId} {q q2 : IntKind} {m n : Int} (hx : ev σ x = some (.int q m)) (hy : ev σ y = some (.int q2 n))
 (k : Post (.int q (if n > m then n else m)) w) : OW P N ops Q ⟨dst, .call ⟨.builtin .max, #[x, y], #[t1, t2]⟩, ty, pos, af, none⟩ σ w Post :=
 yv (fun ρ ha => by simp [execOp, resolve, invoke, builtin, Builtin.max_, Builtin.max2, ha hx, ha hy, go_sem]) k
end
set_option maxRecDepth 100000
theorem putRow_ext (w : World) (g off : Nat) (dk : Array UInt8) (n : Nat) : Ext (Mut [some g]) w ((Sort.putRow (fun (b : UInt8) => Value.int .u8 (b.toNat : Int)) w g off dk).drewN n) := by
 refine ⟨rfl, rfl, rfl, ?_, ?_⟩
 · simp [Sort.putRow, Sort.mapBlock, World.drewN]
 · intro i hi hx;have hne : g ≠ i := fun e => hx (Or.inl (congrArg some e.symm));simp [Sort.putRow, Sort.mapBlock, World.drewN, Array.getElem?_modify, hne]
theorem small_below (i : Nat) (h : i < 100) (w : World) : Calls Tryz.prog 169 #[.int .i64 i] w fun e w' => e = .returned (.string ⟨(Lib.decDigits i).toArray⟩) ∧ Below w.heap.size w w' :=
 (Tryz.internal_strconv_small i h w).mono fun _ _ ⟨a, b⟩ => ⟨a, b ▸ Below.refl _ _⟩
theorem fmt_small (u : Nat) (hu : u < 100) (w : World) : Calls Tryz.prog 128 #[.int .u64 u, .int .i64 10] w fun e w' => e = .returned (.string ⟨(Lib.decDigits u).toArray⟩) ∧ Below w.heap.size w w' := by
 have hd : decide (((u : Nat) : Int) < 100) = true := decide_eq_true (by omega);refine zo Tryz.func128 rfl Tryz.ntmps128 rfl ?_;have LW := erx (No) w;have XLW := grx (No) w;have E := erx (No) w
 refine srx (anx rfl (zb (srx (mvx rfl (za rfl (zx rfl rfl (rnx (zz rfl (zb (srx (mvx rfl (za rfl (yp rfl rfl (rnx (yc 12 (.bool true) rfl ((by rw [hd] : (.bool (decide (((u : Nat) : Int) < 100)) : Value) = _)) (zz rfl (srx (mvx rfl (za rfl (yx Tryz.underlying3 Tryz.underlying32 rfl (zp (by omega)) (za rfl (zg en169 rfl ((small_below u hu _).mono ?_)))))))))))))))))))))))
 rintro e w1 ⟨rfl, hb⟩;refine ⟨_, rfl, ?_⟩;replace E := blx E hb;refine anx rfl (zt (zq (zq (zr (rs := [.tmp 4]) (vs := [_]) rfl ⟨rfl, trivial⟩ ?_))));exact ⟨rfl, (LW.step E XLW).toBelow⟩
theorem digits_below (u : Nat) (h1 : 1 ≤ u) (h2 : u < 18446744073709551616) (w : World) (htab : Lib.TabIs Tryz.prog w "internal/strconv.uint64pow10" .u64 Lib.pow10Tab) : Calls Tryz.prog 158 #[.int .u64 u] w fun e w' => e = .returned (.int .i64 ((Lib.nDigits u : Nat) : Int)) ∧ Below w.heap.size w w' :=
 (Tryz.internal_strconv_numDigits u h1 h2 w htab).mono fun _ _ ⟨a, b⟩ => ⟨a, b ▸ Below.refl _ _⟩
theorem fmt_row (u : Nat) (hu : 100 ≤ u) (hu64 : u < 18446744073709551616) (w : World) (g : Nat) (hB0 : Blk w g 188 (Array.replicate 24 (.int .u8 0))) :
 Calls Tryz.prog 170 #[.slice (some ⟨g, 0, none⟩) (Lib.nDigits u) 24, .int .u64 u] w fun e w' => e = .returned (.tuple #[]) ∧ ∃ cs, Blk w' g 188 cs ∧ Ext (Mut [some g]) w w' ∧ ∀ j (hj : j < (Lib.decDigits u).length), w'.cell? ⟨g, 0 + j, none⟩ = some (.int .u8 ((Lib.decDigits u)[j].toNat : Int)) := by
 have hn20 : Lib.nDigits u ≤ 20 := by have := Lib.numDigits_eq u (by omega) hu64; split at this <;> omega
 have hsz : (Array.replicate (Lib.nDigits u) (0 : UInt8)).size = Lib.nDigits u := by simp
 have hH : Sort.Holds (fun (b : UInt8) => Value.int .u8 (b.toNat : Int)) w g 0 (Array.replicate (Lib.nDigits u) 0) := by
  intro j hj;rw [hsz] at hj;have hj24 : j < 24 := by omega
  refine ⟨?_, ?_⟩
  · rw [hB0.cell];simp [hj, hj24]
  · unfold World.frozen?;simp [show w.heap[g]? = some (.cells (Array.replicate 24 (.int .u8 0)) 188 (0, 0)) from hB0]
 have h := Tryz.internal_strconv_formatBase10 g 0 24 u (Array.replicate (Lib.nDigits u) 0) w hH (by rw [hsz]; exact Lib.lt_pow_nDigits u) hu64 (by rw [hsz]; omega);rw [hsz] at h;refine h.mono fun e w' ⟨he, n, v', dk, hw, hF⟩ => ⟨he, ?_⟩;have hdk : dk.size = Lib.nDigits u := hF.size;subst hw
 refine ⟨Sort.putCells (fun (b : UInt8) => Value.int .u8 (b.toNat : Int)) 0 dk (Array.replicate 24 (.int .u8 0)), ?_, putRow_ext w g 0 dk n, fun j hj => ?_⟩
 · show (Array.modify w.heap g _)[g]? = _
   rw [Array.getElem?_modify, if_pos rfl, show w.heap[g]? = some (.cells (Array.replicate 24 (.int .u8 0)) 188 (0, 0)) from hB0];rfl
 · have hjn : j < Lib.nDigits u := by rw [Lib.decDigits_length] at hj; exact hj
   rw [Lib.row_is_numeral hF j hj, World.cell?_drewN];exact Sort.cell?_putRow (fun (b : UInt8) => Value.int .u8 (b.toNat : Int)) w g 0 _ dk hH (by rw [hdk, hsz]) j (by rw [hdk]; exact hjn)
theorem fmt_big (u : Nat) (hu : 100 ≤ u) (hu64 : u < 18446744073709551616) (w : World) (htab : ∀ b, Below w.heap.size w b → Lib.TabIs Tryz.prog b "internal/strconv.uint64pow10" .u64 Lib.pow10Tab) : Calls Tryz.prog 128 #[.int .u64 u, .int .i64 10] w fun e w' => e = .returned (.string ⟨(Lib.decDigits u).toArray⟩) ∧ Below w.heap.size w w' := by
 have hd : decide (((u : Nat) : Int) < 100) = false := decide_eq_false (by omega);refine zo Tryz.func128 rfl Tryz.ntmps128 rfl ?_;have LW := erx (No) w;have XLW := grx (No) w;have E := erx (No) w
 refine srx (anx rfl (zb (srx (mvx rfl (za rfl (zx rfl rfl (rnx (zz rfl (zb (srx (mvx rfl (za rfl (yp rfl rfl (rnx (yc 12 (.bool false) rfl ((by rw [hd] : (.bool (decide (((u : Nat) : Int) < 100)) : Value) = _)) (zj rfl (zf (zc (srx (za rfl (qu zr188 ?_)))))))))))))))))))));intro gb1 w2 Bb1 Eb1 Gb1
 have Gb1 : _ ≤ gb1 := Nat.le_trans E.size Gb1;have GLb1 := Nat.le_trans LW.size Gb1;replace E := E.trans Eb1.no;replace E := E.cons (some gb1);replace XLW := Mut.grow XLW (fun k e => Or.inr (Nat.le_trans LW.size ((ye Gb1) k e)));refine rnx (srx (mvx rfl (za rfl (zg en158 rfl ((digits_below u (by omega) hu64 _ (htab _ (LW.step E XLW).toBelow)).mono ?_)))));rintro e w3 ⟨rfl, hb⟩
 refine ⟨_, rfl, ?_⟩;have Ec := Ext.of_below hb No;replace Bb1 := Bb1.extN Ec NotIn.nil;replace E := E.trans Ec.no;refine anx rfl (srx (mvx rfl ?_));have hn20 : Lib.nDigits u ≤ 20 := by have := Lib.numDigits_eq u (by omega) hu64; split at this <;> omega
 refine za rfl (ow_sliceA Tryz.underlying188 sz5 rfl rfl (by omega) (mvx rfl (za rfl (zg en170 rfl ((fmt_row u hu hu64 _ gb1 Bb1).mono ?_)))));rintro e w4 ⟨rfl, cs1, hB, hE, hcs⟩;refine ⟨_, rfl, ?_⟩;replace Bb1 := hB;clear hB;replace E := E.step1 hE Mut.head;clear hE;refine rnx (srx (mvx rfl (za rfl (ow_sliceA Tryz.underlying188 sz5 rfl rfl (by omega) ?_))))
 have hlen : (Lib.decDigits u).length = Lib.nDigits u := Lib.decDigits_length u;refine za rfl (zaq (l := Lib.decDigits u) (A := some ⟨gb1, 0, none⟩) (c := 24) Tryz.underlying97 Tryz.underlying5 Tryz.underlying9 (by rw [hlen]; rfl) (fun _ ↦ ⟨gb1, 0, rfl, hcs⟩) (anx rfl (zt (zq (zr (rs := [.tmp 4]) (vs := [_]) rfl ⟨rfl, trivial⟩ ?_)))))
 exact ⟨rfl, (LW.step E XLW).toBelow⟩
theorem fmt_any (u : Nat) (hu64 : u < 18446744073709551616) (w : World) (htab : ∀ b, Below w.heap.size w b → Lib.TabIs Tryz.prog b "internal/strconv.uint64pow10" .u64 Lib.pow10Tab) : Calls Tryz.prog 128 #[.int .u64 u, .int .i64 10] w fun e w' => e = .returned (.string ⟨(Lib.decDigits u).toArray⟩) ∧ Below w.heap.size w w' := by
 rcases Nat.lt_or_ge u 100 with h | h
 · exact fmt_small u h w
 · exact fmt_big u h hu64 w htab
end Go.Proofs.YtjdcjdohghkcgaaGreatDoor
