/- The walks of whole.fits, Of. -/
import Derived.Test.YteggjfmcpodepaaDoorWForm
namespace Go.Proofs.YteggjfmcpodepaaDoor
open Go.RowKit

set_option maxRecDepth 100000 in
set_option maxHeartbeats 400000 in
theorem fits_yes (neg : Bool) (A : Option Addr) (c : Nat) (xs : List Nat) (w : World) (hx : Nums w A xs) (hs : small B18 xs) (hl : xs.length ≤ 1048576) (hf : val B18 xs < B18 ^ 30) :
    Calls Tryd.prog 56 #[.bool neg, .slice A xs.length c] w (RetBigErr w (sgn neg (val B18 xs)) 0) := by
  have hlen : (limbs (sgn neg (val B18 xs))).length ≤ 30 := by rw [limbs_eq, sgn_natAbs]; exact (digs_length_le B18_two _ _).2 hf
  obtain ⟨i, hi⟩ : ∃ i, i = sgn neg (val B18 xs) := ⟨_, rfl⟩
  rw [← hi] at hlen ⊢
  have HI := Lib.hid hi
  clear hi
  go_enter Tryd.func56, Tryd.ntmps56
  go_wp2_with fail
  refine (form_any neg A c xs _ (hx.alloc _) hs hl).mono ?_
  rintro e w1 ⟨A1, c1, rfl, hown, hbel⟩
  rw [← HI.out] at hown ⊢
  have hz : w.heap.size < w1.heap.size := by have := hbel.size; simp at this; omega
  obtain ⟨hc, hf⟩ := bcell hbel
  simp only [World.size_alloc] at hc hf
  go_wp2
  refine bodyPost_ret (v := .tuple #[.agg #[.bool (decide (i < 0)), .slice A1 (limbs i).length c1], .int .i64 0]) (by simp [results, Tryd.results56, go_sem, hc, hz]) rfl ?_
  simp only [World.size_alloc] at hown hbel
  exact ⟨A1, c1, rfl, (((hown.setBelow (by simp) _).setBelow (by simp) _).alloc _).mono (by simp), (((((Below.refl _ _).alloc (Nat.le_refl _) _).trans (hbel.mono (by simp))).setCell (by simp) _).setCell (by simp) _).alloc (by simp; omega) _⟩

set_option maxRecDepth 100000 in
set_option maxHeartbeats 400000 in
theorem fits_no (neg : Bool) (A : Option Addr) (c : Nat) (xs : List Nat) (w : World) (hx : Nums w A xs) (hs : small B18 xs) (hl : xs.length ≤ 1048576) (hf : B18 ^ 30 ≤ val B18 xs) :
    Calls Tryd.prog 56 #[.bool neg, .slice A xs.length c] w (RetBigErr w 0 7) := by
  have hlen : 30 < (limbs (sgn neg (val B18 xs))).length := by
    rw [limbs_eq, sgn_natAbs]
    rcases Nat.lt_or_ge 30 (digs B18 (val B18 xs)).length with h | h
    · exact h
    · have := (digs_length_le B18_two _ _).1 h; omega
  have hlen : (30 : Int) < ((limbs (sgn neg (val B18 xs))).length : Int) := by omega
  obtain ⟨i, hi⟩ : ∃ i, i = sgn neg (val B18 xs) := ⟨_, rfl⟩
  rw [← hi] at hlen
  have HI := Lib.hid hi
  clear hi
  go_enter Tryd.func56, Tryd.ntmps56
  go_wp2_with fail
  refine (form_any neg A c xs _ (hx.alloc _) hs hl).mono ?_
  rintro e w1 ⟨A1, c1, rfl, hown, hbel⟩
  rw [← HI.out] at hown ⊢
  have hz : w.heap.size < w1.heap.size := by have := hbel.size; simp at this; omega
  obtain ⟨hc, hf⟩ := bcell hbel
  simp only [World.size_alloc] at hc hf
  go_wp2
  refine bodyPost_ret (v := .tuple #[.agg #[.bool false, .slice none 0 0], .int .i64 7]) (by simp [results, Tryd.results56, go_sem, hc, hz]) rfl ?_
  simp only [World.size_alloc] at hbel
  exact ⟨none, 0, by rw [limbs_zero]; rfl, by rw [limbs_zero]; exact Own.nil _ _, (((((Below.refl _ _).alloc (Nat.le_refl _) _).trans (hbel.mono (by simp))).setCell (by simp) _).setCell (by simp) _).alloc (by simp; omega) _⟩

theorem nums_two (w : World) (o : Obj) (x y : Nat) (hx : x < 18446744073709551616) (hy : y < 18446744073709551616) :
    Nums ((w.alloc o).alloc (.cells #[.int .u64 (x : Int), .int .u64 (y : Int)] 63)) (some ⟨w.heap.size + 1, 0, none⟩) [x, y] := by
  have h := cell_of_row ((w.alloc o).alloc (.cells #[.int .u64 (x : Int), .int .u64 (y : Int)] 63)) (w.heap.size + 1) 
  refine ⟨nth_bound (by simp; omega), fun _ => ⟨w.heap.size + 1, 0, rfl, by simp, fun k hk => ?_⟩⟩
  have hh : ((w.alloc o).alloc (.cells #[.int .u64 (x : Int), .int .u64 (y : Int)] 63)).heap[w.heap.size + 1]? = some (.cells #[.int .u64 (x : Int), .int .u64 (y : Int)] 63 (0, 0)) := by
    have := heap_alloc_new (w.alloc o) (.cells #[.int .u64 (x : Int), .int .u64 (y : Int)] 63); simpa using this
  rw [h (0 + k) _ _ _ hh]
  match k, hk with
  | 0, _ => simp [nth]
  | 1, _ => simp [nth]
  | k + 2, hk => simp only [List.length_cons, List.length_nil] at hk; omega
theorem wrap_neg (n : Int) (m : Nat) (h0 : -9223372036854775808 ≤ n) (hn : n < 0) (hm : m = n.natAbs) : IntKind.u64.wrap (-IntKind.u64.wrap n) = (m : Int) := by
  simp [IntKind.wrap, IntKind.signed, IntKind.bits]; omega
theorem wrap_pos (n : Int) (m : Nat) (h1 : n ≤ 9223372036854775807) (hn : 0 ≤ n) (hm : m = n.natAbs) : IntKind.u64.wrap n = (m : Int) := by
  simp [IntKind.wrap, IntKind.signed, IntKind.bits]; omega
theorem of_val (n : Int) (m : Nat) (hm : m = n.natAbs) : sgn (decide (n < 0)) (val B18 [m % 1000000000000000000, m / 1000000000000000000]) = n := by
  have e : val B18 [m % 1000000000000000000, m / 1000000000000000000] = m := by simp only [val, Nat.mul_zero, Nat.add_zero]; unfold B18; omega
  rw [e]; unfold sgn
  by_cases h : n < 0
  · simp [h]; omega
  · simp [h]; omega
theorem of_small (m : Nat) (hm : m ≤ 9223372036854775808) : small B18 [m % 1000000000000000000, m / 1000000000000000000] := by
  intro x hx
  simp at hx
  unfold B18
  omega

set_option maxRecDepth 100000 in
set_option maxHeartbeats 400000 in
theorem of_any (n : Int) (w : World) (h0 : -9223372036854775808 ≤ n) (h1 : n ≤ 9223372036854775807) :
    Calls Tryd.prog 22 #[.int .i64 n] w (RetBig w n) := by
  obtain ⟨m, hm⟩ : ∃ m, m = n.natAbs := ⟨_, rfl⟩
  have hmb : m ≤ 9223372036854775808 := by omega
  have hval := of_val n m hm
  have hnums := fun (o : Obj) => nums_two w o (m % 1000000000000000000) (m / 1000000000000000000) (by omega) (by omega)
  have hsm := of_small m hmb
  by_cases hn : n < 0
  · have hwr := wrap_neg n m h0 hn hm
    simp only [hn, decide_true] at hval
    have HV := Lib.hid hval; have HS := Lib.hid hsm; have HN := Lib.hid hnums
    clear hval hsm hnums hm
    go_enter Tryd.func22, Tryd.ntmps22
    go_wp2_with fail
    refine (form_any true _ 2 [m % 1000000000000000000, m / 1000000000000000000] _ (HN.out _) HS.out (by simp)).mono ?_
    rintro e w1 ⟨A1, c1, rfl, hown, hbel⟩
    rw [HV.out] at hown ⊢
    simp only [World.size_alloc] at hown
    have hz : w.heap.size < w1.heap.size := by have := hbel.size; simp at this; omega
    obtain ⟨c0, c1', f0, f1⟩ := ((Blk.first w 24 #[.bool false, .slice none 0 0] _).below hbel (by simp; omega)).two
    go_wp2
    refine bodyPost_ret (v := .agg #[.bool true, .slice A1 (limbs n).length c1]) (by simp [results, Tryd.results22, go_sem, c0, c1']) rfl ?_
    exact ⟨A1, c1, by rw [decide_eq_true hn], ((hown.setBelow (by simp; omega) _).setBelow (by simp; omega) _).mono (by omega), ((((Below.refl _ _).alloc (Nat.le_refl _) _).alloc (by simp) _).trans (hbel.mono (by simp; omega))).setCell (by simp) _ |>.setCell (by simp) _⟩
  · have hwr := wrap_pos n m h1 (by omega) hm
    simp only [hn, decide_false] at hval
    have HV := Lib.hid hval; have HS := Lib.hid hsm; have HN := Lib.hid hnums
    clear hval hsm hnums hm
    go_enter Tryd.func22, Tryd.ntmps22
    go_wp2_with fail
    refine (form_any false _ 2 [m % 1000000000000000000, m / 1000000000000000000] _ (HN.out _) HS.out (by simp)).mono ?_
    rintro e w1 ⟨A1, c1, rfl, hown, hbel⟩
    rw [HV.out] at hown ⊢
    simp only [World.size_alloc] at hown
    have hz : w.heap.size < w1.heap.size := by have := hbel.size; simp at this; omega
    obtain ⟨c0, c1', f0, f1⟩ := ((Blk.first w 24 #[.bool false, .slice none 0 0] _).below hbel (by simp; omega)).two
    go_wp2
    refine bodyPost_ret (v := .agg #[.bool false, .slice A1 (limbs n).length c1]) (by simp [results, Tryd.results22, go_sem, c0, c1']; omega) rfl ?_
    exact ⟨A1, c1, by rw [decide_eq_false (by omega)], ((hown.setBelow (by simp; omega) _).setBelow (by simp; omega) _).mono (by omega), ((((Below.refl _ _).alloc (Nat.le_refl _) _).alloc (by simp) _).trans (hbel.mono (by simp; omega))).setCell (by simp) _ |>.setCell (by simp) _⟩
end Go.Proofs.YteggjfmcpodepaaDoor
