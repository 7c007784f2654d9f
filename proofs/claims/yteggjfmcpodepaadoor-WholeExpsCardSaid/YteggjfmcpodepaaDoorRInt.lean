/- What a reference function that answers a number leaves; the walk of the reference's Int. -/
import Derived.Test.YteggjfmcpodepaaDoorRCut
import Derived.Test.YteggjfmcpodepaaDoorTens
namespace Go.Proofs.YteggjfmcpodepaaDoor
open Go.RowKit

/-- What a call leaves that answers a number in digits. -/
def RetNum (W : World) (i : Int) (e : Ending) (w' : World) : Prop :=
  ∃ A c, e = .returned (.agg #[.bool (decide (i < 0)), .slice A (tens i).length c]) ∧ Own8 w' W.heap.size A c (tens i) ∧ Below W.heap.size W w'
theorem cells_one8 (w : World) (x : Int) (a : Nat) (hx : x = (a : Int)) :
    ∀ j u, ([a].map fun x : Nat => Value.int .u8 (x : Int))[j]? = some u → (w.alloc (.cells #[.int .u8 x] 5)).cell? ((⟨w.heap.size, 0, none⟩ : Addr).add j) = some u := by
  subst hx
  intro j u hj
  match j, hj with
  | 0, hj => simp at hj; subst hj; simp [Addr.add]
theorem wrap8 (u : Int) (h : 0 ≤ u) (h9 : u < 256) : IntKind.u8.wrap u = u := by
  simp [IntKind.wrap, IntKind.signed, IntKind.bits]; omega
theorem digs10_step {u : Int} (h : 0 < u) : digs 10 u.toNat = (u % 10).toNat :: digs 10 (u / 10).toNat := by
  rw [digs_step (by decide) (by omega : u.toNat ≠ 0)]
  have e1 : (u % 10).toNat = u.toNat % 10 := by omega
  have e2 : (u / 10).toNat = u.toNat / 10 := by omega
  rw [e1, e2]
theorem u64_abs_neg (n : Int) (h0 : -9223372036854775808 ≤ n) (hn : n < 0) : IntKind.u64.wrap (-IntKind.u64.wrap n) = ((n.natAbs : Nat) : Int) := by
  simp [IntKind.wrap, IntKind.signed, IntKind.bits]; omega
theorem u64_abs_pos (n : Int) (h1 : n ≤ 9223372036854775807) (hn : 0 ≤ n) : IntKind.u64.wrap n = ((n.natAbs : Nat) : Int) := by
  simp [IntKind.wrap, IntKind.signed, IntKind.bits]; omega

set_option maxRecDepth 100000
set_option maxHeartbeats 1000000 in
theorem rint_any (n : Int) (w : World) (h0 : -9223372036854775808 ≤ n) (h1 : n ≤ 9223372036854775807) :
    Calls Tryd.prog 24 #[.int .i64 n] w (RetNum w n) := by
  have hm64 : n.natAbs ≤ 9223372036854775808 := by omega
  by_cases hn : n < 0
  all_goals
    first | have hw := u64_abs_neg n h0 hn | have hw := u64_abs_pos n h1 (by omega)
    obtain ⟨m, hm⟩ : ∃ m, m = n.natAbs := ⟨_, rfl⟩
    rw [← hm] at hw hm64
    have HM := Lib.hid hm
    clear hm
    go_enter Tryd.func24, Tryd.ntmps24
    go_wp2_with fail
    go_loopw [3, 4] (fun uv dv wr => ∃ (u : Int) (A' : Option Addr) (c' : Nat) (zs : List Nat), uv = .int .u64 u ∧ 0 ≤ u ∧ u ≤ 9223372036854775808 ∧ dv = .slice A' zs.length c' ∧ Own8 wr (w.heap.size + 1) A' c' zs ∧ zs.length + u.toNat ≤ 17592186044416 + 9223372036854775808 ∧ small 10 zs ∧
        Hid (zs ++ digs 10 u.toNat = digs 10 m) ∧ Below (w.heap.size + 1) (w.alloc (.cells #[.bool false, .slice none 0 0] 33)) wr) (fun uv _ _ => (intOf uv).toNat)
    case atStart => exact ⟨(m : Int), none, 0, [], rfl, by omega, by omega, rfl, Own8.nil _ _, by simp; omega, small_nil, rfl, Below.refl _ _⟩
    case round =>
      obtain ⟨u, A', c', zs, rfl, hu0, hu1, rfl, hown, hzl, hzs, HZ, hbel⟩ := hrel
      have hlen : zs.length ≤ 20 := by
        have h1 : (digs 10 m).length ≤ 20 := (digs_length_le (by decide) m 20).2 (Nat.lt_of_le_of_lt hm64 (by decide))
        have h2 := HZ.out
        rw [← h2, List.length_append] at h1; omega
      have R1 := (Blk.new w 33 #[.bool false, .slice none 0 0]).below hbel (by omega)
      have hsz := hbel.size
      simp only [World.size_alloc] at hsz
      by_cases hu : 0 < u
      · have hd := digs10_step hu
        have hw8 := wrap8 (u % 10) (by omega) (by omega)
        have e1 : u % 10 = (((u % 10).toNat : Nat) : Int) := by omega
        have HC := Lib.hid (cells_one8 wr _ _ e1)
        have H8 : Hid (∀ x ∈ [(u % 10).toNat], x < 256) := by intro x hx'; simp only [List.mem_cons, List.not_mem_nil, or_false] at hx'; omega
        have HN : Hid (zs.length + [(u % 10).toNat].length ≤ 17592186044416) := by show zs.length + 1 ≤ _; omega
        have HD := Lib.hid hd
        clear e1 hd hzl
        go_wp2_with (at_builtin; go_loud (refine wpList_app8 rfl (.tmp 13) (.tmp 17) rfl (w.heap.size + 1) A' c' zs rfl (hown.alloc _) [(u % 10).toNat] ⟨wr.heap.size, 0, none⟩ 1 1 rfl rfl (by exact HC.out) H8.out HN.out (by simp; omega) (fun A2 c2 w2 hown2 hg2 => ?_)))
        go_roundw
        case rel => exact ⟨u / 10, A2, c2, zs ++ [(u % 10).toNat], by go_num, by omega, by omega, by simp, hown2, by simp; omega,
          small_append.2 ⟨hzs, by intro y hy; simp only [List.mem_cons, List.not_mem_nil, or_false] at hy; omega⟩, by show _ = _; rw [List.append_assoc, List.singleton_append, ← HD.out]; exact HZ.out, Below.own8 (hbel.alloc (by simpa using hsz) _) (hown.alloc _) (by simp; omega) hg2⟩
        case measure => simp [intOf]; omega
      · obtain rfl : u = 0 := by omega
        have hz : zs = tens n := by
          have := HZ.out
          rw [show (0 : Int).toNat = 0 from rfl, digs_zero, List.append_nil] at this
          rw [this, tens_eq, HM.out]
        obtain ⟨r0, r1, r2, r3⟩ := R1.two
        subst hz
        clear hzl HZ
        go_wp2_with fail
        refine bodyPost_ret (v := .agg #[.bool (decide (n < 0)), .slice A' (tens n).length c']) (by simp [results, Tryd.results24, go_sem, r0, r1, hn]) rfl ?_
        exact ⟨A', c', rfl, ((hown.setBelow (by show w.heap.size < w.heap.size + 1; omega) _).setBelow (by show w.heap.size < w.heap.size + 1; omega) _).mono (by omega),
          (((Below.refl _ _).alloc (Nat.le_refl _) _).trans (hbel.mono (by omega))).setCell (Nat.le_refl _) _ |>.setCell (Nat.le_refl _) _⟩
end Go.Proofs.YteggjfmcpodepaaDoor
