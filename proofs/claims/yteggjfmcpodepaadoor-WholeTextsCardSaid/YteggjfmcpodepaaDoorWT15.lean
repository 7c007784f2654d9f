/- The walk of whole.Parse: a text as a number. The walk of the law WholeTexts: every Parse and Text. -/
import Derived.Test.YteggjfmcpodepaaDoorWT14
import Derived.Lib.SmallJoins
namespace Go.Proofs.YteggjfmcpodepaaDoor
open Go.RowKit
set_option maxRecDepth 100000
theorem num10_cons (b : UInt8) (r : List UInt8) : num10 (b :: r) = dv b * 10 ^ r.length + num10 r := by
  rw [show b :: r = [b] ++ r from rfl, num10_app]
  congr 2
theorem uintM : ∀ (r : List UInt8) (acc : Nat), r.all isDig = true → acc * 10 ^ r.length + num10 r < B18 → Lib.parseUintM (2 ^ 64 - 1) acc r = .ok (acc * 10 ^ r.length + num10 r)
  | [], acc, _, _ => by rw [Lib.parseUintM]; simp [num10_nil]
  | b :: r, acc, hd, hl => by
    rw [List.all_cons, Bool.and_eq_true] at hd
    have h1 := hd.1
    unfold isDig at h1
    simp at h1
    have e : acc * 10 ^ (b :: r).length + num10 (b :: r) = (acc * 10 + dv b) * 10 ^ r.length + num10 r := by
      rw [num10_cons, List.length_cons, Nat.pow_succ, Nat.add_mul, Nat.mul_assoc, Nat.mul_comm 10, Nat.add_assoc]
    rw [e] at hl ⊢
    have h2 : acc * 10 + dv b ≤ (acc * 10 + dv b) * 10 ^ r.length := Nat.le_mul_of_pos_right _ (Nat.pow_pos (by decide))
    have h3 : acc * 10 + dv b < B18 := by omega
    unfold B18 at h3
    have h4 : dv b = b.toNat - 48 := rfl
    rw [Lib.parseUintM, if_pos h1, if_neg (by omega), if_neg (by rw [← h4]; omega), ← h4]
    exact uintM r _ hd.2 hl
theorem uintB {r : List UInt8} (h0 : r ≠ []) (hd : r.all isDig = true) (hl : num10 r < B18) : Lib.parseUintB 64 r = .ok (num10 r) := by
  rw [Lib.parseUintB, if_neg h0, uintM r 0 hd (by rw [Nat.zero_mul, Nat.zero_add]; exact hl), Nat.zero_mul, Nat.zero_add]
theorem parseU (r : List UInt8) (w : World) (h0 : r ≠ []) (hd : r.all isDig = true) (hl : num10 r < B18) (hs : r.length ≤ 18) :
    Calls Tryd.prog 63 #[.string ⟨r.toArray⟩, .int .i64 10, .int .i64 64] w fun e w' => e = .returned (.tuple #[.int .u64 ((num10 r : Nat) : Int), .nilIface]) ∧ Below w.heap.size w w' :=
  (Tryd.strconv_ParseUint_10_at64_ok ⟨r.toArray⟩ (by rw [ba_size]; omega) (num10 r) (uintB h0 hd hl) w).mono fun _ _ ⟨a, b⟩ =>
    ⟨a, by rcases b with rfl | rfl; exact Below.refl _ _; exact Joins.below_bytesWorld _ _ _ _ (Nat.le_refl _)⟩
theorem strip_cons {b : UInt8} {r : List UInt8} (h : b ≠ 48) : strip (b :: r) = b :: r := by rw [strip, if_neg h]
theorem strip_zero (r : List UInt8) : strip (48 :: r) = strip r := by rw [strip, if_pos rfl]
theorem strip_le (r : List UInt8) : (strip r).length ≤ r.length := by
  obtain ⟨k, _, e, _⟩ := strip_drop r
  rw [e, List.length_drop]; omega
theorem la_get (l : List UInt8) (j : Nat) : (⟨l.toArray⟩ : ByteArray)[j]? = l[j]? := by rw [ba_get]
theorem all_get {p : UInt8 → Bool} {l : List UInt8} {k : Nat} {b : UInt8} (hb : l[k]? = some b) (h : (l.take k).all p = true) (hp : p b = true) : (l.take (k + 1)).all p = true := by
  rw [List.take_add_one, List.all_append, h, hb]
  simpa using hp
theorem not_all {l : List UInt8} {k : Nat} {b : UInt8} (hb : l[k]? = some b) (h : isDig b = false) : l.all isDig = false := by
  rw [Bool.eq_false_iff]
  intro ha
  rw [List.all_eq_true.1 ha b (List.mem_of_getElem? hb)] at h
  cases h
theorem ba_list (l : List UInt8) : (⟨l.toArray⟩ : ByteArray).toList = l := by
  rw [ByteArray.toList_eq]
theorem piece_ne {u : List UInt8} {e : Nat} (h0 : 0 < e) (he : e ≤ u.length) : (u.take e).drop (e - 18) ≠ [] := by
  intro h
  have := congrArg List.length h
  rw [List.length_drop, List.length_take] at this
  simp at this
  omega
theorem piece_all {u : List UInt8} (hs : u.all isDig = true) (e : Nat) : ((u.take e).drop (e - 18)).all isDig = true := by
  rw [List.all_eq_true]; intro x hx
  exact List.all_eq_true.1 hs x (List.mem_of_mem_take (List.mem_of_mem_drop hx))
theorem piece_len (u : List UInt8) (e : Nat) : ((u.take e).drop (e - 18)).length ≤ 18 := by rw [List.length_drop, List.length_take]; omega
section
variable (bs r : List UInt8) (w : World)
theorem parse_neg (hr : r ≠ []) (hbs : bs = 45 :: r) (hs : bs.length ≤ 140737488355328) : Calls Tryd.prog 45 #[.string ⟨bs.toArray⟩] w (RetBigErr w (textV true r) (textE r)) := by
  have hat0 : (⟨bs.toArray⟩ : ByteArray)[0]? = some 45 := by rw [la_get, hbs]; rfl
  have hbl : bs.length = r.length + 1 := by rw [hbs]; rfl
  have hpos : (0 : Int) < ((⟨bs.toArray⟩ : ByteArray).size : Int) := by rw [ba_size]; omega
  refine calls_cw Tryd.func45 rfl Tryd.ntmps45 rfl ?_
  have HF : Per No w (fun _ => True) := Per.true_
  have LW := Ext.refl (No) w
  have XLW : ∀ q9, (No) q9 → (No) q9 ∨ w.heap.size ≤ q9 := fun _ h => Or.inl h
  have E := Ext.refl No w
  refine cw_seq ?_
  refine cw_region ?_
  refine rs_op rfl (ow_allocB zr24 ?_)
  intro gb1 w2 Bb1 Eb1 Gb1
  have Gb1 : _ ≤ gb1 := Nat.le_trans E.size Gb1
  have GLb1 := Nat.le_trans LW.size Gb1
  replace E := E.trans Eb1.no
  clear Eb1
  replace HF := HF.cons (some_ge Gb1)
  replace E := E.cons (some gb1)
  replace XLW := Mut.grow XLW (fun k e => Or.inr (Nat.le_trans LW.size ((some_ge Gb1) k e)))
  refine rs_op rfl (ow_assign rfl ?_)
  refine rs_nil ?_
  refine ew_next ?_
  refine cw_seq ?_
  refine cw_region ?_
  refine rs_op rfl (ow_move rfl ?_)
  refine rs_op rfl (ow_lenS Tryd.underlying9 rfl ?_)
  refine rs_op rfl (ow_gtr rfl rfl ?_)
  refine rs_op rfl (ow_move rfl ?_)
  refine rs_set 13 (.bool true) rfl (by rw [decide_eq_true hpos]) ?_
  refine rs_op rfl (ow_on rfl (ow_move rfl ?_))
  refine rs_op rfl (ow_on rfl (ow_indexS (j := 0) Tryd.underlying9 rfl rfl rfl hat0 ?_))
  refine rs_op rfl (ow_on rfl (ow_eql rfl rfl ?_))
  refine rs_op rfl (ow_pickT rfl rfl ?_)
  refine rs_op rfl (ow_assign rfl ?_)
  refine rs_nil ?_
  refine ew_next ?_
  refine cw_seq ?_
  refine cw_seq ?_
  refine cw_region ?_
  refine rs_op rfl (ow_move rfl ?_)
  refine rs_nil ?_
  refine ew_next ?_
  refine cw_then rfl ?_
  refine cw_region ?_
  refine rs_op rfl (ow_move rfl ?_)
  refine rs_op rfl (ow_sliceS (l := 1) (h := bs.length) Tryd.underlying9 rfl ⟨_, rfl⟩ (ba_size bs).symm (by omega) (by rw [ba_size]; omega) ?_)
  refine rs_set 20 (.string ⟨r.toArray⟩) rfl ((by rw [ba_cut, List.take_length, hbs]; rfl : (.string ((⟨bs.toArray⟩ : ByteArray).extract 1 bs.length) : Value) = _)) ?_
  refine rs_op rfl (ow_assign rfl ?_)
  refine rs_nil ?_
  refine ew_next ?_
  refine cw_seq ?_
  refine cw_seq ?_
  refine cw_region ?_
  refine rs_op rfl (ow_move rfl ?_)
  refine rs_op rfl (ow_eqlS rfl rfl ?_)
  refine rs_nil ?_
  refine ew_next ?_
  refine cw_set 4 (.bool true) rfl ((by rfl : (.bool true : Value) = _)) ?_
  have hne0 : (⟨r.toArray⟩ : ByteArray).toList ≠ (⟨#[]⟩ : ByteArray).toList := by rw [ba_list, show (⟨#[]⟩ : ByteArray).toList = [] from ba_list []]; exact hr
  refine cw_set 22 (.bool false) rfl (by rw [beq_eq_false_iff_ne.2 hne0]) ?_
  refine cw_else rfl ?_
  refine cw_skip ?_
  refine ew_next ?_
  refine cw_seq ?_
  refine cw_seq ?_
  refine cw_region ?_
  refine rs_op rfl (ow_move rfl ?_)
  refine rs_op rfl (ow_lenS Tryd.underlying9 rfl ?_)
  refine rs_op rfl (ow_move rfl ?_)
  refine rs_nil ?_
  refine ew_next ?_
  refine cw_block ?_
  refine cw_set 25 (.int .i64 ((r.length : Nat) : Int)) rfl (by rw [ba_size]) ?_
  refine cw_set 26 (.int .i64 ((0 : Nat) : Int)) rfl ((by rfl : (.int .i64 0 : Value) = _)) ?_
  replace HF := HF.on E
  replace LW := LW.step E XLW
  replace E := Ext.refl (Mut [(some gb1)]) w2
  refine cw_loop (ι := Nat) (fun k => [(0, .string ⟨r.toArray⟩), (2, .pointer (some ⟨gb1, 0, none⟩)), (3, .int .i64 0), (4, .bool true), (25, .int .i64 ((r.length : Nat) : Int)), (26, .int .i64 (k : Int))]) (fun k w' => Ext (Mut [(some gb1)]) w2 w' ∧ Blk w' gb1 24 (#[.bool false, .slice none 0 0]) ∧ (k ≤ r.length ∧ (r.take k).all isDig = true)) (fun k => r.length - k) 0 ⟨rfl, rfl, rfl, rfl, rfl, rfl, trivial⟩ ⟨Ext.refl _ _, (by exact Bb1), ⟨Nat.zero_le _, rfl⟩⟩ ?_
  have LTb1 := (some_lt Bb1.lt)
  clear Bb1
  rintro k w4 ⟨M3, Bb1, ⟨hk, hall⟩⟩
  have XM3 : ∀ q9, (Mut [(some gb1)]) q9 → (Mut [(some gb1)]) q9 ∨ w2.heap.size ≤ q9 := (Mut.grow Mut.none_ (fun k e => Or.inl (Mut.head k e)))
  replace E := E.trans M3
  replace HF := HF.on E
  replace LW := LW.step E XLW
  replace E := Ext.refl (Mut [(some gb1)]) w4
  clear LTb1
  refine cw_seq ?_
  refine cw_region ?_
  refine rs_op rfl (ow_lss rfl rfl ?_)
  refine rs_nil ?_
  refine ew_next ?_
  refine cw_seq ?_
  refine cw_cond rfl (fun q => ?_) (fun q => ?_)
  · have _way := True.intro
    have q := of_decide_eq_true q
    have hk1 : k < r.length := by omega
    obtain ⟨b, hb9⟩ : ∃ b, r[k]? = some b := ⟨_, List.getElem?_eq_getElem hk1⟩
    have hat : (⟨r.toArray⟩ : ByteArray)[k]? = some b := by rw [la_get]; exact hb9
    refine cw_skip ?_
    refine ew_next ?_
    refine cw_seq ?_
    refine cw_block ?_
    refine cw_seq ?_
    refine cw_region ?_
    refine rs_op rfl (ow_move rfl ?_)
    refine rs_op rfl (ow_assign rfl ?_)
    refine rs_nil ?_
    refine ew_next ?_
    refine cw_seq ?_
    refine cw_region ?_
    refine rs_op rfl (ow_move rfl ?_)
    refine rs_op rfl (ow_move rfl ?_)
    refine rs_op rfl (ow_indexS (j := k) Tryd.underlying9 rfl rfl rfl hat ?_)
    refine rs_op rfl (ow_lss rfl rfl ?_)
    refine rs_op rfl (ow_move rfl ?_)
    refine rs_split 33 rfl (fun h => ?_) (fun h => ?_)
    · have _way := True.intro
      have h := of_decide_eq_true h
      obtain ⟨e1, e2⟩ := text_bad (neg := true) (not_all hb9 (by unfold isDig; simp; omega))
      refine rs_op rfl (ow_off rfl ?_)
      refine rs_op rfl (ow_off rfl ?_)
      refine rs_op rfl (ow_off rfl ?_)
      refine rs_op rfl (ow_off rfl ?_)
      refine rs_op rfl (ow_pickT rfl rfl ?_)
      refine rs_nil ?_
      refine ew_next ?_
      refine cw_then rfl ?_
      refine cw_seq ?_
      refine cw_region ?_
      refine rs_op rfl (ow_build (cs := #[.bool false, .slice none 0 0]) pl24 zr24 rfl rfl ?_)
      refine rs_op0 (ow_storeM sz24 rfl rfl Bb1 rfl rfl (Nat.le_of_ble_eq_true rfl) ?_)
      intro w5 Bx Eb1
      replace Bb1 := Bx
      clear Bx
      replace E := E.step1 Eb1 Mut.head
      clear Eb1
      refine rs_op rfl (ow_assign rfl ?_)
      refine rs_nil ?_
      refine ew_next ?_
      refine cw_ret ?_
      refine ew_block_ret ?_
      refine ew_then_ret ?_
      refine ew_then_ret ?_
      refine ew_block_ret ?_
      refine ew_then_ret ?_
      refine ew_ret (rs := [.cell 2 24, .tmp 3]) (vs := [_, _]) rfl ⟨⟨_, rfl, res_box Tryd.underlying24 rfl sz24 Bb1 rfl⟩, rfl, trivial⟩ ?_
      exact by rw [e1, e2]; exact retErr_zero (LW.step E XLW).toBelow
    · have _way := True.intro
      have h := of_decide_eq_false h
      refine rs_op rfl (ow_on rfl (ow_move rfl ?_))
      refine rs_op rfl (ow_on rfl (ow_move rfl ?_))
      refine rs_op rfl (ow_on rfl (ow_indexS (j := k) Tryd.underlying9 rfl rfl rfl hat ?_))
      refine rs_op rfl (ow_on rfl (ow_gtr rfl rfl ?_))
      refine rs_op rfl (ow_pickF rfl rfl ?_)
      refine rs_nil ?_
      refine ew_next ?_
      refine cw_cond rfl (fun h2 => ?_) (fun h2 => ?_)
      · have _way := True.intro
        have h2 := of_decide_eq_true h2
        obtain ⟨e1, e2⟩ := text_bad (neg := true) (not_all hb9 (by unfold isDig; simp; omega))
        refine cw_seq ?_
        refine cw_region ?_
        refine rs_op rfl (ow_build (cs := #[.bool false, .slice none 0 0]) pl24 zr24 rfl rfl ?_)
        refine rs_op0 (ow_storeM sz24 rfl rfl Bb1 rfl rfl (Nat.le_of_ble_eq_true rfl) ?_)
        intro w6 Bx Eb1
        replace Bb1 := Bx
        clear Bx
        replace E := E.step1 Eb1 Mut.head
        clear Eb1
        refine rs_op rfl (ow_assign rfl ?_)
        refine rs_nil ?_
        refine ew_next ?_
        refine cw_ret ?_
        refine ew_block_ret ?_
        refine ew_then_ret ?_
        refine ew_then_ret ?_
        refine ew_block_ret ?_
        refine ew_then_ret ?_
        refine ew_ret (rs := [.cell 2 24, .tmp 3]) (vs := [_, _]) rfl ⟨⟨_, rfl, res_box Tryd.underlying24 rfl sz24 Bb1 rfl⟩, rfl, trivial⟩ ?_
        exact by rw [e1, e2]; exact retErr_zero (LW.step E XLW).toBelow
      · have _way := True.intro
        have h2 := of_decide_eq_false h2
        have hdig : isDig b = true := dig_of (by omega) (by omega)
        refine cw_skip ?_
        refine ew_block_normal ?_
        refine ew_next ?_
        refine cw_region ?_
        refine rs_op rfl (ow_add rfl rfl (wrap_i64 (by omega)) ?_)
        refine rs_op rfl (ow_move rfl ?_)
        refine rs_nil ?_
        refine ew_set 26 (.int .i64 ((k + 1 : Nat) : Int)) rfl ((by rfl : (.int .i64 ((k : Int) + 1) : Value) = _)) ?_
        exact ew_round (ι := Nat) (s := fun k => [(0, .string ⟨r.toArray⟩), (2, .pointer (some ⟨gb1, 0, none⟩)), (3, .int .i64 0), (4, .bool true), (25, .int .i64 ((r.length : Nat) : Int)), (26, .int .i64 (k : Int))]) (R := fun k w' => Ext (Mut [(some gb1)]) w2 w' ∧ Blk w' gb1 24 (#[.bool false, .slice none 0 0]) ∧ (k ≤ r.length ∧ (r.take k).all isDig = true)) (m := fun k => r.length - k) (i := k) (k + 1) (by show r.length - (k + 1) < r.length - k; omega) ⟨rfl, rfl, rfl, rfl, rfl, rfl, trivial⟩ ⟨M3.step E XM3, (by exact Bb1), by omega, all_get hb9 hall hdig⟩
  · have _way := True.intro
    have q := of_decide_eq_false q
    obtain rfl : k = r.length := by omega
    rw [List.take_length] at hall
    refine cw_exit ?_
    refine ew_then_exit ?_
    refine ew_then_exit ?_
    refine ew_block_here ?_
    refine ew_next ?_
    refine cw_seq ?_
    refine cw_block ?_
    replace HF := HF.on E
    replace LW := LW.step E XLW
    replace M3 := M3.step E XM3
    replace E := Ext.refl (Mut [(some gb1)]) w4
    refine cw_loop (ι := List UInt8) (fun u => [(0, .string ⟨u.toArray⟩), (2, .pointer (some ⟨gb1, 0, none⟩)), (3, .int .i64 0), (4, .bool true)]) (fun u w' => Ext (Mut [(some gb1)]) w4 w' ∧ Blk w' gb1 24 (#[.bool false, .slice none 0 0]) ∧ (strip u = strip r ∧ u.length ≤ r.length)) (fun u => u.length) r ⟨rfl, rfl, rfl, rfl, trivial⟩ ⟨Ext.refl _ _, (by exact Bb1), ⟨rfl, Nat.le_refl _⟩⟩ ?_
    have LTb1 := (some_lt Bb1.lt)
    clear Bb1
    rintro u w8 ⟨M7, Bb1, ⟨hu1, hu2⟩⟩
    have XM7 : ∀ q9, (Mut [(some gb1)]) q9 → (Mut [(some gb1)]) q9 ∨ w4.heap.size ≤ q9 := (Mut.grow Mut.none_ (fun k e => Or.inl (Mut.head k e)))
    replace E := E.trans M7
    replace HF := HF.on E
    replace LW := LW.step E XLW
    replace M3 := M3.step E XM3
    replace E := Ext.refl (Mut [(some gb1)]) w8
    clear LTb1
    refine cw_seq ?_
    refine cw_seq ?_
    refine cw_region ?_
    refine rs_op rfl (ow_move rfl ?_)
    refine rs_op rfl (ow_lenS Tryd.underlying9 rfl ?_)
    refine rs_op rfl (ow_gtr rfl rfl ?_)
    refine rs_op rfl (ow_move rfl ?_)
    refine rs_set 44 (.bool (decide ((0 : Int) < ((u.length : Nat) : Int)))) rfl (by rw [ba_size]) ?_
    refine rs_split 44 rfl (fun h => ?_) (fun h => ?_)
    · have _way := True.intro
      have h := of_decide_eq_true h
      obtain ⟨b, u2, hbu⟩ : ∃ b u2, u = b :: u2 := by cases u with | nil => simp at h | cons b u2 => exact ⟨b, u2, rfl⟩
      have hat : (⟨u.toArray⟩ : ByteArray)[0]? = some b := by rw [la_get, hbu]; rfl
      refine rs_op rfl (ow_on rfl (ow_move rfl ?_))
      refine rs_op rfl (ow_on rfl (ow_indexS (j := 0) Tryd.underlying9 rfl rfl rfl hat ?_))
      refine rs_op rfl (ow_on rfl (ow_eql rfl rfl ?_))
      refine rs_op rfl (ow_pickT rfl rfl ?_)
      refine rs_nil ?_
      refine ew_next ?_
      refine cw_cond rfl (fun h2 => ?_) (fun h2 => ?_)
      · have _way := True.intro
        have h2 : b = 48 := UInt8.toNat_inj.1 (by have h7 := of_decide_eq_true h2; have h8 : (48 : UInt8).toNat = 48 := rfl; omega)
        have hul : u.length = u2.length + 1 := by rw [hbu]; rfl
        refine cw_skip ?_
        refine ew_next ?_
        refine cw_block ?_
        refine cw_region ?_
        refine rs_op rfl (ow_move rfl ?_)
        refine rs_op rfl (ow_sliceS (l := 1) (h := u.length) Tryd.underlying9 rfl ⟨_, rfl⟩ (ba_size u).symm (by omega) (by rw [ba_size]; omega) ?_)
        refine rs_set 50 (.string ⟨u2.toArray⟩) rfl ((by rw [ba_cut, List.take_length, hbu]; rfl : (.string ((⟨u.toArray⟩ : ByteArray).extract 1 u.length) : Value) = _)) ?_
        refine rs_op rfl (ow_assign rfl ?_)
        refine rs_nil ?_
        refine ew_block_normal ?_
        exact ew_round (ι := List UInt8) (s := fun u => [(0, .string ⟨u.toArray⟩), (2, .pointer (some ⟨gb1, 0, none⟩)), (3, .int .i64 0), (4, .bool true)]) (R := fun u w' => Ext (Mut [(some gb1)]) w4 w' ∧ Blk w' gb1 24 (#[.bool false, .slice none 0 0]) ∧ (strip u = strip r ∧ u.length ≤ r.length)) (m := fun u => u.length) (i := u) u2 (by show u2.length < u.length; omega) ⟨rfl, rfl, rfl, rfl, trivial⟩ ⟨M7.step E XM7, (by exact Bb1), by rw [← hu1, hbu, h2, strip_zero], by omega⟩
      · have _way := True.intro
        have h2 : b ≠ 48 := fun e => by rw [e] at h2; exact absurd h2 (by decide)
        refine cw_exit ?_
        refine ew_then_exit ?_
        refine ew_then_exit ?_
        refine ew_block_here ?_
        refine ew_next ?_
        refine cw_seq ?_
        refine cw_seq ?_
        refine cw_region ?_
        refine rs_op rfl (ow_move rfl ?_)
        refine rs_op rfl (ow_lenS Tryd.underlying9 rfl ?_)
        refine rs_op rfl (ow_gtr rfl rfl ?_)
        refine rs_nil ?_
        refine ew_next ?_
        have hstr : strip r = u := by rw [← hu1]; exact by rw [hbu, strip_cons h2]
        have hal9 := strip_all hall
        rw [hstr] at hal9
        have hln9 := strip_len hall
        rw [hstr] at hln9
        have hnum : num10 u = num10 r := by rw [← hstr, strip_num]
        refine cw_set 53 (.bool (decide ((540 : Int) < ((u.length : Nat) : Int)))) rfl (by rw [ba_size]) ?_
        refine cw_cond rfl (fun h3 => ?_) (fun h3 => ?_)
        · have _way := True.intro
          have h3 := of_decide_eq_true h3
          have e1 : textE r = 2 := by unfold textE; rw [if_pos ⟨hr, hall⟩, if_neg (by omega)]
          have e2 : textV true r = 0 := by unfold textV; rw [if_neg (by rintro ⟨_, _, h⟩; omega)]
          refine cw_seq ?_
          refine cw_region ?_
          refine rs_op rfl (ow_build (cs := #[.bool false, .slice none 0 0]) pl24 zr24 rfl rfl ?_)
          refine rs_op0 (ow_storeM sz24 rfl rfl Bb1 rfl rfl (Nat.le_of_ble_eq_true rfl) ?_)
          intro w9 Bx Eb1
          replace Bb1 := Bx
          clear Bx
          replace E := E.step1 Eb1 Mut.head
          clear Eb1
          refine rs_op rfl (ow_assign rfl ?_)
          refine rs_nil ?_
          refine ew_next ?_
          refine cw_ret ?_
          refine ew_then_ret ?_
          refine ew_ret (rs := [.cell 2 24, .tmp 3]) (vs := [_, _]) rfl ⟨⟨_, rfl, res_box Tryd.underlying24 rfl sz24 Bb1 rfl⟩, rfl, trivial⟩ ?_
          exact by rw [e1, e2]; exact retErr_zero (LW.step E XLW).toBelow
        · have _way := True.intro
          have h3 := of_decide_eq_false h3
          have e1 : textE r = 0 := by unfold textE; rw [if_pos ⟨hr, hall⟩, if_pos (by omega)]
          have e2 : textV true r = sgn true (num10 r) := by unfold textV; rw [if_pos ⟨hr, hall, by omega⟩]
          refine cw_skip ?_
          refine ew_next ?_
          refine cw_seq ?_
          refine cw_region ?_
          refine rs_op rfl (ow_assign rfl ?_)
          refine rs_nil ?_
          refine ew_next ?_
          refine cw_seq ?_
          refine cw_seq ?_
          refine cw_region ?_
          refine rs_op rfl (ow_move rfl ?_)
          refine rs_op rfl (ow_lenS Tryd.underlying9 rfl ?_)
          refine rs_op rfl (ow_assign rfl ?_)
          refine rs_nil ?_
          refine ew_next ?_
          refine cw_block ?_
          have Ol : World.ownsRow w8 w.heap.size 63 1 (.slice none 0 0) 0 ([]) := owns_nil
          have Dl_b1 : Apart ((Value.slice none 0 0).ownBlock) (some gb1) := fun _ e => by cases e
          have Db1_l := Dl_b1.symm
          replace HF := HF.cons (nil_no)
          replace E := E.cons ((Value.slice none 0 0).ownBlock)
          replace XLW := Mut.grow XLW (fun k e => Or.inr (Nat.le_trans LW.size ((nil_no) k e)))
          replace XM3 := Mut.grow XM3 (fun k e => Or.inr (Nat.le_trans M3.size ((nil_no) k e)))
          replace XM7 := Mut.grow XM7 (fun k e => Or.inr (Nat.le_trans M7.size ((nil_no) k e)))
          refine cw_set 7 (.int .i64 ((u.length : Int) - 18 * ((0 : Nat) : Int))) rfl (by rw [ba_size]; simp) ?_
          replace HF := HF.on E
          replace LW := LW.step E XLW
          replace M3 := M3.step E XM3
          replace M7 := M7.step E XM7
          replace E := Ext.refl (Mut [((Value.slice none 0 0).ownBlock), (some gb1)]) w8
          refine cw_loop (ι := Nat × List Nat × Option Addr × Nat) (fun (k, xs, A1, c1) => [(0, .string ⟨u.toArray⟩), (2, .pointer (some ⟨gb1, 0, none⟩)), (3, .int .i64 0), (4, .bool true), (6, .slice A1 k c1), (7, .int .i64 ((u.length : Int) - 18 * (k : Int)))]) (fun (k, xs, A1, c1) w' => Ext (Mut [((Value.slice none 0 0).ownBlock), (some gb1)]) w8 w' ∧ World.ownsRow w' w.heap.size 63 1 (.slice A1 k c1) k (xs.map fun x : Nat => Value.int .u64 (x : Int)) ∧ Blk w' gb1 24 (#[.bool false, .slice none 0 0]) ∧ (∀ q9, ((Value.slice A1 k c1).ownBlock) = some q9 → ((Value.slice none 0 0).ownBlock) = some q9 ∨ w8.heap.size ≤ q9) ∧ (xs.length = k ∧ small B18 xs ∧ val B18 xs = num10 (u.drop (u.length - 18 * k)) ∧ 18 * k ≤ u.length + 17)) (fun (k, xs, A1, c1) => u.length + 18 - 18 * k) (0, [], none, 0) ⟨rfl, rfl, rfl, rfl, rfl, rfl, trivial⟩ ⟨Ext.refl _ _, (by exact Ol), (by exact Bb1), (fun _ e => Or.inl e), ⟨rfl, small_nil, by rw [Nat.mul_zero, Nat.sub_zero, List.drop_length]; rfl, by omega⟩⟩ ?_
          have LTl := (owns_lt Ol)
          have LTb1 := (some_lt Bb1.lt)
          clear Ol
          clear Bb1
          rintro ⟨k, xs, A1, c1⟩ w11 ⟨M10, Ol, Bb1, KlM10, ⟨hk, hsm, hval, hkl⟩⟩
          replace Dl_b1 : Apart ((Value.slice A1 k c1).ownBlock) (some gb1) := Dl_b1.turn KlM10 LTb1
          replace Db1_l := Dl_b1.symm
          have XM10 : ∀ q9, (Mut [((Value.slice A1 k c1).ownBlock), (some gb1)]) q9 → (Mut [((Value.slice none 0 0).ownBlock), (some gb1)]) q9 ∨ w8.heap.size ≤ q9 := (Mut.grow (Mut.grow Mut.none_ (fun k e => Or.inl ((Mut.tail Mut.head) k e))) (fun k e => (KlM10 k e).elim (fun e => Or.inl (Mut.head k e)) Or.inr))
          replace E := E.trans M10
          replace HF := HF.turn E XM10
          have XT := fun q9 (h : (Mut [((Value.slice A1 k c1).ownBlock), (some gb1)]) q9) => (XM10 q9 h).elim (XLW q9) (fun h => Or.inr (Nat.le_trans LW.size h))
          replace LW := LW.step E XLW
          replace XLW := XT
          clear XT
          have XT := fun q9 (h : (Mut [((Value.slice A1 k c1).ownBlock), (some gb1)]) q9) => (XM10 q9 h).elim (XM3 q9) (fun h => Or.inr (Nat.le_trans M3.size h))
          replace M3 := M3.step E XM3
          replace XM3 := XT
          clear XT
          have XT := fun q9 (h : (Mut [((Value.slice A1 k c1).ownBlock), (some gb1)]) q9) => (XM10 q9 h).elim (XM7 q9) (fun h => Or.inr (Nat.le_trans M7.size h))
          replace M7 := M7.step E XM7
          replace XM7 := XT
          clear XT
          replace E := Ext.refl (Mut [((Value.slice A1 k c1).ownBlock), (some gb1)]) w11
          clear LTl
          clear LTb1
          refine cw_seq ?_
          refine cw_seq ?_
          refine cw_region ?_
          refine rs_op rfl (ow_move rfl ?_)
          refine rs_op rfl (ow_gtr rfl rfl ?_)
          refine rs_nil ?_
          refine ew_next ?_
          refine cw_cond rfl (fun q => ?_) (fun q => ?_)
          · have _way := True.intro
            have q := of_decide_eq_true q
            obtain ⟨e, he⟩ : ∃ e : Nat, e = u.length - 18 * k := ⟨_, rfl⟩
            have he0 : 0 < e := by omega
            have hel : e ≤ u.length := by omega
            refine cw_skip ?_
            refine ew_next ?_
            refine cw_seq ?_
            refine cw_block ?_
            refine cw_seq ?_
            refine cw_region ?_
            refine rs_op rfl (ow_move rfl ?_)
            refine rs_op rfl (ow_move rfl ?_)
            refine rs_op rfl (ow_sub rfl rfl (wrap_i64 (by omega)) ?_)
            refine rs_op rfl (ow_max rfl rfl ?_)
            refine rs_set 65 (.int .i64 ((e - 18 : Nat) : Int)) rfl ((by congr 1; split <;> omega : (.int .i64 (if (u.length : Int) - 18 * (k : Int) - 18 > 0 then (u.length : Int) - 18 * (k : Int) - 18 else 0) : Value) = _)) ?_
            refine rs_op rfl (ow_move rfl ?_)
            refine rs_set 66 (.int .i64 ((e : Nat) : Int)) rfl ((by rw [show (u.length : Int) - 18 * (k : Int) = ((e : Nat) : Int) by omega] : (.int .i64 ((u.length : Int) - 18 * (k : Int)) : Value) = _)) ?_
            refine rs_op rfl (ow_sliceS (l := e - 18) (h := e) Tryd.underlying9 rfl ⟨_, rfl⟩ ⟨_, rfl⟩ (Nat.sub_le _ _) (by rw [ba_size]; exact hel) ?_)
            refine rs_set 67 (.string ⟨((u.take e).drop (e - 18)).toArray⟩) rfl ((by rw [ba_cut] : (.string ((⟨u.toArray⟩ : ByteArray).extract (e - 18) e) : Value) = _)) ?_
            refine rs_op rfl (ow_enter en63 rfl ((parseU _ _ (piece_ne he0 hel) (piece_all hal9 e) (chunk_small hal9 e) (piece_len u e)).mono ?_))
            rintro e w12 ⟨rfl, hb⟩
            refine ⟨_, rfl, ?_⟩
            have XC : ∀ q9, (Mut [((Value.slice A1 k c1).ownBlock), (some gb1)]) q9 → q9 < w11.heap.size := (Mut.grow (Mut.grow Mut.none_ (some_lt Bb1.lt)) (owns_lt Ol))
            have SC := Nat.le_trans LW.size E.size
            have SE := E.size
            have Ec := Ext.of_below hb No
            replace Ol := owns_extN Ol Ec NotIn.nil
            replace Bb1 := Bb1.extN Ec NotIn.nil
            replace E := E.trans Ec.no
            clear hb Ec
            refine rs_op rfl (ow_move rfl ?_)
            refine rs_op rfl (ow_extract rfl rfl ?_)
            refine rs_op rfl (ow_extract rfl rfl ?_)
            refine rs_op rfl (ow_assign rfl ?_)
            refine rs_op rfl (ow_assign rfl ?_)
            refine rs_nil ?_
            refine ew_next ?_
            refine cw_region ?_
            refine rs_op rfl (ow_move rfl ?_)
            refine rs_op rfl (ow_move rfl ?_)
            refine rs_op rfl (ow_buildSlice (cs := #[.int .u64 ((num10 ((u.take e).drop (e - 18)) : Nat) : Int)]) Tryd.underlying22 sz63 zr63 (by decide) rfl (by rw [map_range_]; rfl) ?_)
            intro gb13 w14 Bb13 Eb13 Gb13
            have Db13_l : Apart (some gb13) ((Value.slice A1 k c1).ownBlock) := Apart.of_lt (owns_lt Ol) Gb13
            have Dl_b13 := Db13_l.symm
            have Db13_b1 : Apart (some gb13) (some gb1) := Apart.of_lt (some_lt Bb1.lt) Gb13
            have Db1_b13 := Db13_b1.symm
            have Gb13 : _ ≤ gb13 := Nat.le_trans E.size Gb13
            have GLb13 := Nat.le_trans LW.size Gb13
            replace Ol := owns_extN Ol Eb13 NotIn.nil
            replace Bb1 := Bb1.extN Eb13 NotIn.nil
            replace E := E.trans Eb13.no
            clear Eb13
            replace HF := HF.cons (some_ge Gb13)
            replace E := E.cons (some gb13)
            replace XLW := Mut.grow XLW (fun k e => Or.inr (Nat.le_trans LW.size ((some_ge Gb13) k e)))
            replace XM3 := Mut.grow XM3 (fun k e => Or.inr (Nat.le_trans M3.size ((some_ge Gb13) k e)))
            replace XM7 := Mut.grow XM7 (fun k e => Or.inr (Nat.le_trans M7.size ((some_ge Gb13) k e)))
            replace XM10 := Mut.grow XM10 (fun k e => Or.inr (Nat.le_trans M10.size ((some_ge Gb13) k e)))
            replace HF := HF.on E
            replace LW := LW.step E XLW
            replace M3 := M3.step E XM3
            replace M7 := M7.step E XM7
            replace M10 := M10.step E XM10
            have SB : ∀ q9, Mut [((Value.slice A1 k c1).ownBlock), (some gb1)] q9 → Mut [(some gb13), ((Value.slice A1 k c1).ownBlock), (some gb1)] q9 := (Mut.skip (Mut.keep (Mut.keep Mut.nil_)))
            replace HF := HF.less SB
            replace XLW := fun k h => XLW k (SB k h)
            replace XM3 := fun k h => XM3 k (SB k h)
            replace XM7 := fun k h => XM7 k (SB k h)
            replace XM10 := fun k h => XM10 k (SB k h)
            clear SB
            replace E := Ext.refl (Mut [((Value.slice A1 k c1).ownBlock), (some gb1)]) w14
            replace HF := HF.and (Per.blkN Bb13 (NotIn.cons Db13_l (NotIn.cons Db13_b1 NotIn.nil)))
            clear Bb13
            refine rs_op rfl (ow_append (news := [.int .u64 ((num10 ((u.take e).drop (e - 18)) : Nat) : Int)]) Tryd.underlying22 inf63 rfl (by decide) rfl Ol rfl (reads_row (HF.on E).here.2 ((HF.on E).here.2).lt rfl) (by simp [Value.oneCell']) (by unfold maxLen; omega) (by omega) (by exact Nat.le_trans LW.size E.size) ?_)
            intro v0 w15 On En KN
            obtain ⟨A2, c2, rfl⟩ := owns_shape On
            replace KN : ∀ q9, ((Value.slice A2 (k + 1) c2).ownBlock) = some q9 → ((Value.slice A1 k c1).ownBlock) = some q9 ∨ w14.heap.size ≤ q9 := KN
            have LTb1 := (some_lt Bb1.lt)
            replace Bb1 := Bb1.extN En (NotIn.cons Db1_l NotIn.nil)
            replace Dl_b1 : Apart ((Value.slice A2 (k + 1) c2).ownBlock) (some gb1) := Dl_b1.turn KN LTb1
            replace Db1_l := Dl_b1.symm
            clear LTb1
            have HY : ∀ q9, (Mut [((Value.slice A2 (k + 1) c2).ownBlock), (some gb1)]) q9 → (Mut [((Value.slice A1 k c1).ownBlock), (some gb1)]) q9 ∨ w14.heap.size ≤ q9 := (Mut.grow (Mut.grow Mut.none_ (fun k e => Or.inl ((Mut.tail Mut.head) k e))) (fun k e => (KN k e).elim (fun e => Or.inl (Mut.head k e)) (fun h => Or.inr (Nat.le_trans E.size h))))
            replace KlM10 : ∀ q9, ((Value.slice A2 (k + 1) c2).ownBlock) = some q9 → ((Value.slice none 0 0).ownBlock) = some q9 ∨ w8.heap.size ≤ q9 := fun k e => (KN k e).elim (KlM10 k) (fun h => Or.inr (Nat.le_trans M10.size (Nat.le_trans E.size h)))
            replace E := E.step1 En Mut.head
            replace HF := HF.turn E HY
            have XT := fun q9 (h : (Mut [((Value.slice A2 (k + 1) c2).ownBlock), (some gb1)]) q9) => (HY q9 h).elim (XLW q9) (fun h => Or.inr (Nat.le_trans LW.size h))
            replace LW := LW.step E XLW
            replace XLW := XT
            clear XT
            have XT := fun q9 (h : (Mut [((Value.slice A2 (k + 1) c2).ownBlock), (some gb1)]) q9) => (HY q9 h).elim (XM3 q9) (fun h => Or.inr (Nat.le_trans M3.size h))
            replace M3 := M3.step E XM3
            replace XM3 := XT
            clear XT
            have XT := fun q9 (h : (Mut [((Value.slice A2 (k + 1) c2).ownBlock), (some gb1)]) q9) => (HY q9 h).elim (XM7 q9) (fun h => Or.inr (Nat.le_trans M7.size h))
            replace M7 := M7.step E XM7
            replace XM7 := XT
            clear XT
            have XT := fun q9 (h : (Mut [((Value.slice A2 (k + 1) c2).ownBlock), (some gb1)]) q9) => (HY q9 h).elim (XM10 q9) (fun h => Or.inr (Nat.le_trans M10.size h))
            replace M10 := M10.step E XM10
            replace XM10 := XT
            clear XT
            replace E := Ext.refl (Mut [((Value.slice A2 (k + 1) c2).ownBlock), (some gb1)]) w15
            clear HY
            replace Ol : World.ownsRow w15 w.heap.size 63 1 (.slice A2 (k + 1) c2) (k + 1) ((xs ++ [num10 ((u.take e).drop (e - 18))]).map fun x : Nat => Value.int .u64 (x : Int)) := by
              have e : ((xs.map fun x : Nat => Value.int .u64 (x : Int)) : List Value) ++ ([.int .u64 ((num10 ((u.take e).drop (e - 18)) : Nat) : Int)] : List Value) = (xs ++ [num10 ((u.take e).drop (e - 18))]).map fun x : Nat => Value.int .u64 (x : Int) := by simp
              rw [← e]
              exact On
            clear On KN En
            refine rs_op rfl (ow_assign rfl ?_)
            refine rs_nil ?_
            refine ew_block_normal ?_
            refine ew_next ?_
            refine cw_region ?_
            refine rs_op rfl (ow_move rfl ?_)
            refine rs_op rfl (ow_sub rfl rfl (wrap_i64 (by omega)) ?_)
            refine rs_op rfl (ow_assign rfl ?_)
            refine rs_nil ?_
            refine ew_set 7 (.int .i64 ((u.length : Int) - 18 * ((k + 1 : Nat) : Int))) rfl ((by rw [show (u.length : Int) - 18 * (k : Int) - 18 = (u.length : Int) - 18 * ((k + 1 : Nat) : Int) by omega] : (.int .i64 (((u.length : Int) - 18 * (k : Int)) - 18) : Value) = _)) ?_
            exact ew_round (ι := Nat × List Nat × Option Addr × Nat) (s := fun (k, xs, A1, c1) => [(0, .string ⟨u.toArray⟩), (2, .pointer (some ⟨gb1, 0, none⟩)), (3, .int .i64 0), (4, .bool true), (6, .slice A1 k c1), (7, .int .i64 ((u.length : Int) - 18 * (k : Int)))]) (R := fun (k, xs, A1, c1) w' => Ext (Mut [((Value.slice none 0 0).ownBlock), (some gb1)]) w8 w' ∧ World.ownsRow w' w.heap.size 63 1 (.slice A1 k c1) k (xs.map fun x : Nat => Value.int .u64 (x : Int)) ∧ Blk w' gb1 24 (#[.bool false, .slice none 0 0]) ∧ (∀ q9, ((Value.slice A1 k c1).ownBlock) = some q9 → ((Value.slice none 0 0).ownBlock) = some q9 ∨ w8.heap.size ≤ q9) ∧ (xs.length = k ∧ small B18 xs ∧ val B18 xs = num10 (u.drop (u.length - 18 * k)) ∧ 18 * k ≤ u.length + 17)) (m := fun (k, xs, A1, c1) => u.length + 18 - 18 * k) (i := ⟨k, xs, A1, c1⟩) (k + 1, xs ++ [num10 ((u.take e).drop (e - 18))], A2, c2) (by show u.length + 18 - 18 * (k + 1) < u.length + 18 - 18 * k; omega) ⟨rfl, rfl, rfl, rfl, rfl, rfl, trivial⟩ ⟨M10.step E XM10, (by exact Ol), (by exact Bb1), KlM10, by rw [List.length_append, hk]; rfl, small_snoc hsm (chunk_small hal9 e), by rw [chunk_num hal9 hk (by omega : u.length = e + 18 * k) (by rw [hval, he]), show u.length - 18 * (k + 1) = e - 18 by omega], by omega⟩
          · have _way := True.intro
            have q := of_decide_eq_false q
            have hv9 : val B18 xs = num10 r := by rw [hval, show u.length - 18 * k = 0 by omega, List.drop_zero, hnum]
            have Ol9 := Ol
            have hown : Own w11 w.heap.size A1 c1 xs := ⟨by rw [hk]; exact Ol9, fun x hx => Nat.lt_trans (hsm x hx) (by decide)⟩
            have hform : ∀ w', Nums w' A1 xs → Calls Tryd.prog 49 #[.bool true, .slice A1 k c1] w' (RetBig w' (sgn true (num10 r))) := fun w' h => by
              have h9 := form_any true A1 c1 xs w' h hsm (by omega)
              rwa [hk, hv9] at h9
            replace HF := HF.on E
            replace LW := LW.step E XLW
            replace M3 := M3.step E XM3
            replace M7 := M7.step E XM7
            replace M10 := M10.step E XM10
            have SB : ∀ q9, Mut [(some gb1)] q9 → Mut [((Value.slice A1 k c1).ownBlock), (some gb1)] q9 := (Mut.skip (Mut.keep Mut.nil_))
            replace HF := HF.less SB
            replace XLW := fun k h => XLW k (SB k h)
            replace XM3 := fun k h => XM3 k (SB k h)
            replace XM7 := fun k h => XM7 k (SB k h)
            replace XM10 := fun k h => XM10 k (SB k h)
            clear SB
            replace E := Ext.refl (Mut [(some gb1)]) w11
            replace HF := HF.and (Per.ownsN Ol (NotIn.cons Dl_b1 NotIn.nil))
            clear Ol
            replace HF := HF.on E
            replace LW := LW.step E XLW
            replace M3 := M3.step E XM3
            replace M7 := M7.step E XM7
            replace M10 := M10.step E XM10
            replace E := Ext.refl (Mut [(some gb1)]) w11
            replace HF := HF.and (Per.ownN hown (NotIn.cons (own_apart hown Bb1 (by decide)) NotIn.nil))
            refine cw_exit ?_
            refine ew_then_exit ?_
            refine ew_then_exit ?_
            refine ew_block_here ?_
            refine ew_next ?_
            refine cw_seq ?_
            refine cw_region ?_
            refine rs_op rfl (ow_move rfl ?_)
            refine rs_op rfl (ow_move rfl ?_)
            refine rs_op rfl (ow_enter en49 rfl ((hform _ ((HF.on E).here.2).nums).mono ?_))
            rintro e w16 ⟨A2, c2, rfl, o2, hb⟩
            refine ⟨_, rfl, ?_⟩
            have XC : ∀ q9, (Mut [(some gb1)]) q9 → q9 < w11.heap.size := (Mut.grow Mut.none_ (some_lt Bb1.lt))
            have SC := Nat.le_trans LW.size E.size
            have SE := E.size
            have Ec := Ext.of_below hb No
            replace Bb1 := Bb1.extN Ec NotIn.nil
            replace E := E.trans Ec.no
            clear hb Ec
            have S2 := SC
            replace HF := HF.on E
            replace LW := LW.step E XLW
            replace M3 := M3.step E XM3
            replace M7 := M7.step E XM7
            replace M10 := M10.step E XM10
            replace E := Ext.refl (Mut [(some gb1)]) w16
            replace HF := HF.and (Per.ownN o2 (NotIn.cons (own_apart o2 Bb1 (by decide)) NotIn.nil))
            refine rs_op0 (ow_storeM sz24 rfl rfl Bb1 rfl rfl (Nat.le_of_ble_eq_true rfl) ?_)
            intro w17 Bx Eb1
            replace Bb1 := Bx
            clear Bx
            replace E := E.step1 Eb1 Mut.head
            clear Eb1
            replace HF := HF.on E
            replace LW := LW.step E XLW
            replace M3 := M3.step E XM3
            replace M7 := M7.step E XM7
            replace M10 := M10.step E XM10
            have SB : ∀ q9, No q9 → Mut [(some gb1)] q9 := (Mut.skip Mut.nil_)
            replace HF := HF.less SB
            replace XLW := fun k h => XLW k (SB k h)
            replace XM3 := fun k h => XM3 k (SB k h)
            replace XM7 := fun k h => XM7 k (SB k h)
            replace XM10 := fun k h => XM10 k (SB k h)
            clear SB
            replace E := Ext.refl (No) w17
            replace HF := HF.and (Per.blkN Bb1 NotIn.nil)
            clear Bb1
            refine rs_op rfl (ow_assign rfl ?_)
            refine rs_nil ?_
            refine ew_next ?_
            refine cw_ret ?_
            refine ew_ret (rs := [.cell 2 24, .tmp 3]) (vs := [_, _]) rfl ⟨⟨_, rfl, res_box Tryd.underlying24 rfl sz24 (HF.on E).here.2 rfl⟩, rfl, trivial⟩ ?_
            exact by rw [e1, e2]; exact ⟨A2, c2, rfl, ((HF.on E).here.1.2).mono S2, (LW.step E XLW).toBelow⟩
    · have _way := True.intro
      have h := of_decide_eq_false h
      have hu0 : u = [] := by cases u with | nil => rfl | cons b u2 => simp at h
      refine rs_op rfl (ow_off rfl ?_)
      refine rs_op rfl (ow_off rfl ?_)
      refine rs_op rfl (ow_off rfl ?_)
      refine rs_op rfl (ow_pickF rfl rfl ?_)
      refine rs_nil ?_
      refine ew_next ?_
      refine cw_else rfl ?_
      refine cw_exit ?_
      refine ew_then_exit ?_
      refine ew_then_exit ?_
      refine ew_block_here ?_
      refine ew_next ?_
      refine cw_seq ?_
      refine cw_seq ?_
      refine cw_region ?_
      refine rs_op rfl (ow_move rfl ?_)
      refine rs_op rfl (ow_lenS Tryd.underlying9 rfl ?_)
      refine rs_op rfl (ow_gtr rfl rfl ?_)
      refine rs_nil ?_
      refine ew_next ?_
      have hstr : strip r = u := by rw [← hu1]; exact by rw [hu0]; rfl
      have hal9 := strip_all hall
      rw [hstr] at hal9
      have hln9 := strip_len hall
      rw [hstr] at hln9
      have hnum : num10 u = num10 r := by rw [← hstr, strip_num]
      refine cw_set 53 (.bool (decide ((540 : Int) < ((u.length : Nat) : Int)))) rfl (by rw [ba_size]) ?_
      refine cw_cond rfl (fun h3 => ?_) (fun h3 => ?_)
      · have _way := True.intro
        have h3 := of_decide_eq_true h3
        have e1 : textE r = 2 := by unfold textE; rw [if_pos ⟨hr, hall⟩, if_neg (by omega)]
        have e2 : textV true r = 0 := by unfold textV; rw [if_neg (by rintro ⟨_, _, h⟩; omega)]
        refine cw_seq ?_
        refine cw_region ?_
        refine rs_op rfl (ow_build (cs := #[.bool false, .slice none 0 0]) pl24 zr24 rfl rfl ?_)
        refine rs_op0 (ow_storeM sz24 rfl rfl Bb1 rfl rfl (Nat.le_of_ble_eq_true rfl) ?_)
        intro w18 Bx Eb1
        replace Bb1 := Bx
        clear Bx
        replace E := E.step1 Eb1 Mut.head
        clear Eb1
        refine rs_op rfl (ow_assign rfl ?_)
        refine rs_nil ?_
        refine ew_next ?_
        refine cw_ret ?_
        refine ew_then_ret ?_
        refine ew_ret (rs := [.cell 2 24, .tmp 3]) (vs := [_, _]) rfl ⟨⟨_, rfl, res_box Tryd.underlying24 rfl sz24 Bb1 rfl⟩, rfl, trivial⟩ ?_
        exact by rw [e1, e2]; exact retErr_zero (LW.step E XLW).toBelow
      · have _way := True.intro
        have h3 := of_decide_eq_false h3
        have e1 : textE r = 0 := by unfold textE; rw [if_pos ⟨hr, hall⟩, if_pos (by omega)]
        have e2 : textV true r = sgn true (num10 r) := by unfold textV; rw [if_pos ⟨hr, hall, by omega⟩]
        refine cw_skip ?_
        refine ew_next ?_
        refine cw_seq ?_
        refine cw_region ?_
        refine rs_op rfl (ow_assign rfl ?_)
        refine rs_nil ?_
        refine ew_next ?_
        refine cw_seq ?_
        refine cw_seq ?_
        refine cw_region ?_
        refine rs_op rfl (ow_move rfl ?_)
        refine rs_op rfl (ow_lenS Tryd.underlying9 rfl ?_)
        refine rs_op rfl (ow_assign rfl ?_)
        refine rs_nil ?_
        refine ew_next ?_
        refine cw_block ?_
        have Ol : World.ownsRow w8 w.heap.size 63 1 (.slice none 0 0) 0 ([]) := owns_nil
        have Dl_b1 : Apart ((Value.slice none 0 0).ownBlock) (some gb1) := fun _ e => by cases e
        have Db1_l := Dl_b1.symm
        replace HF := HF.cons (nil_no)
        replace E := E.cons ((Value.slice none 0 0).ownBlock)
        replace XLW := Mut.grow XLW (fun k e => Or.inr (Nat.le_trans LW.size ((nil_no) k e)))
        replace XM3 := Mut.grow XM3 (fun k e => Or.inr (Nat.le_trans M3.size ((nil_no) k e)))
        replace XM7 := Mut.grow XM7 (fun k e => Or.inr (Nat.le_trans M7.size ((nil_no) k e)))
        refine cw_set 7 (.int .i64 ((u.length : Int) - 18 * ((0 : Nat) : Int))) rfl (by rw [ba_size]; simp) ?_
        replace HF := HF.on E
        replace LW := LW.step E XLW
        replace M3 := M3.step E XM3
        replace M7 := M7.step E XM7
        replace E := Ext.refl (Mut [((Value.slice none 0 0).ownBlock), (some gb1)]) w8
        refine cw_loop (ι := Nat × List Nat × Option Addr × Nat) (fun (k, xs, A1, c1) => [(0, .string ⟨u.toArray⟩), (2, .pointer (some ⟨gb1, 0, none⟩)), (3, .int .i64 0), (4, .bool true), (6, .slice A1 k c1), (7, .int .i64 ((u.length : Int) - 18 * (k : Int)))]) (fun (k, xs, A1, c1) w' => Ext (Mut [((Value.slice none 0 0).ownBlock), (some gb1)]) w8 w' ∧ World.ownsRow w' w.heap.size 63 1 (.slice A1 k c1) k (xs.map fun x : Nat => Value.int .u64 (x : Int)) ∧ Blk w' gb1 24 (#[.bool false, .slice none 0 0]) ∧ (∀ q9, ((Value.slice A1 k c1).ownBlock) = some q9 → ((Value.slice none 0 0).ownBlock) = some q9 ∨ w8.heap.size ≤ q9) ∧ (xs.length = k ∧ small B18 xs ∧ val B18 xs = num10 (u.drop (u.length - 18 * k)) ∧ 18 * k ≤ u.length + 17)) (fun (k, xs, A1, c1) => u.length + 18 - 18 * k) (0, [], none, 0) ⟨rfl, rfl, rfl, rfl, rfl, rfl, trivial⟩ ⟨Ext.refl _ _, (by exact Ol), (by exact Bb1), (fun _ e => Or.inl e), ⟨rfl, small_nil, by rw [Nat.mul_zero, Nat.sub_zero, List.drop_length]; rfl, by omega⟩⟩ ?_
        have LTl := (owns_lt Ol)
        have LTb1 := (some_lt Bb1.lt)
        clear Ol
        clear Bb1
        rintro ⟨k, xs, A1, c1⟩ w20 ⟨M19, Ol, Bb1, KlM19, ⟨hk, hsm, hval, hkl⟩⟩
        replace Dl_b1 : Apart ((Value.slice A1 k c1).ownBlock) (some gb1) := Dl_b1.turn KlM19 LTb1
        replace Db1_l := Dl_b1.symm
        have XM19 : ∀ q9, (Mut [((Value.slice A1 k c1).ownBlock), (some gb1)]) q9 → (Mut [((Value.slice none 0 0).ownBlock), (some gb1)]) q9 ∨ w8.heap.size ≤ q9 := (Mut.grow (Mut.grow Mut.none_ (fun k e => Or.inl ((Mut.tail Mut.head) k e))) (fun k e => (KlM19 k e).elim (fun e => Or.inl (Mut.head k e)) Or.inr))
        replace E := E.trans M19
        replace HF := HF.turn E XM19
        have XT := fun q9 (h : (Mut [((Value.slice A1 k c1).ownBlock), (some gb1)]) q9) => (XM19 q9 h).elim (XLW q9) (fun h => Or.inr (Nat.le_trans LW.size h))
        replace LW := LW.step E XLW
        replace XLW := XT
        clear XT
        have XT := fun q9 (h : (Mut [((Value.slice A1 k c1).ownBlock), (some gb1)]) q9) => (XM19 q9 h).elim (XM3 q9) (fun h => Or.inr (Nat.le_trans M3.size h))
        replace M3 := M3.step E XM3
        replace XM3 := XT
        clear XT
        have XT := fun q9 (h : (Mut [((Value.slice A1 k c1).ownBlock), (some gb1)]) q9) => (XM19 q9 h).elim (XM7 q9) (fun h => Or.inr (Nat.le_trans M7.size h))
        replace M7 := M7.step E XM7
        replace XM7 := XT
        clear XT
        replace E := Ext.refl (Mut [((Value.slice A1 k c1).ownBlock), (some gb1)]) w20
        clear LTl
        clear LTb1
        refine cw_seq ?_
        refine cw_seq ?_
        refine cw_region ?_
        refine rs_op rfl (ow_move rfl ?_)
        refine rs_op rfl (ow_gtr rfl rfl ?_)
        refine rs_nil ?_
        refine ew_next ?_
        refine cw_cond rfl (fun q => ?_) (fun q => ?_)
        · have _way := True.intro
          have q := of_decide_eq_true q
          obtain ⟨e, he⟩ : ∃ e : Nat, e = u.length - 18 * k := ⟨_, rfl⟩
          have he0 : 0 < e := by omega
          have hel : e ≤ u.length := by omega
          refine cw_skip ?_
          refine ew_next ?_
          refine cw_seq ?_
          refine cw_block ?_
          refine cw_seq ?_
          refine cw_region ?_
          refine rs_op rfl (ow_move rfl ?_)
          refine rs_op rfl (ow_move rfl ?_)
          refine rs_op rfl (ow_sub rfl rfl (wrap_i64 (by omega)) ?_)
          refine rs_op rfl (ow_max rfl rfl ?_)
          refine rs_set 65 (.int .i64 ((e - 18 : Nat) : Int)) rfl ((by congr 1; split <;> omega : (.int .i64 (if (u.length : Int) - 18 * (k : Int) - 18 > 0 then (u.length : Int) - 18 * (k : Int) - 18 else 0) : Value) = _)) ?_
          refine rs_op rfl (ow_move rfl ?_)
          refine rs_set 66 (.int .i64 ((e : Nat) : Int)) rfl ((by rw [show (u.length : Int) - 18 * (k : Int) = ((e : Nat) : Int) by omega] : (.int .i64 ((u.length : Int) - 18 * (k : Int)) : Value) = _)) ?_
          refine rs_op rfl (ow_sliceS (l := e - 18) (h := e) Tryd.underlying9 rfl ⟨_, rfl⟩ ⟨_, rfl⟩ (Nat.sub_le _ _) (by rw [ba_size]; exact hel) ?_)
          refine rs_set 67 (.string ⟨((u.take e).drop (e - 18)).toArray⟩) rfl ((by rw [ba_cut] : (.string ((⟨u.toArray⟩ : ByteArray).extract (e - 18) e) : Value) = _)) ?_
          refine rs_op rfl (ow_enter en63 rfl ((parseU _ _ (piece_ne he0 hel) (piece_all hal9 e) (chunk_small hal9 e) (piece_len u e)).mono ?_))
          rintro e w21 ⟨rfl, hb⟩
          refine ⟨_, rfl, ?_⟩
          have XC : ∀ q9, (Mut [((Value.slice A1 k c1).ownBlock), (some gb1)]) q9 → q9 < w20.heap.size := (Mut.grow (Mut.grow Mut.none_ (some_lt Bb1.lt)) (owns_lt Ol))
          have SC := Nat.le_trans LW.size E.size
          have SE := E.size
          have Ec := Ext.of_below hb No
          replace Ol := owns_extN Ol Ec NotIn.nil
          replace Bb1 := Bb1.extN Ec NotIn.nil
          replace E := E.trans Ec.no
          clear hb Ec
          refine rs_op rfl (ow_move rfl ?_)
          refine rs_op rfl (ow_extract rfl rfl ?_)
          refine rs_op rfl (ow_extract rfl rfl ?_)
          refine rs_op rfl (ow_assign rfl ?_)
          refine rs_op rfl (ow_assign rfl ?_)
          refine rs_nil ?_
          refine ew_next ?_
          refine cw_region ?_
          refine rs_op rfl (ow_move rfl ?_)
          refine rs_op rfl (ow_move rfl ?_)
          refine rs_op rfl (ow_buildSlice (cs := #[.int .u64 ((num10 ((u.take e).drop (e - 18)) : Nat) : Int)]) Tryd.underlying22 sz63 zr63 (by decide) rfl (by rw [map_range_]; rfl) ?_)
          intro gb22 w23 Bb22 Eb22 Gb22
          have Db22_l : Apart (some gb22) ((Value.slice A1 k c1).ownBlock) := Apart.of_lt (owns_lt Ol) Gb22
          have Dl_b22 := Db22_l.symm
          have Db22_b1 : Apart (some gb22) (some gb1) := Apart.of_lt (some_lt Bb1.lt) Gb22
          have Db1_b22 := Db22_b1.symm
          have Gb22 : _ ≤ gb22 := Nat.le_trans E.size Gb22
          have GLb22 := Nat.le_trans LW.size Gb22
          replace Ol := owns_extN Ol Eb22 NotIn.nil
          replace Bb1 := Bb1.extN Eb22 NotIn.nil
          replace E := E.trans Eb22.no
          clear Eb22
          replace HF := HF.cons (some_ge Gb22)
          replace E := E.cons (some gb22)
          replace XLW := Mut.grow XLW (fun k e => Or.inr (Nat.le_trans LW.size ((some_ge Gb22) k e)))
          replace XM3 := Mut.grow XM3 (fun k e => Or.inr (Nat.le_trans M3.size ((some_ge Gb22) k e)))
          replace XM7 := Mut.grow XM7 (fun k e => Or.inr (Nat.le_trans M7.size ((some_ge Gb22) k e)))
          replace XM19 := Mut.grow XM19 (fun k e => Or.inr (Nat.le_trans M19.size ((some_ge Gb22) k e)))
          replace HF := HF.on E
          replace LW := LW.step E XLW
          replace M3 := M3.step E XM3
          replace M7 := M7.step E XM7
          replace M19 := M19.step E XM19
          have SB : ∀ q9, Mut [((Value.slice A1 k c1).ownBlock), (some gb1)] q9 → Mut [(some gb22), ((Value.slice A1 k c1).ownBlock), (some gb1)] q9 := (Mut.skip (Mut.keep (Mut.keep Mut.nil_)))
          replace HF := HF.less SB
          replace XLW := fun k h => XLW k (SB k h)
          replace XM3 := fun k h => XM3 k (SB k h)
          replace XM7 := fun k h => XM7 k (SB k h)
          replace XM19 := fun k h => XM19 k (SB k h)
          clear SB
          replace E := Ext.refl (Mut [((Value.slice A1 k c1).ownBlock), (some gb1)]) w23
          replace HF := HF.and (Per.blkN Bb22 (NotIn.cons Db22_l (NotIn.cons Db22_b1 NotIn.nil)))
          clear Bb22
          refine rs_op rfl (ow_append (news := [.int .u64 ((num10 ((u.take e).drop (e - 18)) : Nat) : Int)]) Tryd.underlying22 inf63 rfl (by decide) rfl Ol rfl (reads_row (HF.on E).here.2 ((HF.on E).here.2).lt rfl) (by simp [Value.oneCell']) (by unfold maxLen; omega) (by omega) (by exact Nat.le_trans LW.size E.size) ?_)
          intro v0 w24 On En KN
          obtain ⟨A2, c2, rfl⟩ := owns_shape On
          replace KN : ∀ q9, ((Value.slice A2 (k + 1) c2).ownBlock) = some q9 → ((Value.slice A1 k c1).ownBlock) = some q9 ∨ w23.heap.size ≤ q9 := KN
          have LTb1 := (some_lt Bb1.lt)
          replace Bb1 := Bb1.extN En (NotIn.cons Db1_l NotIn.nil)
          replace Dl_b1 : Apart ((Value.slice A2 (k + 1) c2).ownBlock) (some gb1) := Dl_b1.turn KN LTb1
          replace Db1_l := Dl_b1.symm
          clear LTb1
          have HY : ∀ q9, (Mut [((Value.slice A2 (k + 1) c2).ownBlock), (some gb1)]) q9 → (Mut [((Value.slice A1 k c1).ownBlock), (some gb1)]) q9 ∨ w23.heap.size ≤ q9 := (Mut.grow (Mut.grow Mut.none_ (fun k e => Or.inl ((Mut.tail Mut.head) k e))) (fun k e => (KN k e).elim (fun e => Or.inl (Mut.head k e)) (fun h => Or.inr (Nat.le_trans E.size h))))
          replace KlM19 : ∀ q9, ((Value.slice A2 (k + 1) c2).ownBlock) = some q9 → ((Value.slice none 0 0).ownBlock) = some q9 ∨ w8.heap.size ≤ q9 := fun k e => (KN k e).elim (KlM19 k) (fun h => Or.inr (Nat.le_trans M19.size (Nat.le_trans E.size h)))
          replace E := E.step1 En Mut.head
          replace HF := HF.turn E HY
          have XT := fun q9 (h : (Mut [((Value.slice A2 (k + 1) c2).ownBlock), (some gb1)]) q9) => (HY q9 h).elim (XLW q9) (fun h => Or.inr (Nat.le_trans LW.size h))
          replace LW := LW.step E XLW
          replace XLW := XT
          clear XT
          have XT := fun q9 (h : (Mut [((Value.slice A2 (k + 1) c2).ownBlock), (some gb1)]) q9) => (HY q9 h).elim (XM3 q9) (fun h => Or.inr (Nat.le_trans M3.size h))
          replace M3 := M3.step E XM3
          replace XM3 := XT
          clear XT
          have XT := fun q9 (h : (Mut [((Value.slice A2 (k + 1) c2).ownBlock), (some gb1)]) q9) => (HY q9 h).elim (XM7 q9) (fun h => Or.inr (Nat.le_trans M7.size h))
          replace M7 := M7.step E XM7
          replace XM7 := XT
          clear XT
          have XT := fun q9 (h : (Mut [((Value.slice A2 (k + 1) c2).ownBlock), (some gb1)]) q9) => (HY q9 h).elim (XM19 q9) (fun h => Or.inr (Nat.le_trans M19.size h))
          replace M19 := M19.step E XM19
          replace XM19 := XT
          clear XT
          replace E := Ext.refl (Mut [((Value.slice A2 (k + 1) c2).ownBlock), (some gb1)]) w24
          clear HY
          replace Ol : World.ownsRow w24 w.heap.size 63 1 (.slice A2 (k + 1) c2) (k + 1) ((xs ++ [num10 ((u.take e).drop (e - 18))]).map fun x : Nat => Value.int .u64 (x : Int)) := by
            have e : ((xs.map fun x : Nat => Value.int .u64 (x : Int)) : List Value) ++ ([.int .u64 ((num10 ((u.take e).drop (e - 18)) : Nat) : Int)] : List Value) = (xs ++ [num10 ((u.take e).drop (e - 18))]).map fun x : Nat => Value.int .u64 (x : Int) := by simp
            rw [← e]
            exact On
          clear On KN En
          refine rs_op rfl (ow_assign rfl ?_)
          refine rs_nil ?_
          refine ew_block_normal ?_
          refine ew_next ?_
          refine cw_region ?_
          refine rs_op rfl (ow_move rfl ?_)
          refine rs_op rfl (ow_sub rfl rfl (wrap_i64 (by omega)) ?_)
          refine rs_op rfl (ow_assign rfl ?_)
          refine rs_nil ?_
          refine ew_set 7 (.int .i64 ((u.length : Int) - 18 * ((k + 1 : Nat) : Int))) rfl ((by rw [show (u.length : Int) - 18 * (k : Int) - 18 = (u.length : Int) - 18 * ((k + 1 : Nat) : Int) by omega] : (.int .i64 (((u.length : Int) - 18 * (k : Int)) - 18) : Value) = _)) ?_
          exact ew_round (ι := Nat × List Nat × Option Addr × Nat) (s := fun (k, xs, A1, c1) => [(0, .string ⟨u.toArray⟩), (2, .pointer (some ⟨gb1, 0, none⟩)), (3, .int .i64 0), (4, .bool true), (6, .slice A1 k c1), (7, .int .i64 ((u.length : Int) - 18 * (k : Int)))]) (R := fun (k, xs, A1, c1) w' => Ext (Mut [((Value.slice none 0 0).ownBlock), (some gb1)]) w8 w' ∧ World.ownsRow w' w.heap.size 63 1 (.slice A1 k c1) k (xs.map fun x : Nat => Value.int .u64 (x : Int)) ∧ Blk w' gb1 24 (#[.bool false, .slice none 0 0]) ∧ (∀ q9, ((Value.slice A1 k c1).ownBlock) = some q9 → ((Value.slice none 0 0).ownBlock) = some q9 ∨ w8.heap.size ≤ q9) ∧ (xs.length = k ∧ small B18 xs ∧ val B18 xs = num10 (u.drop (u.length - 18 * k)) ∧ 18 * k ≤ u.length + 17)) (m := fun (k, xs, A1, c1) => u.length + 18 - 18 * k) (i := ⟨k, xs, A1, c1⟩) (k + 1, xs ++ [num10 ((u.take e).drop (e - 18))], A2, c2) (by show u.length + 18 - 18 * (k + 1) < u.length + 18 - 18 * k; omega) ⟨rfl, rfl, rfl, rfl, rfl, rfl, trivial⟩ ⟨M19.step E XM19, (by exact Ol), (by exact Bb1), KlM19, by rw [List.length_append, hk]; rfl, small_snoc hsm (chunk_small hal9 e), by rw [chunk_num hal9 hk (by omega : u.length = e + 18 * k) (by rw [hval, he]), show u.length - 18 * (k + 1) = e - 18 by omega], by omega⟩
        · have _way := True.intro
          have q := of_decide_eq_false q
          have hv9 : val B18 xs = num10 r := by rw [hval, show u.length - 18 * k = 0 by omega, List.drop_zero, hnum]
          have Ol9 := Ol
          have hown : Own w20 w.heap.size A1 c1 xs := ⟨by rw [hk]; exact Ol9, fun x hx => Nat.lt_trans (hsm x hx) (by decide)⟩
          have hform : ∀ w', Nums w' A1 xs → Calls Tryd.prog 49 #[.bool true, .slice A1 k c1] w' (RetBig w' (sgn true (num10 r))) := fun w' h => by
            have h9 := form_any true A1 c1 xs w' h hsm (by omega)
            rwa [hk, hv9] at h9
          replace HF := HF.on E
          replace LW := LW.step E XLW
          replace M3 := M3.step E XM3
          replace M7 := M7.step E XM7
          replace M19 := M19.step E XM19
          have SB : ∀ q9, Mut [(some gb1)] q9 → Mut [((Value.slice A1 k c1).ownBlock), (some gb1)] q9 := (Mut.skip (Mut.keep Mut.nil_))
          replace HF := HF.less SB
          replace XLW := fun k h => XLW k (SB k h)
          replace XM3 := fun k h => XM3 k (SB k h)
          replace XM7 := fun k h => XM7 k (SB k h)
          replace XM19 := fun k h => XM19 k (SB k h)
          clear SB
          replace E := Ext.refl (Mut [(some gb1)]) w20
          replace HF := HF.and (Per.ownsN Ol (NotIn.cons Dl_b1 NotIn.nil))
          clear Ol
          replace HF := HF.on E
          replace LW := LW.step E XLW
          replace M3 := M3.step E XM3
          replace M7 := M7.step E XM7
          replace M19 := M19.step E XM19
          replace E := Ext.refl (Mut [(some gb1)]) w20
          replace HF := HF.and (Per.ownN hown (NotIn.cons (own_apart hown Bb1 (by decide)) NotIn.nil))
          refine cw_exit ?_
          refine ew_then_exit ?_
          refine ew_then_exit ?_
          refine ew_block_here ?_
          refine ew_next ?_
          refine cw_seq ?_
          refine cw_region ?_
          refine rs_op rfl (ow_move rfl ?_)
          refine rs_op rfl (ow_move rfl ?_)
          refine rs_op rfl (ow_enter en49 rfl ((hform _ ((HF.on E).here.2).nums).mono ?_))
          rintro e w25 ⟨A2, c2, rfl, o2, hb⟩
          refine ⟨_, rfl, ?_⟩
          have XC : ∀ q9, (Mut [(some gb1)]) q9 → q9 < w20.heap.size := (Mut.grow Mut.none_ (some_lt Bb1.lt))
          have SC := Nat.le_trans LW.size E.size
          have SE := E.size
          have Ec := Ext.of_below hb No
          replace Bb1 := Bb1.extN Ec NotIn.nil
          replace E := E.trans Ec.no
          clear hb Ec
          have S2 := SC
          replace HF := HF.on E
          replace LW := LW.step E XLW
          replace M3 := M3.step E XM3
          replace M7 := M7.step E XM7
          replace M19 := M19.step E XM19
          replace E := Ext.refl (Mut [(some gb1)]) w25
          replace HF := HF.and (Per.ownN o2 (NotIn.cons (own_apart o2 Bb1 (by decide)) NotIn.nil))
          refine rs_op0 (ow_storeM sz24 rfl rfl Bb1 rfl rfl (Nat.le_of_ble_eq_true rfl) ?_)
          intro w26 Bx Eb1
          replace Bb1 := Bx
          clear Bx
          replace E := E.step1 Eb1 Mut.head
          clear Eb1
          replace HF := HF.on E
          replace LW := LW.step E XLW
          replace M3 := M3.step E XM3
          replace M7 := M7.step E XM7
          replace M19 := M19.step E XM19
          have SB : ∀ q9, No q9 → Mut [(some gb1)] q9 := (Mut.skip Mut.nil_)
          replace HF := HF.less SB
          replace XLW := fun k h => XLW k (SB k h)
          replace XM3 := fun k h => XM3 k (SB k h)
          replace XM7 := fun k h => XM7 k (SB k h)
          replace XM19 := fun k h => XM19 k (SB k h)
          clear SB
          replace E := Ext.refl (No) w26
          replace HF := HF.and (Per.blkN Bb1 NotIn.nil)
          clear Bb1
          refine rs_op rfl (ow_assign rfl ?_)
          refine rs_nil ?_
          refine ew_next ?_
          refine cw_ret ?_
          refine ew_ret (rs := [.cell 2 24, .tmp 3]) (vs := [_, _]) rfl ⟨⟨_, rfl, res_box Tryd.underlying24 rfl sz24 (HF.on E).here.2 rfl⟩, rfl, trivial⟩ ?_
          exact by rw [e1, e2]; exact ⟨A2, c2, rfl, ((HF.on E).here.1.2).mono S2, (LW.step E XLW).toBelow⟩
theorem parse_pos (hr : r ≠ []) (h45 : r.head? ≠ some 45) (hs : r.length ≤ 140737488355328) : Calls Tryd.prog 45 #[.string ⟨r.toArray⟩] w (RetBigErr w (textV false r) (textE r)) := by
  obtain ⟨b0, hb0⟩ : ∃ b, r.head? = some b := by cases r with | nil => exact absurd rfl hr | cons b _ => exact ⟨b, rfl⟩
  have hat0 : (⟨r.toArray⟩ : ByteArray)[0]? = some b0 := by rw [la_get]; cases r with | nil => cases hb0 | cons b _ => simpa using hb0
  have hne : b0.toNat ≠ 45 := fun e => h45 (by rw [hb0, show b0 = 45 from UInt8.toNat_inj.1 e])
  have hpos : (0 : Int) < ((⟨r.toArray⟩ : ByteArray).size : Int) := by rw [ba_size]; have h2 := List.length_pos_iff.2 hr; omega
  refine calls_cw Tryd.func45 rfl Tryd.ntmps45 rfl ?_
  have HF : Per No w (fun _ => True) := Per.true_
  have LW := Ext.refl (No) w
  have XLW : ∀ q9, (No) q9 → (No) q9 ∨ w.heap.size ≤ q9 := fun _ h => Or.inl h
  have E := Ext.refl No w
  refine cw_seq ?_
  refine cw_region ?_
  refine rs_op rfl (ow_allocB zr24 ?_)
  intro gb1 w2 Bb1 Eb1 Gb1
  have Gb1 : _ ≤ gb1 := Nat.le_trans E.size Gb1
  have GLb1 := Nat.le_trans LW.size Gb1
  replace E := E.trans Eb1.no
  clear Eb1
  replace HF := HF.cons (some_ge Gb1)
  replace E := E.cons (some gb1)
  replace XLW := Mut.grow XLW (fun k e => Or.inr (Nat.le_trans LW.size ((some_ge Gb1) k e)))
  refine rs_op rfl (ow_assign rfl ?_)
  refine rs_nil ?_
  refine ew_next ?_
  refine cw_seq ?_
  refine cw_region ?_
  refine rs_op rfl (ow_move rfl ?_)
  refine rs_op rfl (ow_lenS Tryd.underlying9 rfl ?_)
  refine rs_op rfl (ow_gtr rfl rfl ?_)
  refine rs_op rfl (ow_move rfl ?_)
  refine rs_set 13 (.bool true) rfl (by rw [decide_eq_true hpos]) ?_
  refine rs_op rfl (ow_on rfl (ow_move rfl ?_))
  refine rs_op rfl (ow_on rfl (ow_indexS (j := 0) Tryd.underlying9 rfl rfl rfl hat0 ?_))
  refine rs_op rfl (ow_on rfl (ow_eql rfl rfl ?_))
  refine rs_op rfl (ow_pickT rfl rfl ?_)
  refine rs_op rfl (ow_assign rfl ?_)
  refine rs_nil ?_
  refine ew_next ?_
  refine cw_seq ?_
  refine cw_seq ?_
  refine cw_region ?_
  refine rs_op rfl (ow_move rfl ?_)
  refine rs_nil ?_
  refine ew_next ?_
  refine cw_set 4 (.bool false) rfl ((by rw [beq_eq_false_iff_ne.2 (by omega)] : (.bool (((b0.toNat : Nat) : Int) == 45) : Value) = _)) ?_
  refine cw_set 18 (.bool false) rfl ((by rw [beq_eq_false_iff_ne.2 (by omega)] : (.bool (((b0.toNat : Nat) : Int) == 45) : Value) = _)) ?_
  refine cw_else rfl ?_
  refine cw_skip ?_
  refine ew_next ?_
  refine cw_seq ?_
  refine cw_seq ?_
  refine cw_region ?_
  refine rs_op rfl (ow_move rfl ?_)
  refine rs_op rfl (ow_eqlS rfl rfl ?_)
  refine rs_nil ?_
  refine ew_next ?_
  have hne0 : (⟨r.toArray⟩ : ByteArray).toList ≠ (⟨#[]⟩ : ByteArray).toList := by rw [ba_list, show (⟨#[]⟩ : ByteArray).toList = [] from ba_list []]; exact hr
  refine cw_set 22 (.bool false) rfl (by rw [beq_eq_false_iff_ne.2 hne0]) ?_
  refine cw_else rfl ?_
  refine cw_skip ?_
  refine ew_next ?_
  refine cw_seq ?_
  refine cw_seq ?_
  refine cw_region ?_
  refine rs_op rfl (ow_move rfl ?_)
  refine rs_op rfl (ow_lenS Tryd.underlying9 rfl ?_)
  refine rs_op rfl (ow_move rfl ?_)
  refine rs_nil ?_
  refine ew_next ?_
  refine cw_block ?_
  refine cw_set 25 (.int .i64 ((r.length : Nat) : Int)) rfl (by rw [ba_size]) ?_
  refine cw_set 26 (.int .i64 ((0 : Nat) : Int)) rfl ((by rfl : (.int .i64 0 : Value) = _)) ?_
  replace HF := HF.on E
  replace LW := LW.step E XLW
  replace E := Ext.refl (Mut [(some gb1)]) w2
  refine cw_loop (ι := Nat) (fun k => [(0, .string ⟨r.toArray⟩), (2, .pointer (some ⟨gb1, 0, none⟩)), (3, .int .i64 0), (4, .bool false), (25, .int .i64 ((r.length : Nat) : Int)), (26, .int .i64 (k : Int))]) (fun k w' => Ext (Mut [(some gb1)]) w2 w' ∧ Blk w' gb1 24 (#[.bool false, .slice none 0 0]) ∧ (k ≤ r.length ∧ (r.take k).all isDig = true)) (fun k => r.length - k) 0 ⟨rfl, rfl, rfl, rfl, rfl, rfl, trivial⟩ ⟨Ext.refl _ _, (by exact Bb1), ⟨Nat.zero_le _, rfl⟩⟩ ?_
  have LTb1 := (some_lt Bb1.lt)
  clear Bb1
  rintro k w4 ⟨M3, Bb1, ⟨hk, hall⟩⟩
  have XM3 : ∀ q9, (Mut [(some gb1)]) q9 → (Mut [(some gb1)]) q9 ∨ w2.heap.size ≤ q9 := (Mut.grow Mut.none_ (fun k e => Or.inl (Mut.head k e)))
  replace E := E.trans M3
  replace HF := HF.on E
  replace LW := LW.step E XLW
  replace E := Ext.refl (Mut [(some gb1)]) w4
  clear LTb1
  refine cw_seq ?_
  refine cw_region ?_
  refine rs_op rfl (ow_lss rfl rfl ?_)
  refine rs_nil ?_
  refine ew_next ?_
  refine cw_seq ?_
  refine cw_cond rfl (fun q => ?_) (fun q => ?_)
  · have _way := True.intro
    have q := of_decide_eq_true q
    have hk1 : k < r.length := by omega
    obtain ⟨b, hb9⟩ : ∃ b, r[k]? = some b := ⟨_, List.getElem?_eq_getElem hk1⟩
    have hat : (⟨r.toArray⟩ : ByteArray)[k]? = some b := by rw [la_get]; exact hb9
    refine cw_skip ?_
    refine ew_next ?_
    refine cw_seq ?_
    refine cw_block ?_
    refine cw_seq ?_
    refine cw_region ?_
    refine rs_op rfl (ow_move rfl ?_)
    refine rs_op rfl (ow_assign rfl ?_)
    refine rs_nil ?_
    refine ew_next ?_
    refine cw_seq ?_
    refine cw_region ?_
    refine rs_op rfl (ow_move rfl ?_)
    refine rs_op rfl (ow_move rfl ?_)
    refine rs_op rfl (ow_indexS (j := k) Tryd.underlying9 rfl rfl rfl hat ?_)
    refine rs_op rfl (ow_lss rfl rfl ?_)
    refine rs_op rfl (ow_move rfl ?_)
    refine rs_split 33 rfl (fun h => ?_) (fun h => ?_)
    · have _way := True.intro
      have h := of_decide_eq_true h
      obtain ⟨e1, e2⟩ := text_bad (neg := false) (not_all hb9 (by unfold isDig; simp; omega))
      refine rs_op rfl (ow_off rfl ?_)
      refine rs_op rfl (ow_off rfl ?_)
      refine rs_op rfl (ow_off rfl ?_)
      refine rs_op rfl (ow_off rfl ?_)
      refine rs_op rfl (ow_pickT rfl rfl ?_)
      refine rs_nil ?_
      refine ew_next ?_
      refine cw_then rfl ?_
      refine cw_seq ?_
      refine cw_region ?_
      refine rs_op rfl (ow_build (cs := #[.bool false, .slice none 0 0]) pl24 zr24 rfl rfl ?_)
      refine rs_op0 (ow_storeM sz24 rfl rfl Bb1 rfl rfl (Nat.le_of_ble_eq_true rfl) ?_)
      intro w5 Bx Eb1
      replace Bb1 := Bx
      clear Bx
      replace E := E.step1 Eb1 Mut.head
      clear Eb1
      refine rs_op rfl (ow_assign rfl ?_)
      refine rs_nil ?_
      refine ew_next ?_
      refine cw_ret ?_
      refine ew_block_ret ?_
      refine ew_then_ret ?_
      refine ew_then_ret ?_
      refine ew_block_ret ?_
      refine ew_then_ret ?_
      refine ew_ret (rs := [.cell 2 24, .tmp 3]) (vs := [_, _]) rfl ⟨⟨_, rfl, res_box Tryd.underlying24 rfl sz24 Bb1 rfl⟩, rfl, trivial⟩ ?_
      exact by rw [e1, e2]; exact retErr_zero (LW.step E XLW).toBelow
    · have _way := True.intro
      have h := of_decide_eq_false h
      refine rs_op rfl (ow_on rfl (ow_move rfl ?_))
      refine rs_op rfl (ow_on rfl (ow_move rfl ?_))
      refine rs_op rfl (ow_on rfl (ow_indexS (j := k) Tryd.underlying9 rfl rfl rfl hat ?_))
      refine rs_op rfl (ow_on rfl (ow_gtr rfl rfl ?_))
      refine rs_op rfl (ow_pickF rfl rfl ?_)
      refine rs_nil ?_
      refine ew_next ?_
      refine cw_cond rfl (fun h2 => ?_) (fun h2 => ?_)
      · have _way := True.intro
        have h2 := of_decide_eq_true h2
        obtain ⟨e1, e2⟩ := text_bad (neg := false) (not_all hb9 (by unfold isDig; simp; omega))
        refine cw_seq ?_
        refine cw_region ?_
        refine rs_op rfl (ow_build (cs := #[.bool false, .slice none 0 0]) pl24 zr24 rfl rfl ?_)
        refine rs_op0 (ow_storeM sz24 rfl rfl Bb1 rfl rfl (Nat.le_of_ble_eq_true rfl) ?_)
        intro w6 Bx Eb1
        replace Bb1 := Bx
        clear Bx
        replace E := E.step1 Eb1 Mut.head
        clear Eb1
        refine rs_op rfl (ow_assign rfl ?_)
        refine rs_nil ?_
        refine ew_next ?_
        refine cw_ret ?_
        refine ew_block_ret ?_
        refine ew_then_ret ?_
        refine ew_then_ret ?_
        refine ew_block_ret ?_
        refine ew_then_ret ?_
        refine ew_ret (rs := [.cell 2 24, .tmp 3]) (vs := [_, _]) rfl ⟨⟨_, rfl, res_box Tryd.underlying24 rfl sz24 Bb1 rfl⟩, rfl, trivial⟩ ?_
        exact by rw [e1, e2]; exact retErr_zero (LW.step E XLW).toBelow
      · have _way := True.intro
        have h2 := of_decide_eq_false h2
        have hdig : isDig b = true := dig_of (by omega) (by omega)
        refine cw_skip ?_
        refine ew_block_normal ?_
        refine ew_next ?_
        refine cw_region ?_
        refine rs_op rfl (ow_add rfl rfl (wrap_i64 (by omega)) ?_)
        refine rs_op rfl (ow_move rfl ?_)
        refine rs_nil ?_
        refine ew_set 26 (.int .i64 ((k + 1 : Nat) : Int)) rfl ((by rfl : (.int .i64 ((k : Int) + 1) : Value) = _)) ?_
        exact ew_round (ι := Nat) (s := fun k => [(0, .string ⟨r.toArray⟩), (2, .pointer (some ⟨gb1, 0, none⟩)), (3, .int .i64 0), (4, .bool false), (25, .int .i64 ((r.length : Nat) : Int)), (26, .int .i64 (k : Int))]) (R := fun k w' => Ext (Mut [(some gb1)]) w2 w' ∧ Blk w' gb1 24 (#[.bool false, .slice none 0 0]) ∧ (k ≤ r.length ∧ (r.take k).all isDig = true)) (m := fun k => r.length - k) (i := k) (k + 1) (by show r.length - (k + 1) < r.length - k; omega) ⟨rfl, rfl, rfl, rfl, rfl, rfl, trivial⟩ ⟨M3.step E XM3, (by exact Bb1), by omega, all_get hb9 hall hdig⟩
  · have _way := True.intro
    have q := of_decide_eq_false q
    obtain rfl : k = r.length := by omega
    rw [List.take_length] at hall
    refine cw_exit ?_
    refine ew_then_exit ?_
    refine ew_then_exit ?_
    refine ew_block_here ?_
    refine ew_next ?_
    refine cw_seq ?_
    refine cw_block ?_
    replace HF := HF.on E
    replace LW := LW.step E XLW
    replace M3 := M3.step E XM3
    replace E := Ext.refl (Mut [(some gb1)]) w4
    refine cw_loop (ι := List UInt8) (fun u => [(0, .string ⟨u.toArray⟩), (2, .pointer (some ⟨gb1, 0, none⟩)), (3, .int .i64 0), (4, .bool false)]) (fun u w' => Ext (Mut [(some gb1)]) w4 w' ∧ Blk w' gb1 24 (#[.bool false, .slice none 0 0]) ∧ (strip u = strip r ∧ u.length ≤ r.length)) (fun u => u.length) r ⟨rfl, rfl, rfl, rfl, trivial⟩ ⟨Ext.refl _ _, (by exact Bb1), ⟨rfl, Nat.le_refl _⟩⟩ ?_
    have LTb1 := (some_lt Bb1.lt)
    clear Bb1
    rintro u w8 ⟨M7, Bb1, ⟨hu1, hu2⟩⟩
    have XM7 : ∀ q9, (Mut [(some gb1)]) q9 → (Mut [(some gb1)]) q9 ∨ w4.heap.size ≤ q9 := (Mut.grow Mut.none_ (fun k e => Or.inl (Mut.head k e)))
    replace E := E.trans M7
    replace HF := HF.on E
    replace LW := LW.step E XLW
    replace M3 := M3.step E XM3
    replace E := Ext.refl (Mut [(some gb1)]) w8
    clear LTb1
    refine cw_seq ?_
    refine cw_seq ?_
    refine cw_region ?_
    refine rs_op rfl (ow_move rfl ?_)
    refine rs_op rfl (ow_lenS Tryd.underlying9 rfl ?_)
    refine rs_op rfl (ow_gtr rfl rfl ?_)
    refine rs_op rfl (ow_move rfl ?_)
    refine rs_set 44 (.bool (decide ((0 : Int) < ((u.length : Nat) : Int)))) rfl (by rw [ba_size]) ?_
    refine rs_split 44 rfl (fun h => ?_) (fun h => ?_)
    · have _way := True.intro
      have h := of_decide_eq_true h
      obtain ⟨b, u2, hbu⟩ : ∃ b u2, u = b :: u2 := by cases u with | nil => simp at h | cons b u2 => exact ⟨b, u2, rfl⟩
      have hat : (⟨u.toArray⟩ : ByteArray)[0]? = some b := by rw [la_get, hbu]; rfl
      refine rs_op rfl (ow_on rfl (ow_move rfl ?_))
      refine rs_op rfl (ow_on rfl (ow_indexS (j := 0) Tryd.underlying9 rfl rfl rfl hat ?_))
      refine rs_op rfl (ow_on rfl (ow_eql rfl rfl ?_))
      refine rs_op rfl (ow_pickT rfl rfl ?_)
      refine rs_nil ?_
      refine ew_next ?_
      refine cw_cond rfl (fun h2 => ?_) (fun h2 => ?_)
      · have _way := True.intro
        have h2 : b = 48 := UInt8.toNat_inj.1 (by have h7 := of_decide_eq_true h2; have h8 : (48 : UInt8).toNat = 48 := rfl; omega)
        have hul : u.length = u2.length + 1 := by rw [hbu]; rfl
        refine cw_skip ?_
        refine ew_next ?_
        refine cw_block ?_
        refine cw_region ?_
        refine rs_op rfl (ow_move rfl ?_)
        refine rs_op rfl (ow_sliceS (l := 1) (h := u.length) Tryd.underlying9 rfl ⟨_, rfl⟩ (ba_size u).symm (by omega) (by rw [ba_size]; omega) ?_)
        refine rs_set 50 (.string ⟨u2.toArray⟩) rfl ((by rw [ba_cut, List.take_length, hbu]; rfl : (.string ((⟨u.toArray⟩ : ByteArray).extract 1 u.length) : Value) = _)) ?_
        refine rs_op rfl (ow_assign rfl ?_)
        refine rs_nil ?_
        refine ew_block_normal ?_
        exact ew_round (ι := List UInt8) (s := fun u => [(0, .string ⟨u.toArray⟩), (2, .pointer (some ⟨gb1, 0, none⟩)), (3, .int .i64 0), (4, .bool false)]) (R := fun u w' => Ext (Mut [(some gb1)]) w4 w' ∧ Blk w' gb1 24 (#[.bool false, .slice none 0 0]) ∧ (strip u = strip r ∧ u.length ≤ r.length)) (m := fun u => u.length) (i := u) u2 (by show u2.length < u.length; omega) ⟨rfl, rfl, rfl, rfl, trivial⟩ ⟨M7.step E XM7, (by exact Bb1), by rw [← hu1, hbu, h2, strip_zero], by omega⟩
      · have _way := True.intro
        have h2 : b ≠ 48 := fun e => by rw [e] at h2; exact absurd h2 (by decide)
        refine cw_exit ?_
        refine ew_then_exit ?_
        refine ew_then_exit ?_
        refine ew_block_here ?_
        refine ew_next ?_
        refine cw_seq ?_
        refine cw_seq ?_
        refine cw_region ?_
        refine rs_op rfl (ow_move rfl ?_)
        refine rs_op rfl (ow_lenS Tryd.underlying9 rfl ?_)
        refine rs_op rfl (ow_gtr rfl rfl ?_)
        refine rs_nil ?_
        refine ew_next ?_
        have hstr : strip r = u := by rw [← hu1]; exact by rw [hbu, strip_cons h2]
        have hal9 := strip_all hall
        rw [hstr] at hal9
        have hln9 := strip_len hall
        rw [hstr] at hln9
        have hnum : num10 u = num10 r := by rw [← hstr, strip_num]
        refine cw_set 53 (.bool (decide ((540 : Int) < ((u.length : Nat) : Int)))) rfl (by rw [ba_size]) ?_
        refine cw_cond rfl (fun h3 => ?_) (fun h3 => ?_)
        · have _way := True.intro
          have h3 := of_decide_eq_true h3
          have e1 : textE r = 2 := by unfold textE; rw [if_pos ⟨hr, hall⟩, if_neg (by omega)]
          have e2 : textV false r = 0 := by unfold textV; rw [if_neg (by rintro ⟨_, _, h⟩; omega)]
          refine cw_seq ?_
          refine cw_region ?_
          refine rs_op rfl (ow_build (cs := #[.bool false, .slice none 0 0]) pl24 zr24 rfl rfl ?_)
          refine rs_op0 (ow_storeM sz24 rfl rfl Bb1 rfl rfl (Nat.le_of_ble_eq_true rfl) ?_)
          intro w9 Bx Eb1
          replace Bb1 := Bx
          clear Bx
          replace E := E.step1 Eb1 Mut.head
          clear Eb1
          refine rs_op rfl (ow_assign rfl ?_)
          refine rs_nil ?_
          refine ew_next ?_
          refine cw_ret ?_
          refine ew_then_ret ?_
          refine ew_ret (rs := [.cell 2 24, .tmp 3]) (vs := [_, _]) rfl ⟨⟨_, rfl, res_box Tryd.underlying24 rfl sz24 Bb1 rfl⟩, rfl, trivial⟩ ?_
          exact by rw [e1, e2]; exact retErr_zero (LW.step E XLW).toBelow
        · have _way := True.intro
          have h3 := of_decide_eq_false h3
          have e1 : textE r = 0 := by unfold textE; rw [if_pos ⟨hr, hall⟩, if_pos (by omega)]
          have e2 : textV false r = sgn false (num10 r) := by unfold textV; rw [if_pos ⟨hr, hall, by omega⟩]
          refine cw_skip ?_
          refine ew_next ?_
          refine cw_seq ?_
          refine cw_region ?_
          refine rs_op rfl (ow_assign rfl ?_)
          refine rs_nil ?_
          refine ew_next ?_
          refine cw_seq ?_
          refine cw_seq ?_
          refine cw_region ?_
          refine rs_op rfl (ow_move rfl ?_)
          refine rs_op rfl (ow_lenS Tryd.underlying9 rfl ?_)
          refine rs_op rfl (ow_assign rfl ?_)
          refine rs_nil ?_
          refine ew_next ?_
          refine cw_block ?_
          have Ol : World.ownsRow w8 w.heap.size 63 1 (.slice none 0 0) 0 ([]) := owns_nil
          have Dl_b1 : Apart ((Value.slice none 0 0).ownBlock) (some gb1) := fun _ e => by cases e
          have Db1_l := Dl_b1.symm
          replace HF := HF.cons (nil_no)
          replace E := E.cons ((Value.slice none 0 0).ownBlock)
          replace XLW := Mut.grow XLW (fun k e => Or.inr (Nat.le_trans LW.size ((nil_no) k e)))
          replace XM3 := Mut.grow XM3 (fun k e => Or.inr (Nat.le_trans M3.size ((nil_no) k e)))
          replace XM7 := Mut.grow XM7 (fun k e => Or.inr (Nat.le_trans M7.size ((nil_no) k e)))
          refine cw_set 7 (.int .i64 ((u.length : Int) - 18 * ((0 : Nat) : Int))) rfl (by rw [ba_size]; simp) ?_
          replace HF := HF.on E
          replace LW := LW.step E XLW
          replace M3 := M3.step E XM3
          replace M7 := M7.step E XM7
          replace E := Ext.refl (Mut [((Value.slice none 0 0).ownBlock), (some gb1)]) w8
          refine cw_loop (ι := Nat × List Nat × Option Addr × Nat) (fun (k, xs, A1, c1) => [(0, .string ⟨u.toArray⟩), (2, .pointer (some ⟨gb1, 0, none⟩)), (3, .int .i64 0), (4, .bool false), (6, .slice A1 k c1), (7, .int .i64 ((u.length : Int) - 18 * (k : Int)))]) (fun (k, xs, A1, c1) w' => Ext (Mut [((Value.slice none 0 0).ownBlock), (some gb1)]) w8 w' ∧ World.ownsRow w' w.heap.size 63 1 (.slice A1 k c1) k (xs.map fun x : Nat => Value.int .u64 (x : Int)) ∧ Blk w' gb1 24 (#[.bool false, .slice none 0 0]) ∧ (∀ q9, ((Value.slice A1 k c1).ownBlock) = some q9 → ((Value.slice none 0 0).ownBlock) = some q9 ∨ w8.heap.size ≤ q9) ∧ (xs.length = k ∧ small B18 xs ∧ val B18 xs = num10 (u.drop (u.length - 18 * k)) ∧ 18 * k ≤ u.length + 17)) (fun (k, xs, A1, c1) => u.length + 18 - 18 * k) (0, [], none, 0) ⟨rfl, rfl, rfl, rfl, rfl, rfl, trivial⟩ ⟨Ext.refl _ _, (by exact Ol), (by exact Bb1), (fun _ e => Or.inl e), ⟨rfl, small_nil, by rw [Nat.mul_zero, Nat.sub_zero, List.drop_length]; rfl, by omega⟩⟩ ?_
          have LTl := (owns_lt Ol)
          have LTb1 := (some_lt Bb1.lt)
          clear Ol
          clear Bb1
          rintro ⟨k, xs, A1, c1⟩ w11 ⟨M10, Ol, Bb1, KlM10, ⟨hk, hsm, hval, hkl⟩⟩
          replace Dl_b1 : Apart ((Value.slice A1 k c1).ownBlock) (some gb1) := Dl_b1.turn KlM10 LTb1
          replace Db1_l := Dl_b1.symm
          have XM10 : ∀ q9, (Mut [((Value.slice A1 k c1).ownBlock), (some gb1)]) q9 → (Mut [((Value.slice none 0 0).ownBlock), (some gb1)]) q9 ∨ w8.heap.size ≤ q9 := (Mut.grow (Mut.grow Mut.none_ (fun k e => Or.inl ((Mut.tail Mut.head) k e))) (fun k e => (KlM10 k e).elim (fun e => Or.inl (Mut.head k e)) Or.inr))
          replace E := E.trans M10
          replace HF := HF.turn E XM10
          have XT := fun q9 (h : (Mut [((Value.slice A1 k c1).ownBlock), (some gb1)]) q9) => (XM10 q9 h).elim (XLW q9) (fun h => Or.inr (Nat.le_trans LW.size h))
          replace LW := LW.step E XLW
          replace XLW := XT
          clear XT
          have XT := fun q9 (h : (Mut [((Value.slice A1 k c1).ownBlock), (some gb1)]) q9) => (XM10 q9 h).elim (XM3 q9) (fun h => Or.inr (Nat.le_trans M3.size h))
          replace M3 := M3.step E XM3
          replace XM3 := XT
          clear XT
          have XT := fun q9 (h : (Mut [((Value.slice A1 k c1).ownBlock), (some gb1)]) q9) => (XM10 q9 h).elim (XM7 q9) (fun h => Or.inr (Nat.le_trans M7.size h))
          replace M7 := M7.step E XM7
          replace XM7 := XT
          clear XT
          replace E := Ext.refl (Mut [((Value.slice A1 k c1).ownBlock), (some gb1)]) w11
          clear LTl
          clear LTb1
          refine cw_seq ?_
          refine cw_seq ?_
          refine cw_region ?_
          refine rs_op rfl (ow_move rfl ?_)
          refine rs_op rfl (ow_gtr rfl rfl ?_)
          refine rs_nil ?_
          refine ew_next ?_
          refine cw_cond rfl (fun q => ?_) (fun q => ?_)
          · have _way := True.intro
            have q := of_decide_eq_true q
            obtain ⟨e, he⟩ : ∃ e : Nat, e = u.length - 18 * k := ⟨_, rfl⟩
            have he0 : 0 < e := by omega
            have hel : e ≤ u.length := by omega
            refine cw_skip ?_
            refine ew_next ?_
            refine cw_seq ?_
            refine cw_block ?_
            refine cw_seq ?_
            refine cw_region ?_
            refine rs_op rfl (ow_move rfl ?_)
            refine rs_op rfl (ow_move rfl ?_)
            refine rs_op rfl (ow_sub rfl rfl (wrap_i64 (by omega)) ?_)
            refine rs_op rfl (ow_max rfl rfl ?_)
            refine rs_set 65 (.int .i64 ((e - 18 : Nat) : Int)) rfl ((by congr 1; split <;> omega : (.int .i64 (if (u.length : Int) - 18 * (k : Int) - 18 > 0 then (u.length : Int) - 18 * (k : Int) - 18 else 0) : Value) = _)) ?_
            refine rs_op rfl (ow_move rfl ?_)
            refine rs_set 66 (.int .i64 ((e : Nat) : Int)) rfl ((by rw [show (u.length : Int) - 18 * (k : Int) = ((e : Nat) : Int) by omega] : (.int .i64 ((u.length : Int) - 18 * (k : Int)) : Value) = _)) ?_
            refine rs_op rfl (ow_sliceS (l := e - 18) (h := e) Tryd.underlying9 rfl ⟨_, rfl⟩ ⟨_, rfl⟩ (Nat.sub_le _ _) (by rw [ba_size]; exact hel) ?_)
            refine rs_set 67 (.string ⟨((u.take e).drop (e - 18)).toArray⟩) rfl ((by rw [ba_cut] : (.string ((⟨u.toArray⟩ : ByteArray).extract (e - 18) e) : Value) = _)) ?_
            refine rs_op rfl (ow_enter en63 rfl ((parseU _ _ (piece_ne he0 hel) (piece_all hal9 e) (chunk_small hal9 e) (piece_len u e)).mono ?_))
            rintro e w12 ⟨rfl, hb⟩
            refine ⟨_, rfl, ?_⟩
            have XC : ∀ q9, (Mut [((Value.slice A1 k c1).ownBlock), (some gb1)]) q9 → q9 < w11.heap.size := (Mut.grow (Mut.grow Mut.none_ (some_lt Bb1.lt)) (owns_lt Ol))
            have SC := Nat.le_trans LW.size E.size
            have SE := E.size
            have Ec := Ext.of_below hb No
            replace Ol := owns_extN Ol Ec NotIn.nil
            replace Bb1 := Bb1.extN Ec NotIn.nil
            replace E := E.trans Ec.no
            clear hb Ec
            refine rs_op rfl (ow_move rfl ?_)
            refine rs_op rfl (ow_extract rfl rfl ?_)
            refine rs_op rfl (ow_extract rfl rfl ?_)
            refine rs_op rfl (ow_assign rfl ?_)
            refine rs_op rfl (ow_assign rfl ?_)
            refine rs_nil ?_
            refine ew_next ?_
            refine cw_region ?_
            refine rs_op rfl (ow_move rfl ?_)
            refine rs_op rfl (ow_move rfl ?_)
            refine rs_op rfl (ow_buildSlice (cs := #[.int .u64 ((num10 ((u.take e).drop (e - 18)) : Nat) : Int)]) Tryd.underlying22 sz63 zr63 (by decide) rfl (by rw [map_range_]; rfl) ?_)
            intro gb13 w14 Bb13 Eb13 Gb13
            have Db13_l : Apart (some gb13) ((Value.slice A1 k c1).ownBlock) := Apart.of_lt (owns_lt Ol) Gb13
            have Dl_b13 := Db13_l.symm
            have Db13_b1 : Apart (some gb13) (some gb1) := Apart.of_lt (some_lt Bb1.lt) Gb13
            have Db1_b13 := Db13_b1.symm
            have Gb13 : _ ≤ gb13 := Nat.le_trans E.size Gb13
            have GLb13 := Nat.le_trans LW.size Gb13
            replace Ol := owns_extN Ol Eb13 NotIn.nil
            replace Bb1 := Bb1.extN Eb13 NotIn.nil
            replace E := E.trans Eb13.no
            clear Eb13
            replace HF := HF.cons (some_ge Gb13)
            replace E := E.cons (some gb13)
            replace XLW := Mut.grow XLW (fun k e => Or.inr (Nat.le_trans LW.size ((some_ge Gb13) k e)))
            replace XM3 := Mut.grow XM3 (fun k e => Or.inr (Nat.le_trans M3.size ((some_ge Gb13) k e)))
            replace XM7 := Mut.grow XM7 (fun k e => Or.inr (Nat.le_trans M7.size ((some_ge Gb13) k e)))
            replace XM10 := Mut.grow XM10 (fun k e => Or.inr (Nat.le_trans M10.size ((some_ge Gb13) k e)))
            replace HF := HF.on E
            replace LW := LW.step E XLW
            replace M3 := M3.step E XM3
            replace M7 := M7.step E XM7
            replace M10 := M10.step E XM10
            have SB : ∀ q9, Mut [((Value.slice A1 k c1).ownBlock), (some gb1)] q9 → Mut [(some gb13), ((Value.slice A1 k c1).ownBlock), (some gb1)] q9 := (Mut.skip (Mut.keep (Mut.keep Mut.nil_)))
            replace HF := HF.less SB
            replace XLW := fun k h => XLW k (SB k h)
            replace XM3 := fun k h => XM3 k (SB k h)
            replace XM7 := fun k h => XM7 k (SB k h)
            replace XM10 := fun k h => XM10 k (SB k h)
            clear SB
            replace E := Ext.refl (Mut [((Value.slice A1 k c1).ownBlock), (some gb1)]) w14
            replace HF := HF.and (Per.blkN Bb13 (NotIn.cons Db13_l (NotIn.cons Db13_b1 NotIn.nil)))
            clear Bb13
            refine rs_op rfl (ow_append (news := [.int .u64 ((num10 ((u.take e).drop (e - 18)) : Nat) : Int)]) Tryd.underlying22 inf63 rfl (by decide) rfl Ol rfl (reads_row (HF.on E).here.2 ((HF.on E).here.2).lt rfl) (by simp [Value.oneCell']) (by unfold maxLen; omega) (by omega) (by exact Nat.le_trans LW.size E.size) ?_)
            intro v0 w15 On En KN
            obtain ⟨A2, c2, rfl⟩ := owns_shape On
            replace KN : ∀ q9, ((Value.slice A2 (k + 1) c2).ownBlock) = some q9 → ((Value.slice A1 k c1).ownBlock) = some q9 ∨ w14.heap.size ≤ q9 := KN
            have LTb1 := (some_lt Bb1.lt)
            replace Bb1 := Bb1.extN En (NotIn.cons Db1_l NotIn.nil)
            replace Dl_b1 : Apart ((Value.slice A2 (k + 1) c2).ownBlock) (some gb1) := Dl_b1.turn KN LTb1
            replace Db1_l := Dl_b1.symm
            clear LTb1
            have HY : ∀ q9, (Mut [((Value.slice A2 (k + 1) c2).ownBlock), (some gb1)]) q9 → (Mut [((Value.slice A1 k c1).ownBlock), (some gb1)]) q9 ∨ w14.heap.size ≤ q9 := (Mut.grow (Mut.grow Mut.none_ (fun k e => Or.inl ((Mut.tail Mut.head) k e))) (fun k e => (KN k e).elim (fun e => Or.inl (Mut.head k e)) (fun h => Or.inr (Nat.le_trans E.size h))))
            replace KlM10 : ∀ q9, ((Value.slice A2 (k + 1) c2).ownBlock) = some q9 → ((Value.slice none 0 0).ownBlock) = some q9 ∨ w8.heap.size ≤ q9 := fun k e => (KN k e).elim (KlM10 k) (fun h => Or.inr (Nat.le_trans M10.size (Nat.le_trans E.size h)))
            replace E := E.step1 En Mut.head
            replace HF := HF.turn E HY
            have XT := fun q9 (h : (Mut [((Value.slice A2 (k + 1) c2).ownBlock), (some gb1)]) q9) => (HY q9 h).elim (XLW q9) (fun h => Or.inr (Nat.le_trans LW.size h))
            replace LW := LW.step E XLW
            replace XLW := XT
            clear XT
            have XT := fun q9 (h : (Mut [((Value.slice A2 (k + 1) c2).ownBlock), (some gb1)]) q9) => (HY q9 h).elim (XM3 q9) (fun h => Or.inr (Nat.le_trans M3.size h))
            replace M3 := M3.step E XM3
            replace XM3 := XT
            clear XT
            have XT := fun q9 (h : (Mut [((Value.slice A2 (k + 1) c2).ownBlock), (some gb1)]) q9) => (HY q9 h).elim (XM7 q9) (fun h => Or.inr (Nat.le_trans M7.size h))
            replace M7 := M7.step E XM7
            replace XM7 := XT
            clear XT
            have XT := fun q9 (h : (Mut [((Value.slice A2 (k + 1) c2).ownBlock), (some gb1)]) q9) => (HY q9 h).elim (XM10 q9) (fun h => Or.inr (Nat.le_trans M10.size h))
            replace M10 := M10.step E XM10
            replace XM10 := XT
            clear XT
            replace E := Ext.refl (Mut [((Value.slice A2 (k + 1) c2).ownBlock), (some gb1)]) w15
            clear HY
            replace Ol : World.ownsRow w15 w.heap.size 63 1 (.slice A2 (k + 1) c2) (k + 1) ((xs ++ [num10 ((u.take e).drop (e - 18))]).map fun x : Nat => Value.int .u64 (x : Int)) := by
              have e : ((xs.map fun x : Nat => Value.int .u64 (x : Int)) : List Value) ++ ([.int .u64 ((num10 ((u.take e).drop (e - 18)) : Nat) : Int)] : List Value) = (xs ++ [num10 ((u.take e).drop (e - 18))]).map fun x : Nat => Value.int .u64 (x : Int) := by simp
              rw [← e]
              exact On
            clear On KN En
            refine rs_op rfl (ow_assign rfl ?_)
            refine rs_nil ?_
            refine ew_block_normal ?_
            refine ew_next ?_
            refine cw_region ?_
            refine rs_op rfl (ow_move rfl ?_)
            refine rs_op rfl (ow_sub rfl rfl (wrap_i64 (by omega)) ?_)
            refine rs_op rfl (ow_assign rfl ?_)
            refine rs_nil ?_
            refine ew_set 7 (.int .i64 ((u.length : Int) - 18 * ((k + 1 : Nat) : Int))) rfl ((by rw [show (u.length : Int) - 18 * (k : Int) - 18 = (u.length : Int) - 18 * ((k + 1 : Nat) : Int) by omega] : (.int .i64 (((u.length : Int) - 18 * (k : Int)) - 18) : Value) = _)) ?_
            exact ew_round (ι := Nat × List Nat × Option Addr × Nat) (s := fun (k, xs, A1, c1) => [(0, .string ⟨u.toArray⟩), (2, .pointer (some ⟨gb1, 0, none⟩)), (3, .int .i64 0), (4, .bool false), (6, .slice A1 k c1), (7, .int .i64 ((u.length : Int) - 18 * (k : Int)))]) (R := fun (k, xs, A1, c1) w' => Ext (Mut [((Value.slice none 0 0).ownBlock), (some gb1)]) w8 w' ∧ World.ownsRow w' w.heap.size 63 1 (.slice A1 k c1) k (xs.map fun x : Nat => Value.int .u64 (x : Int)) ∧ Blk w' gb1 24 (#[.bool false, .slice none 0 0]) ∧ (∀ q9, ((Value.slice A1 k c1).ownBlock) = some q9 → ((Value.slice none 0 0).ownBlock) = some q9 ∨ w8.heap.size ≤ q9) ∧ (xs.length = k ∧ small B18 xs ∧ val B18 xs = num10 (u.drop (u.length - 18 * k)) ∧ 18 * k ≤ u.length + 17)) (m := fun (k, xs, A1, c1) => u.length + 18 - 18 * k) (i := ⟨k, xs, A1, c1⟩) (k + 1, xs ++ [num10 ((u.take e).drop (e - 18))], A2, c2) (by show u.length + 18 - 18 * (k + 1) < u.length + 18 - 18 * k; omega) ⟨rfl, rfl, rfl, rfl, rfl, rfl, trivial⟩ ⟨M10.step E XM10, (by exact Ol), (by exact Bb1), KlM10, by rw [List.length_append, hk]; rfl, small_snoc hsm (chunk_small hal9 e), by rw [chunk_num hal9 hk (by omega : u.length = e + 18 * k) (by rw [hval, he]), show u.length - 18 * (k + 1) = e - 18 by omega], by omega⟩
          · have _way := True.intro
            have q := of_decide_eq_false q
            have hv9 : val B18 xs = num10 r := by rw [hval, show u.length - 18 * k = 0 by omega, List.drop_zero, hnum]
            have Ol9 := Ol
            have hown : Own w11 w.heap.size A1 c1 xs := ⟨by rw [hk]; exact Ol9, fun x hx => Nat.lt_trans (hsm x hx) (by decide)⟩
            have hform : ∀ w', Nums w' A1 xs → Calls Tryd.prog 49 #[.bool false, .slice A1 k c1] w' (RetBig w' (sgn false (num10 r))) := fun w' h => by
              have h9 := form_any false A1 c1 xs w' h hsm (by omega)
              rwa [hk, hv9] at h9
            replace HF := HF.on E
            replace LW := LW.step E XLW
            replace M3 := M3.step E XM3
            replace M7 := M7.step E XM7
            replace M10 := M10.step E XM10
            have SB : ∀ q9, Mut [(some gb1)] q9 → Mut [((Value.slice A1 k c1).ownBlock), (some gb1)] q9 := (Mut.skip (Mut.keep Mut.nil_))
            replace HF := HF.less SB
            replace XLW := fun k h => XLW k (SB k h)
            replace XM3 := fun k h => XM3 k (SB k h)
            replace XM7 := fun k h => XM7 k (SB k h)
            replace XM10 := fun k h => XM10 k (SB k h)
            clear SB
            replace E := Ext.refl (Mut [(some gb1)]) w11
            replace HF := HF.and (Per.ownsN Ol (NotIn.cons Dl_b1 NotIn.nil))
            clear Ol
            replace HF := HF.on E
            replace LW := LW.step E XLW
            replace M3 := M3.step E XM3
            replace M7 := M7.step E XM7
            replace M10 := M10.step E XM10
            replace E := Ext.refl (Mut [(some gb1)]) w11
            replace HF := HF.and (Per.ownN hown (NotIn.cons (own_apart hown Bb1 (by decide)) NotIn.nil))
            refine cw_exit ?_
            refine ew_then_exit ?_
            refine ew_then_exit ?_
            refine ew_block_here ?_
            refine ew_next ?_
            refine cw_seq ?_
            refine cw_region ?_
            refine rs_op rfl (ow_move rfl ?_)
            refine rs_op rfl (ow_move rfl ?_)
            refine rs_op rfl (ow_enter en49 rfl ((hform _ ((HF.on E).here.2).nums).mono ?_))
            rintro e w16 ⟨A2, c2, rfl, o2, hb⟩
            refine ⟨_, rfl, ?_⟩
            have XC : ∀ q9, (Mut [(some gb1)]) q9 → q9 < w11.heap.size := (Mut.grow Mut.none_ (some_lt Bb1.lt))
            have SC := Nat.le_trans LW.size E.size
            have SE := E.size
            have Ec := Ext.of_below hb No
            replace Bb1 := Bb1.extN Ec NotIn.nil
            replace E := E.trans Ec.no
            clear hb Ec
            have S2 := SC
            replace HF := HF.on E
            replace LW := LW.step E XLW
            replace M3 := M3.step E XM3
            replace M7 := M7.step E XM7
            replace M10 := M10.step E XM10
            replace E := Ext.refl (Mut [(some gb1)]) w16
            replace HF := HF.and (Per.ownN o2 (NotIn.cons (own_apart o2 Bb1 (by decide)) NotIn.nil))
            refine rs_op0 (ow_storeM sz24 rfl rfl Bb1 rfl rfl (Nat.le_of_ble_eq_true rfl) ?_)
            intro w17 Bx Eb1
            replace Bb1 := Bx
            clear Bx
            replace E := E.step1 Eb1 Mut.head
            clear Eb1
            replace HF := HF.on E
            replace LW := LW.step E XLW
            replace M3 := M3.step E XM3
            replace M7 := M7.step E XM7
            replace M10 := M10.step E XM10
            have SB : ∀ q9, No q9 → Mut [(some gb1)] q9 := (Mut.skip Mut.nil_)
            replace HF := HF.less SB
            replace XLW := fun k h => XLW k (SB k h)
            replace XM3 := fun k h => XM3 k (SB k h)
            replace XM7 := fun k h => XM7 k (SB k h)
            replace XM10 := fun k h => XM10 k (SB k h)
            clear SB
            replace E := Ext.refl (No) w17
            replace HF := HF.and (Per.blkN Bb1 NotIn.nil)
            clear Bb1
            refine rs_op rfl (ow_assign rfl ?_)
            refine rs_nil ?_
            refine ew_next ?_
            refine cw_ret ?_
            refine ew_ret (rs := [.cell 2 24, .tmp 3]) (vs := [_, _]) rfl ⟨⟨_, rfl, res_box Tryd.underlying24 rfl sz24 (HF.on E).here.2 rfl⟩, rfl, trivial⟩ ?_
            exact by rw [e1, e2]; exact ⟨A2, c2, rfl, ((HF.on E).here.1.2).mono S2, (LW.step E XLW).toBelow⟩
    · have _way := True.intro
      have h := of_decide_eq_false h
      have hu0 : u = [] := by cases u with | nil => rfl | cons b u2 => simp at h
      refine rs_op rfl (ow_off rfl ?_)
      refine rs_op rfl (ow_off rfl ?_)
      refine rs_op rfl (ow_off rfl ?_)
      refine rs_op rfl (ow_pickF rfl rfl ?_)
      refine rs_nil ?_
      refine ew_next ?_
      refine cw_else rfl ?_
      refine cw_exit ?_
      refine ew_then_exit ?_
      refine ew_then_exit ?_
      refine ew_block_here ?_
      refine ew_next ?_
      refine cw_seq ?_
      refine cw_seq ?_
      refine cw_region ?_
      refine rs_op rfl (ow_move rfl ?_)
      refine rs_op rfl (ow_lenS Tryd.underlying9 rfl ?_)
      refine rs_op rfl (ow_gtr rfl rfl ?_)
      refine rs_nil ?_
      refine ew_next ?_
      have hstr : strip r = u := by rw [← hu1]; exact by rw [hu0]; rfl
      have hal9 := strip_all hall
      rw [hstr] at hal9
      have hln9 := strip_len hall
      rw [hstr] at hln9
      have hnum : num10 u = num10 r := by rw [← hstr, strip_num]
      refine cw_set 53 (.bool (decide ((540 : Int) < ((u.length : Nat) : Int)))) rfl (by rw [ba_size]) ?_
      refine cw_cond rfl (fun h3 => ?_) (fun h3 => ?_)
      · have _way := True.intro
        have h3 := of_decide_eq_true h3
        have e1 : textE r = 2 := by unfold textE; rw [if_pos ⟨hr, hall⟩, if_neg (by omega)]
        have e2 : textV false r = 0 := by unfold textV; rw [if_neg (by rintro ⟨_, _, h⟩; omega)]
        refine cw_seq ?_
        refine cw_region ?_
        refine rs_op rfl (ow_build (cs := #[.bool false, .slice none 0 0]) pl24 zr24 rfl rfl ?_)
        refine rs_op0 (ow_storeM sz24 rfl rfl Bb1 rfl rfl (Nat.le_of_ble_eq_true rfl) ?_)
        intro w18 Bx Eb1
        replace Bb1 := Bx
        clear Bx
        replace E := E.step1 Eb1 Mut.head
        clear Eb1
        refine rs_op rfl (ow_assign rfl ?_)
        refine rs_nil ?_
        refine ew_next ?_
        refine cw_ret ?_
        refine ew_then_ret ?_
        refine ew_ret (rs := [.cell 2 24, .tmp 3]) (vs := [_, _]) rfl ⟨⟨_, rfl, res_box Tryd.underlying24 rfl sz24 Bb1 rfl⟩, rfl, trivial⟩ ?_
        exact by rw [e1, e2]; exact retErr_zero (LW.step E XLW).toBelow
      · have _way := True.intro
        have h3 := of_decide_eq_false h3
        have e1 : textE r = 0 := by unfold textE; rw [if_pos ⟨hr, hall⟩, if_pos (by omega)]
        have e2 : textV false r = sgn false (num10 r) := by unfold textV; rw [if_pos ⟨hr, hall, by omega⟩]
        refine cw_skip ?_
        refine ew_next ?_
        refine cw_seq ?_
        refine cw_region ?_
        refine rs_op rfl (ow_assign rfl ?_)
        refine rs_nil ?_
        refine ew_next ?_
        refine cw_seq ?_
        refine cw_seq ?_
        refine cw_region ?_
        refine rs_op rfl (ow_move rfl ?_)
        refine rs_op rfl (ow_lenS Tryd.underlying9 rfl ?_)
        refine rs_op rfl (ow_assign rfl ?_)
        refine rs_nil ?_
        refine ew_next ?_
        refine cw_block ?_
        have Ol : World.ownsRow w8 w.heap.size 63 1 (.slice none 0 0) 0 ([]) := owns_nil
        have Dl_b1 : Apart ((Value.slice none 0 0).ownBlock) (some gb1) := fun _ e => by cases e
        have Db1_l := Dl_b1.symm
        replace HF := HF.cons (nil_no)
        replace E := E.cons ((Value.slice none 0 0).ownBlock)
        replace XLW := Mut.grow XLW (fun k e => Or.inr (Nat.le_trans LW.size ((nil_no) k e)))
        replace XM3 := Mut.grow XM3 (fun k e => Or.inr (Nat.le_trans M3.size ((nil_no) k e)))
        replace XM7 := Mut.grow XM7 (fun k e => Or.inr (Nat.le_trans M7.size ((nil_no) k e)))
        refine cw_set 7 (.int .i64 ((u.length : Int) - 18 * ((0 : Nat) : Int))) rfl (by rw [ba_size]; simp) ?_
        replace HF := HF.on E
        replace LW := LW.step E XLW
        replace M3 := M3.step E XM3
        replace M7 := M7.step E XM7
        replace E := Ext.refl (Mut [((Value.slice none 0 0).ownBlock), (some gb1)]) w8
        refine cw_loop (ι := Nat × List Nat × Option Addr × Nat) (fun (k, xs, A1, c1) => [(0, .string ⟨u.toArray⟩), (2, .pointer (some ⟨gb1, 0, none⟩)), (3, .int .i64 0), (4, .bool false), (6, .slice A1 k c1), (7, .int .i64 ((u.length : Int) - 18 * (k : Int)))]) (fun (k, xs, A1, c1) w' => Ext (Mut [((Value.slice none 0 0).ownBlock), (some gb1)]) w8 w' ∧ World.ownsRow w' w.heap.size 63 1 (.slice A1 k c1) k (xs.map fun x : Nat => Value.int .u64 (x : Int)) ∧ Blk w' gb1 24 (#[.bool false, .slice none 0 0]) ∧ (∀ q9, ((Value.slice A1 k c1).ownBlock) = some q9 → ((Value.slice none 0 0).ownBlock) = some q9 ∨ w8.heap.size ≤ q9) ∧ (xs.length = k ∧ small B18 xs ∧ val B18 xs = num10 (u.drop (u.length - 18 * k)) ∧ 18 * k ≤ u.length + 17)) (fun (k, xs, A1, c1) => u.length + 18 - 18 * k) (0, [], none, 0) ⟨rfl, rfl, rfl, rfl, rfl, rfl, trivial⟩ ⟨Ext.refl _ _, (by exact Ol), (by exact Bb1), (fun _ e => Or.inl e), ⟨rfl, small_nil, by rw [Nat.mul_zero, Nat.sub_zero, List.drop_length]; rfl, by omega⟩⟩ ?_
        have LTl := (owns_lt Ol)
        have LTb1 := (some_lt Bb1.lt)
        clear Ol
        clear Bb1
        rintro ⟨k, xs, A1, c1⟩ w20 ⟨M19, Ol, Bb1, KlM19, ⟨hk, hsm, hval, hkl⟩⟩
        replace Dl_b1 : Apart ((Value.slice A1 k c1).ownBlock) (some gb1) := Dl_b1.turn KlM19 LTb1
        replace Db1_l := Dl_b1.symm
        have XM19 : ∀ q9, (Mut [((Value.slice A1 k c1).ownBlock), (some gb1)]) q9 → (Mut [((Value.slice none 0 0).ownBlock), (some gb1)]) q9 ∨ w8.heap.size ≤ q9 := (Mut.grow (Mut.grow Mut.none_ (fun k e => Or.inl ((Mut.tail Mut.head) k e))) (fun k e => (KlM19 k e).elim (fun e => Or.inl (Mut.head k e)) Or.inr))
        replace E := E.trans M19
        replace HF := HF.turn E XM19
        have XT := fun q9 (h : (Mut [((Value.slice A1 k c1).ownBlock), (some gb1)]) q9) => (XM19 q9 h).elim (XLW q9) (fun h => Or.inr (Nat.le_trans LW.size h))
        replace LW := LW.step E XLW
        replace XLW := XT
        clear XT
        have XT := fun q9 (h : (Mut [((Value.slice A1 k c1).ownBlock), (some gb1)]) q9) => (XM19 q9 h).elim (XM3 q9) (fun h => Or.inr (Nat.le_trans M3.size h))
        replace M3 := M3.step E XM3
        replace XM3 := XT
        clear XT
        have XT := fun q9 (h : (Mut [((Value.slice A1 k c1).ownBlock), (some gb1)]) q9) => (XM19 q9 h).elim (XM7 q9) (fun h => Or.inr (Nat.le_trans M7.size h))
        replace M7 := M7.step E XM7
        replace XM7 := XT
        clear XT
        replace E := Ext.refl (Mut [((Value.slice A1 k c1).ownBlock), (some gb1)]) w20
        clear LTl
        clear LTb1
        refine cw_seq ?_
        refine cw_seq ?_
        refine cw_region ?_
        refine rs_op rfl (ow_move rfl ?_)
        refine rs_op rfl (ow_gtr rfl rfl ?_)
        refine rs_nil ?_
        refine ew_next ?_
        refine cw_cond rfl (fun q => ?_) (fun q => ?_)
        · have _way := True.intro
          have q := of_decide_eq_true q
          obtain ⟨e, he⟩ : ∃ e : Nat, e = u.length - 18 * k := ⟨_, rfl⟩
          have he0 : 0 < e := by omega
          have hel : e ≤ u.length := by omega
          refine cw_skip ?_
          refine ew_next ?_
          refine cw_seq ?_
          refine cw_block ?_
          refine cw_seq ?_
          refine cw_region ?_
          refine rs_op rfl (ow_move rfl ?_)
          refine rs_op rfl (ow_move rfl ?_)
          refine rs_op rfl (ow_sub rfl rfl (wrap_i64 (by omega)) ?_)
          refine rs_op rfl (ow_max rfl rfl ?_)
          refine rs_set 65 (.int .i64 ((e - 18 : Nat) : Int)) rfl ((by congr 1; split <;> omega : (.int .i64 (if (u.length : Int) - 18 * (k : Int) - 18 > 0 then (u.length : Int) - 18 * (k : Int) - 18 else 0) : Value) = _)) ?_
          refine rs_op rfl (ow_move rfl ?_)
          refine rs_set 66 (.int .i64 ((e : Nat) : Int)) rfl ((by rw [show (u.length : Int) - 18 * (k : Int) = ((e : Nat) : Int) by omega] : (.int .i64 ((u.length : Int) - 18 * (k : Int)) : Value) = _)) ?_
          refine rs_op rfl (ow_sliceS (l := e - 18) (h := e) Tryd.underlying9 rfl ⟨_, rfl⟩ ⟨_, rfl⟩ (Nat.sub_le _ _) (by rw [ba_size]; exact hel) ?_)
          refine rs_set 67 (.string ⟨((u.take e).drop (e - 18)).toArray⟩) rfl ((by rw [ba_cut] : (.string ((⟨u.toArray⟩ : ByteArray).extract (e - 18) e) : Value) = _)) ?_
          refine rs_op rfl (ow_enter en63 rfl ((parseU _ _ (piece_ne he0 hel) (piece_all hal9 e) (chunk_small hal9 e) (piece_len u e)).mono ?_))
          rintro e w21 ⟨rfl, hb⟩
          refine ⟨_, rfl, ?_⟩
          have XC : ∀ q9, (Mut [((Value.slice A1 k c1).ownBlock), (some gb1)]) q9 → q9 < w20.heap.size := (Mut.grow (Mut.grow Mut.none_ (some_lt Bb1.lt)) (owns_lt Ol))
          have SC := Nat.le_trans LW.size E.size
          have SE := E.size
          have Ec := Ext.of_below hb No
          replace Ol := owns_extN Ol Ec NotIn.nil
          replace Bb1 := Bb1.extN Ec NotIn.nil
          replace E := E.trans Ec.no
          clear hb Ec
          refine rs_op rfl (ow_move rfl ?_)
          refine rs_op rfl (ow_extract rfl rfl ?_)
          refine rs_op rfl (ow_extract rfl rfl ?_)
          refine rs_op rfl (ow_assign rfl ?_)
          refine rs_op rfl (ow_assign rfl ?_)
          refine rs_nil ?_
          refine ew_next ?_
          refine cw_region ?_
          refine rs_op rfl (ow_move rfl ?_)
          refine rs_op rfl (ow_move rfl ?_)
          refine rs_op rfl (ow_buildSlice (cs := #[.int .u64 ((num10 ((u.take e).drop (e - 18)) : Nat) : Int)]) Tryd.underlying22 sz63 zr63 (by decide) rfl (by rw [map_range_]; rfl) ?_)
          intro gb22 w23 Bb22 Eb22 Gb22
          have Db22_l : Apart (some gb22) ((Value.slice A1 k c1).ownBlock) := Apart.of_lt (owns_lt Ol) Gb22
          have Dl_b22 := Db22_l.symm
          have Db22_b1 : Apart (some gb22) (some gb1) := Apart.of_lt (some_lt Bb1.lt) Gb22
          have Db1_b22 := Db22_b1.symm
          have Gb22 : _ ≤ gb22 := Nat.le_trans E.size Gb22
          have GLb22 := Nat.le_trans LW.size Gb22
          replace Ol := owns_extN Ol Eb22 NotIn.nil
          replace Bb1 := Bb1.extN Eb22 NotIn.nil
          replace E := E.trans Eb22.no
          clear Eb22
          replace HF := HF.cons (some_ge Gb22)
          replace E := E.cons (some gb22)
          replace XLW := Mut.grow XLW (fun k e => Or.inr (Nat.le_trans LW.size ((some_ge Gb22) k e)))
          replace XM3 := Mut.grow XM3 (fun k e => Or.inr (Nat.le_trans M3.size ((some_ge Gb22) k e)))
          replace XM7 := Mut.grow XM7 (fun k e => Or.inr (Nat.le_trans M7.size ((some_ge Gb22) k e)))
          replace XM19 := Mut.grow XM19 (fun k e => Or.inr (Nat.le_trans M19.size ((some_ge Gb22) k e)))
          replace HF := HF.on E
          replace LW := LW.step E XLW
          replace M3 := M3.step E XM3
          replace M7 := M7.step E XM7
          replace M19 := M19.step E XM19
          have SB : ∀ q9, Mut [((Value.slice A1 k c1).ownBlock), (some gb1)] q9 → Mut [(some gb22), ((Value.slice A1 k c1).ownBlock), (some gb1)] q9 := (Mut.skip (Mut.keep (Mut.keep Mut.nil_)))
          replace HF := HF.less SB
          replace XLW := fun k h => XLW k (SB k h)
          replace XM3 := fun k h => XM3 k (SB k h)
          replace XM7 := fun k h => XM7 k (SB k h)
          replace XM19 := fun k h => XM19 k (SB k h)
          clear SB
          replace E := Ext.refl (Mut [((Value.slice A1 k c1).ownBlock), (some gb1)]) w23
          replace HF := HF.and (Per.blkN Bb22 (NotIn.cons Db22_l (NotIn.cons Db22_b1 NotIn.nil)))
          clear Bb22
          refine rs_op rfl (ow_append (news := [.int .u64 ((num10 ((u.take e).drop (e - 18)) : Nat) : Int)]) Tryd.underlying22 inf63 rfl (by decide) rfl Ol rfl (reads_row (HF.on E).here.2 ((HF.on E).here.2).lt rfl) (by simp [Value.oneCell']) (by unfold maxLen; omega) (by omega) (by exact Nat.le_trans LW.size E.size) ?_)
          intro v0 w24 On En KN
          obtain ⟨A2, c2, rfl⟩ := owns_shape On
          replace KN : ∀ q9, ((Value.slice A2 (k + 1) c2).ownBlock) = some q9 → ((Value.slice A1 k c1).ownBlock) = some q9 ∨ w23.heap.size ≤ q9 := KN
          have LTb1 := (some_lt Bb1.lt)
          replace Bb1 := Bb1.extN En (NotIn.cons Db1_l NotIn.nil)
          replace Dl_b1 : Apart ((Value.slice A2 (k + 1) c2).ownBlock) (some gb1) := Dl_b1.turn KN LTb1
          replace Db1_l := Dl_b1.symm
          clear LTb1
          have HY : ∀ q9, (Mut [((Value.slice A2 (k + 1) c2).ownBlock), (some gb1)]) q9 → (Mut [((Value.slice A1 k c1).ownBlock), (some gb1)]) q9 ∨ w23.heap.size ≤ q9 := (Mut.grow (Mut.grow Mut.none_ (fun k e => Or.inl ((Mut.tail Mut.head) k e))) (fun k e => (KN k e).elim (fun e => Or.inl (Mut.head k e)) (fun h => Or.inr (Nat.le_trans E.size h))))
          replace KlM19 : ∀ q9, ((Value.slice A2 (k + 1) c2).ownBlock) = some q9 → ((Value.slice none 0 0).ownBlock) = some q9 ∨ w8.heap.size ≤ q9 := fun k e => (KN k e).elim (KlM19 k) (fun h => Or.inr (Nat.le_trans M19.size (Nat.le_trans E.size h)))
          replace E := E.step1 En Mut.head
          replace HF := HF.turn E HY
          have XT := fun q9 (h : (Mut [((Value.slice A2 (k + 1) c2).ownBlock), (some gb1)]) q9) => (HY q9 h).elim (XLW q9) (fun h => Or.inr (Nat.le_trans LW.size h))
          replace LW := LW.step E XLW
          replace XLW := XT
          clear XT
          have XT := fun q9 (h : (Mut [((Value.slice A2 (k + 1) c2).ownBlock), (some gb1)]) q9) => (HY q9 h).elim (XM3 q9) (fun h => Or.inr (Nat.le_trans M3.size h))
          replace M3 := M3.step E XM3
          replace XM3 := XT
          clear XT
          have XT := fun q9 (h : (Mut [((Value.slice A2 (k + 1) c2).ownBlock), (some gb1)]) q9) => (HY q9 h).elim (XM7 q9) (fun h => Or.inr (Nat.le_trans M7.size h))
          replace M7 := M7.step E XM7
          replace XM7 := XT
          clear XT
          have XT := fun q9 (h : (Mut [((Value.slice A2 (k + 1) c2).ownBlock), (some gb1)]) q9) => (HY q9 h).elim (XM19 q9) (fun h => Or.inr (Nat.le_trans M19.size h))
          replace M19 := M19.step E XM19
          replace XM19 := XT
          clear XT
          replace E := Ext.refl (Mut [((Value.slice A2 (k + 1) c2).ownBlock), (some gb1)]) w24
          clear HY
          replace Ol : World.ownsRow w24 w.heap.size 63 1 (.slice A2 (k + 1) c2) (k + 1) ((xs ++ [num10 ((u.take e).drop (e - 18))]).map fun x : Nat => Value.int .u64 (x : Int)) := by
            have e : ((xs.map fun x : Nat => Value.int .u64 (x : Int)) : List Value) ++ ([.int .u64 ((num10 ((u.take e).drop (e - 18)) : Nat) : Int)] : List Value) = (xs ++ [num10 ((u.take e).drop (e - 18))]).map fun x : Nat => Value.int .u64 (x : Int) := by simp
            rw [← e]
            exact On
          clear On KN En
          refine rs_op rfl (ow_assign rfl ?_)
          refine rs_nil ?_
          refine ew_block_normal ?_
          refine ew_next ?_
          refine cw_region ?_
          refine rs_op rfl (ow_move rfl ?_)
          refine rs_op rfl (ow_sub rfl rfl (wrap_i64 (by omega)) ?_)
          refine rs_op rfl (ow_assign rfl ?_)
          refine rs_nil ?_
          refine ew_set 7 (.int .i64 ((u.length : Int) - 18 * ((k + 1 : Nat) : Int))) rfl ((by rw [show (u.length : Int) - 18 * (k : Int) - 18 = (u.length : Int) - 18 * ((k + 1 : Nat) : Int) by omega] : (.int .i64 (((u.length : Int) - 18 * (k : Int)) - 18) : Value) = _)) ?_
          exact ew_round (ι := Nat × List Nat × Option Addr × Nat) (s := fun (k, xs, A1, c1) => [(0, .string ⟨u.toArray⟩), (2, .pointer (some ⟨gb1, 0, none⟩)), (3, .int .i64 0), (4, .bool false), (6, .slice A1 k c1), (7, .int .i64 ((u.length : Int) - 18 * (k : Int)))]) (R := fun (k, xs, A1, c1) w' => Ext (Mut [((Value.slice none 0 0).ownBlock), (some gb1)]) w8 w' ∧ World.ownsRow w' w.heap.size 63 1 (.slice A1 k c1) k (xs.map fun x : Nat => Value.int .u64 (x : Int)) ∧ Blk w' gb1 24 (#[.bool false, .slice none 0 0]) ∧ (∀ q9, ((Value.slice A1 k c1).ownBlock) = some q9 → ((Value.slice none 0 0).ownBlock) = some q9 ∨ w8.heap.size ≤ q9) ∧ (xs.length = k ∧ small B18 xs ∧ val B18 xs = num10 (u.drop (u.length - 18 * k)) ∧ 18 * k ≤ u.length + 17)) (m := fun (k, xs, A1, c1) => u.length + 18 - 18 * k) (i := ⟨k, xs, A1, c1⟩) (k + 1, xs ++ [num10 ((u.take e).drop (e - 18))], A2, c2) (by show u.length + 18 - 18 * (k + 1) < u.length + 18 - 18 * k; omega) ⟨rfl, rfl, rfl, rfl, rfl, rfl, trivial⟩ ⟨M19.step E XM19, (by exact Ol), (by exact Bb1), KlM19, by rw [List.length_append, hk]; rfl, small_snoc hsm (chunk_small hal9 e), by rw [chunk_num hal9 hk (by omega : u.length = e + 18 * k) (by rw [hval, he]), show u.length - 18 * (k + 1) = e - 18 by omega], by omega⟩
        · have _way := True.intro
          have q := of_decide_eq_false q
          have hv9 : val B18 xs = num10 r := by rw [hval, show u.length - 18 * k = 0 by omega, List.drop_zero, hnum]
          have Ol9 := Ol
          have hown : Own w20 w.heap.size A1 c1 xs := ⟨by rw [hk]; exact Ol9, fun x hx => Nat.lt_trans (hsm x hx) (by decide)⟩
          have hform : ∀ w', Nums w' A1 xs → Calls Tryd.prog 49 #[.bool false, .slice A1 k c1] w' (RetBig w' (sgn false (num10 r))) := fun w' h => by
            have h9 := form_any false A1 c1 xs w' h hsm (by omega)
            rwa [hk, hv9] at h9
          replace HF := HF.on E
          replace LW := LW.step E XLW
          replace M3 := M3.step E XM3
          replace M7 := M7.step E XM7
          replace M19 := M19.step E XM19
          have SB : ∀ q9, Mut [(some gb1)] q9 → Mut [((Value.slice A1 k c1).ownBlock), (some gb1)] q9 := (Mut.skip (Mut.keep Mut.nil_))
          replace HF := HF.less SB
          replace XLW := fun k h => XLW k (SB k h)
          replace XM3 := fun k h => XM3 k (SB k h)
          replace XM7 := fun k h => XM7 k (SB k h)
          replace XM19 := fun k h => XM19 k (SB k h)
          clear SB
          replace E := Ext.refl (Mut [(some gb1)]) w20
          replace HF := HF.and (Per.ownsN Ol (NotIn.cons Dl_b1 NotIn.nil))
          clear Ol
          replace HF := HF.on E
          replace LW := LW.step E XLW
          replace M3 := M3.step E XM3
          replace M7 := M7.step E XM7
          replace M19 := M19.step E XM19
          replace E := Ext.refl (Mut [(some gb1)]) w20
          replace HF := HF.and (Per.ownN hown (NotIn.cons (own_apart hown Bb1 (by decide)) NotIn.nil))
          refine cw_exit ?_
          refine ew_then_exit ?_
          refine ew_then_exit ?_
          refine ew_block_here ?_
          refine ew_next ?_
          refine cw_seq ?_
          refine cw_region ?_
          refine rs_op rfl (ow_move rfl ?_)
          refine rs_op rfl (ow_move rfl ?_)
          refine rs_op rfl (ow_enter en49 rfl ((hform _ ((HF.on E).here.2).nums).mono ?_))
          rintro e w25 ⟨A2, c2, rfl, o2, hb⟩
          refine ⟨_, rfl, ?_⟩
          have XC : ∀ q9, (Mut [(some gb1)]) q9 → q9 < w20.heap.size := (Mut.grow Mut.none_ (some_lt Bb1.lt))
          have SC := Nat.le_trans LW.size E.size
          have SE := E.size
          have Ec := Ext.of_below hb No
          replace Bb1 := Bb1.extN Ec NotIn.nil
          replace E := E.trans Ec.no
          clear hb Ec
          have S2 := SC
          replace HF := HF.on E
          replace LW := LW.step E XLW
          replace M3 := M3.step E XM3
          replace M7 := M7.step E XM7
          replace M19 := M19.step E XM19
          replace E := Ext.refl (Mut [(some gb1)]) w25
          replace HF := HF.and (Per.ownN o2 (NotIn.cons (own_apart o2 Bb1 (by decide)) NotIn.nil))
          refine rs_op0 (ow_storeM sz24 rfl rfl Bb1 rfl rfl (Nat.le_of_ble_eq_true rfl) ?_)
          intro w26 Bx Eb1
          replace Bb1 := Bx
          clear Bx
          replace E := E.step1 Eb1 Mut.head
          clear Eb1
          replace HF := HF.on E
          replace LW := LW.step E XLW
          replace M3 := M3.step E XM3
          replace M7 := M7.step E XM7
          replace M19 := M19.step E XM19
          have SB : ∀ q9, No q9 → Mut [(some gb1)] q9 := (Mut.skip Mut.nil_)
          replace HF := HF.less SB
          replace XLW := fun k h => XLW k (SB k h)
          replace XM3 := fun k h => XM3 k (SB k h)
          replace XM7 := fun k h => XM7 k (SB k h)
          replace XM19 := fun k h => XM19 k (SB k h)
          clear SB
          replace E := Ext.refl (No) w26
          replace HF := HF.and (Per.blkN Bb1 NotIn.nil)
          clear Bb1
          refine rs_op rfl (ow_assign rfl ?_)
          refine rs_nil ?_
          refine ew_next ?_
          refine cw_ret ?_
          refine ew_ret (rs := [.cell 2 24, .tmp 3]) (vs := [_, _]) rfl ⟨⟨_, rfl, res_box Tryd.underlying24 rfl sz24 (HF.on E).here.2 rfl⟩, rfl, trivial⟩ ?_
          exact by rw [e1, e2]; exact ⟨A2, c2, rfl, ((HF.on E).here.1.2).mono S2, (LW.step E XLW).toBelow⟩
end
section
variable (w : World)
theorem parse_empty (neg : Bool) : Calls Tryd.prog 45 #[.string ⟨(if neg then [45] else [] : List UInt8).toArray⟩] w (RetBigErr w 0 4) := by
  cases neg
  · show Calls Tryd.prog 45 #[.string ⟨#[]⟩] w (RetBigErr w 0 4)
    refine calls_cw Tryd.func45 rfl Tryd.ntmps45 rfl ?_
    have HF : Per No w (fun _ => True) := Per.true_
    have LW := Ext.refl (No) w
    have XLW : ∀ q9, (No) q9 → (No) q9 ∨ w.heap.size ≤ q9 := fun _ h => Or.inl h
    have E := Ext.refl No w
    refine cw_seq ?_
    refine cw_region ?_
    refine rs_op rfl (ow_allocB zr24 ?_)
    intro gb1 w2 Bb1 Eb1 Gb1
    have Gb1 : _ ≤ gb1 := Nat.le_trans E.size Gb1
    have GLb1 := Nat.le_trans LW.size Gb1
    replace E := E.trans Eb1.no
    clear Eb1
    replace HF := HF.cons (some_ge Gb1)
    replace E := E.cons (some gb1)
    replace XLW := Mut.grow XLW (fun k e => Or.inr (Nat.le_trans LW.size ((some_ge Gb1) k e)))
    refine rs_op rfl (ow_assign rfl ?_)
    refine rs_nil ?_
    refine ew_next ?_
    refine cw_seq ?_
    refine cw_region ?_
    refine rs_op rfl (ow_move rfl ?_)
    refine rs_op rfl (ow_lenS Tryd.underlying9 rfl ?_)
    refine rs_op rfl (ow_gtr rfl rfl ?_)
    refine rs_op rfl (ow_move rfl ?_)
    refine rs_set 13 (.bool false) rfl (by rfl) ?_
    refine rs_op rfl (ow_off rfl ?_)
    refine rs_op rfl (ow_off rfl ?_)
    refine rs_op rfl (ow_off rfl ?_)
    refine rs_op rfl (ow_pickF rfl rfl ?_)
    refine rs_op rfl (ow_assign rfl ?_)
    refine rs_nil ?_
    refine ew_next ?_
    refine cw_seq ?_
    refine cw_seq ?_
    refine cw_region ?_
    refine rs_op rfl (ow_move rfl ?_)
    refine rs_nil ?_
    refine ew_next ?_
    refine cw_else rfl ?_
    refine cw_skip ?_
    refine ew_next ?_
    refine cw_seq ?_
    refine cw_seq ?_
    refine cw_region ?_
    refine rs_op rfl (ow_move rfl ?_)
    refine rs_op rfl (ow_eqlS rfl rfl ?_)
    refine rs_nil ?_
    refine ew_next ?_
    refine cw_set 22 (.bool true) rfl (by rw [beq_self_eq_true]) ?_
    refine cw_then rfl ?_
    refine cw_seq ?_
    refine cw_region ?_
    refine rs_op rfl (ow_build (cs := #[.bool false, .slice none 0 0]) pl24 zr24 rfl rfl ?_)
    refine rs_op0 (ow_storeM sz24 rfl rfl Bb1 rfl rfl (Nat.le_of_ble_eq_true rfl) ?_)
    intro w3 Bx Eb1
    replace Bb1 := Bx
    clear Bx
    replace E := E.step1 Eb1 Mut.head
    clear Eb1
    refine rs_op rfl (ow_assign rfl ?_)
    refine rs_nil ?_
    refine ew_next ?_
    refine cw_ret ?_
    refine ew_then_ret ?_
    refine ew_ret (rs := [.cell 2 24, .tmp 3]) (vs := [_, _]) rfl ⟨⟨_, rfl, res_box Tryd.underlying24 rfl sz24 Bb1 rfl⟩, rfl, trivial⟩ ?_
    exact retErr_zero (LW.step E XLW).toBelow
  · show Calls Tryd.prog 45 #[.string ⟨#[45]⟩] w (RetBigErr w 0 4)
    have hat0 : (⟨#[45]⟩ : ByteArray)[0]? = some 45 := rfl
    refine calls_cw Tryd.func45 rfl Tryd.ntmps45 rfl ?_
    have HF : Per No w (fun _ => True) := Per.true_
    have LW := Ext.refl (No) w
    have XLW : ∀ q9, (No) q9 → (No) q9 ∨ w.heap.size ≤ q9 := fun _ h => Or.inl h
    have E := Ext.refl No w
    refine cw_seq ?_
    refine cw_region ?_
    refine rs_op rfl (ow_allocB zr24 ?_)
    intro gb1 w2 Bb1 Eb1 Gb1
    have Gb1 : _ ≤ gb1 := Nat.le_trans E.size Gb1
    have GLb1 := Nat.le_trans LW.size Gb1
    replace E := E.trans Eb1.no
    clear Eb1
    replace HF := HF.cons (some_ge Gb1)
    replace E := E.cons (some gb1)
    replace XLW := Mut.grow XLW (fun k e => Or.inr (Nat.le_trans LW.size ((some_ge Gb1) k e)))
    refine rs_op rfl (ow_assign rfl ?_)
    refine rs_nil ?_
    refine ew_next ?_
    refine cw_seq ?_
    refine cw_region ?_
    refine rs_op rfl (ow_move rfl ?_)
    refine rs_op rfl (ow_lenS Tryd.underlying9 rfl ?_)
    refine rs_op rfl (ow_gtr rfl rfl ?_)
    refine rs_op rfl (ow_move rfl ?_)
    refine rs_set 13 (.bool true) rfl (by rfl) ?_
    refine rs_op rfl (ow_on rfl (ow_move rfl ?_))
    refine rs_op rfl (ow_on rfl (ow_indexS (j := 0) Tryd.underlying9 rfl rfl rfl hat0 ?_))
    refine rs_op rfl (ow_on rfl (ow_eql rfl rfl ?_))
    refine rs_op rfl (ow_pickT rfl rfl ?_)
    refine rs_op rfl (ow_assign rfl ?_)
    refine rs_nil ?_
    refine ew_next ?_
    refine cw_seq ?_
    refine cw_seq ?_
    refine cw_region ?_
    refine rs_op rfl (ow_move rfl ?_)
    refine rs_nil ?_
    refine ew_next ?_
    refine cw_then rfl ?_
    refine cw_region ?_
    refine rs_op rfl (ow_move rfl ?_)
    refine rs_op rfl (ow_sliceS (l := 1) (h := 1) Tryd.underlying9 rfl ⟨_, rfl⟩ rfl (Nat.le_refl _) (Nat.le_refl _) ?_)
    refine rs_set 20 (.string ⟨#[]⟩) rfl ((by rfl : (.string ((⟨#[45]⟩ : ByteArray).extract 1 1) : Value) = _)) ?_
    refine rs_op rfl (ow_assign rfl ?_)
    refine rs_nil ?_
    refine ew_next ?_
    refine cw_seq ?_
    refine cw_seq ?_
    refine cw_region ?_
    refine rs_op rfl (ow_move rfl ?_)
    refine rs_op rfl (ow_eqlS rfl rfl ?_)
    refine rs_nil ?_
    refine ew_next ?_
    refine cw_set 22 (.bool true) rfl (by rw [beq_self_eq_true]) ?_
    refine cw_then rfl ?_
    refine cw_seq ?_
    refine cw_region ?_
    refine rs_op rfl (ow_build (cs := #[.bool false, .slice none 0 0]) pl24 zr24 rfl rfl ?_)
    refine rs_op0 (ow_storeM sz24 rfl rfl Bb1 rfl rfl (Nat.le_of_ble_eq_true rfl) ?_)
    intro w3 Bx Eb1
    replace Bb1 := Bx
    clear Bx
    replace E := E.step1 Eb1 Mut.head
    clear Eb1
    refine rs_op rfl (ow_assign rfl ?_)
    refine rs_nil ?_
    refine ew_next ?_
    refine cw_ret ?_
    refine ew_then_ret ?_
    refine ew_ret (rs := [.cell 2 24, .tmp 3]) (vs := [_, _]) rfl ⟨⟨_, rfl, res_box Tryd.underlying24 rfl sz24 Bb1 rfl⟩, rfl, trivial⟩ ?_
    exact retErr_zero (LW.step E XLW).toBelow
end
/-- Parse, of any text: the number that it spells, or the error's number. -/
theorem parse_any (s : ByteArray) (w : World) (hs : s.size ≤ 140737488355328) : Calls Tryd.prog 45 #[.string s] w (RetBigErr w (textV (textN s.data.toList) (textR s.data.toList)) (textE (textR s.data.toList))) := by
  obtain ⟨bs, rfl⟩ : ∃ bs : List UInt8, s = ⟨bs.toArray⟩ := ⟨s.data.toList, by cases s; simp⟩
  rw [ba_size] at hs
  show Calls _ _ _ _ (RetBigErr w (textV (textN bs.toArray.toList) (textR bs.toArray.toList)) (textE (textR bs.toArray.toList)))
  rw [List.toList_toArray]
  unfold textN textR
  by_cases h : bs.head? = some 45
  · rw [decide_eq_true h, if_pos h]
    obtain ⟨r, rfl⟩ : ∃ r, bs = 45 :: r := by cases bs with | nil => cases h | cons b r => exact ⟨r, by rw [Option.some.inj h]⟩
    by_cases hr : r = []
    · subst hr
      obtain ⟨e1, e2⟩ := text_empty (neg := true)
      show Calls _ _ _ _ (RetBigErr w (textV true []) (textE []))
      rw [e1, e2]
      exact parse_empty w true
    · exact parse_neg _ r w hr rfl hs
  · rw [decide_eq_false h, if_neg h]
    by_cases hr : bs = []
    · subst hr
      obtain ⟨e1, e2⟩ := text_empty (neg := false)
      rw [e1, e2]
      exact parse_empty w false
    · exact parse_pos bs w hr h hs
end Go.Proofs.YteggjfmcpodepaaDoor
namespace Go.Proofs.YteggjfmcpodepaaDoor
open Go.RowKit
set_option maxRecDepth 100000
theorem Per.tab {w : World} (h : Tab w) : Per No w Tab := fun _ hb => h.below hb.toBelow
/-- What a text gives: no error and a number that fits, or an error and nought. -/
theorem text_facts (neg : Bool) (r : List UInt8) : (textE r = 0 ∧ (textV neg r).natAbs < B18 ^ 30) ∨ (textV neg r = 0 ∧ (textE r = 2 ∨ textE r = 4)) := by
  unfold textE textV
  by_cases h1 : r ≠ [] ∧ r.all isDig = true
  · by_cases h2 : num10 r < B18 ^ 30
    · left
      rw [if_pos h1, if_pos h2, if_pos ⟨h1.1, h1.2, h2⟩, sgn_natAbs]
      exact ⟨rfl, h2⟩
    · right
      rw [if_pos h1, if_neg h2, if_neg (fun h => h2 h.2.2)]
      exact ⟨rfl, Or.inl rfl⟩
  · right
    rw [if_neg h1, if_neg (fun h => h1 ⟨h.1, h.2.1⟩)]
    exact ⟨rfl, Or.inr rfl⟩
theorem isT (neg : Bool) (r : List UInt8) (A B : Option Addr) (c d : Nat) (w : World) (hx : Nums w A (limbs (textV neg r))) (hy : Nums8 w B (tens (textV neg r))) :
    Calls Tryd.prog 16 #[.agg #[.bool (decide (textV neg r < 0)), .slice A (limbs (textV neg r)).length c], .int .i64 (textE r), .agg #[.bool (decide (textV neg r < 0)), .slice B (tens (textV neg r)).length d], .int .i64 (textE r)] w fun e w' => e = .returned (.bool true) ∧ Below w.heap.size w w' := by
  rcases text_facts neg r with ⟨h1, h2⟩ | ⟨h1, h2⟩
  · rw [h1]
    exact is_ok A B c d _ w hx hy (by have := limbs_length h2; omega) (by have := tens_length h2; omega)
  · rw [h1, limbs_zero]
    exact is_err A B c d _ _ (textE r) w (by rcases h2 with h | h <;> simp [h])
section
variable (s : ByteArray) (hs : s.size ≤ 140737488355328) (w : World)
include hs
theorem texts_bad (n1 : Bool) (A : Option Addr) (c : Nat) (xs : List Nat) (hx : Nums w A xs) (hl : xs.length ≤ 9223372036854775807) (hg : goodB n1 xs = false) :
    Calls Tryd.prog 12 #[.agg #[.bool n1, .slice A xs.length c], .string s] w fun e w' => e = .returned (.bool true) ∧ Below w.heap.size w w' := by
  have hrgood := fun w hx => rgood_any n1 c w A xs hl hx
  rw [hg] at hrgood
  obtain ⟨N, hN⟩ : ∃ N, N = textN s.data.toList := ⟨_, rfl⟩
  obtain ⟨R, hR⟩ : ∃ R, R = textR s.data.toList := ⟨_, rfl⟩
  have hread := fun w => read_any s w hs
  have hparse := fun w => parse_any s w hs
  rw [← hN, ← hR] at hread hparse
  refine calls_cw Tryd.func12 rfl Tryd.ntmps12 rfl ?_
  have HF : Per No w (fun _ => True) := Per.true_
  have LW := Ext.refl (No) w
  have XLW : ∀ q9, (No) q9 → (No) q9 ∨ w.heap.size ≤ q9 := fun _ h => Or.inl h
  have E := Ext.refl No w
  replace HF := HF.on E
  replace LW := LW.step E XLW
  replace E := Ext.refl (No) w
  replace HF := HF.and (Per.nums0 hx)
  refine cw_seq ?_
  refine cw_region ?_
  refine rs_op rfl (ow_boxB rfl ?_)
  intro gb1 w2 Bb1 Eb1 Gb1
  have Gb1 : _ ≤ gb1 := Nat.le_trans E.size Gb1
  have GLb1 := Nat.le_trans LW.size Gb1
  replace E := E.trans Eb1.no
  clear Eb1
  replace HF := HF.cons (some_ge Gb1)
  replace E := E.cons (some gb1)
  replace XLW := Mut.grow XLW (fun k e => Or.inr (Nat.le_trans LW.size ((some_ge Gb1) k e)))
  replace HF := HF.on E
  replace LW := LW.step E XLW
  have SB : ∀ q9, No q9 → Mut [(some gb1)] q9 := (Mut.skip Mut.nil_)
  replace HF := HF.less SB
  replace XLW := fun k h => XLW k (SB k h)
  clear SB
  replace E := Ext.refl (No) w2
  replace HF := HF.and (Per.blkN Bb1 NotIn.nil)
  clear Bb1
  refine rs_op rfl (ow_assign rfl ?_)
  refine rs_nil ?_
  refine ew_next ?_
  refine cw_seq ?_
  refine cw_seq ?_
  refine cw_region ?_
  refine rs_op rfl (ow_enter en13 rfl ((known_any _).mono ?_))
  rintro e w3 ⟨rfl, hb⟩
  refine ⟨_, rfl, ?_⟩
  have XC : ∀ q9, (No) q9 → q9 < w2.heap.size := Mut.none_
  have SC := Nat.le_trans LW.size E.size
  have SE := E.size
  have Ec := Ext.of_below hb No
  replace E := E.trans Ec.no
  clear hb Ec
  refine rs_op rfl (ow_not rfl ?_)
  refine rs_nil ?_
  refine ew_next ?_
  refine cw_else rfl ?_
  refine cw_skip ?_
  refine ew_next ?_
  refine cw_seq ?_
  refine cw_region ?_
  refine rs_op rfl (ow_move rfl ?_)
  refine rs_op rfl (ow_enter en44 rfl ((hread _).mono ?_))
  rintro e w4 ⟨A2, c2, rfl, o2, hb⟩
  refine ⟨_, rfl, ?_⟩
  have XC : ∀ q9, (No) q9 → q9 < w3.heap.size := Mut.none_
  have SC := Nat.le_trans LW.size E.size
  have SE := E.size
  have Ec := Ext.of_below hb No
  replace E := E.trans Ec.no
  clear hb Ec
  replace HF := HF.on E
  replace LW := LW.step E XLW
  replace E := Ext.refl (No) w4
  replace HF := HF.and (Per.nums80 o2.nums)
  refine rs_op rfl (ow_move rfl ?_)
  refine rs_op rfl (ow_extract rfl rfl ?_)
  refine rs_op rfl (ow_extract rfl rfl ?_)
  refine rs_op rfl (ow_allocB zr33 ?_)
  intro gb5 w6 Bb5 Eb5 Gb5
  have Gb5 : _ ≤ gb5 := Nat.le_trans E.size Gb5
  have GLb5 := Nat.le_trans LW.size Gb5
  replace E := E.trans Eb5.no
  clear Eb5
  replace HF := HF.cons (some_ge Gb5)
  replace E := E.cons (some gb5)
  replace XLW := Mut.grow XLW (fun k e => Or.inr (Nat.le_trans LW.size ((some_ge Gb5) k e)))
  refine rs_op0 (ow_storeM sz33 rfl rfl Bb5 rfl rfl (Nat.le_of_ble_eq_true rfl) ?_)
  intro w7 Bx Eb5
  replace Bb5 := Bx
  clear Bx
  replace E := E.step1 Eb5 Mut.head
  clear Eb5
  replace HF := HF.on E
  replace LW := LW.step E XLW
  have SB : ∀ q9, No q9 → Mut [(some gb5)] q9 := (Mut.skip Mut.nil_)
  replace HF := HF.less SB
  replace XLW := fun k h => XLW k (SB k h)
  clear SB
  replace E := Ext.refl (No) w7
  replace HF := HF.and (Per.blkN Bb5 NotIn.nil)
  clear Bb5
  refine rs_op rfl (ow_assign rfl ?_)
  refine rs_nil ?_
  refine ew_next ?_
  refine cw_seq ?_
  refine cw_region ?_
  refine rs_op rfl (ow_move rfl ?_)
  refine rs_op rfl (ow_enter en45 rfl ((hparse _).mono ?_))
  rintro e w8 ⟨A3, c3, rfl, o3, hb⟩
  refine ⟨_, rfl, ?_⟩
  have XC : ∀ q9, (No) q9 → q9 < w7.heap.size := Mut.none_
  have SC := Nat.le_trans LW.size E.size
  have SE := E.size
  have Ec := Ext.of_below hb No
  replace E := E.trans Ec.no
  clear hb Ec
  replace HF := HF.on E
  replace LW := LW.step E XLW
  replace E := Ext.refl (No) w8
  replace HF := HF.and (Per.nums0 o3.nums)
  refine rs_op rfl (ow_move rfl ?_)
  refine rs_op rfl (ow_extract rfl rfl ?_)
  refine rs_op rfl (ow_extract rfl rfl ?_)
  refine rs_op rfl (ow_allocB zr24 ?_)
  intro gb9 w10 Bb9 Eb9 Gb9
  have Gb9 : _ ≤ gb9 := Nat.le_trans E.size Gb9
  have GLb9 := Nat.le_trans LW.size Gb9
  replace E := E.trans Eb9.no
  clear Eb9
  replace HF := HF.cons (some_ge Gb9)
  replace E := E.cons (some gb9)
  replace XLW := Mut.grow XLW (fun k e => Or.inr (Nat.le_trans LW.size ((some_ge Gb9) k e)))
  refine rs_op0 (ow_storeM sz24 rfl rfl Bb9 rfl rfl (Nat.le_of_ble_eq_true rfl) ?_)
  intro w11 Bx Eb9
  replace Bb9 := Bx
  clear Bx
  replace E := E.step1 Eb9 Mut.head
  clear Eb9
  replace HF := HF.on E
  replace LW := LW.step E XLW
  have SB : ∀ q9, No q9 → Mut [(some gb9)] q9 := (Mut.skip Mut.nil_)
  replace HF := HF.less SB
  replace XLW := fun k h => XLW k (SB k h)
  clear SB
  replace E := Ext.refl (No) w11
  replace HF := HF.and (Per.blkN Bb9 NotIn.nil)
  clear Bb9
  refine rs_op rfl (ow_assign rfl ?_)
  refine rs_nil ?_
  refine ew_next ?_
  refine cw_seq ?_
  refine cw_seq ?_
  refine cw_region ?_
  refine rs_op rfl (ow_loadB Tryd.underlying24 rfl sz24 rfl (HF.on E).here.2 rfl ?_)
  refine rs_op rfl (ow_move rfl ?_)
  refine rs_op rfl (ow_loadB Tryd.underlying33 rfl sz33 rfl (HF.on E).here.1.1.2 rfl ?_)
  refine rs_op rfl (ow_move rfl ?_)
  refine rs_op rfl (ow_enter en16 rfl ((isT N R A3 A2 c3 c2 _ (HF.on E).here.1.2 (HF.on E).here.1.1.1.2).mono ?_))
  rintro e w12 ⟨rfl, hb⟩
  refine ⟨_, rfl, ?_⟩
  have XC : ∀ q9, (No) q9 → q9 < w11.heap.size := Mut.none_
  have SC := Nat.le_trans LW.size E.size
  have SE := E.size
  have Ec := Ext.of_below hb No
  replace E := E.trans Ec.no
  clear hb Ec
  refine rs_op rfl (ow_not rfl ?_)
  refine rs_nil ?_
  refine ew_next ?_
  refine cw_else rfl ?_
  refine cw_skip ?_
  refine ew_next ?_
  refine cw_seq ?_
  refine cw_seq ?_
  refine cw_region ?_
  refine rs_op rfl (ow_loadB Tryd.underlying24 rfl sz24 rfl (HF.on E).here.1.1.1.1.2 rfl ?_)
  refine rs_op rfl (ow_enter en20 rfl ((hrgood _ (HF.on E).here.1.1.1.1.1.2).mono ?_))
  rintro e w13 ⟨rfl, hb⟩
  refine ⟨_, rfl, ?_⟩
  have XC : ∀ q9, (No) q9 → q9 < w12.heap.size := Mut.none_
  have SC := Nat.le_trans LW.size E.size
  have SE := E.size
  have Ec := Ext.of_below hb No
  replace E := E.trans Ec.no
  clear hb Ec
  refine rs_op rfl (ow_not rfl ?_)
  refine rs_nil ?_
  refine ew_next ?_
  refine cw_then rfl ?_
  refine cw_seq ?_
  refine cw_region ?_
  refine rs_op rfl (ow_loadB Tryd.underlying24 rfl sz24 rfl (HF.on E).here.1.1.1.1.2 rfl ?_)
  refine rs_op rfl (ow_enter en46 rfl ((wtext_bad n1 A c xs _ (HF.on E).here.1.1.1.1.1.2 hl hg).mono ?_))
  rintro e w14 ⟨rfl, hb⟩
  refine ⟨_, rfl, ?_⟩
  have XC : ∀ q9, (No) q9 → q9 < w13.heap.size := Mut.none_
  have SC := Nat.le_trans LW.size E.size
  have SE := E.size
  have Ec := Ext.of_below hb No
  replace E := E.trans Ec.no
  clear hb Ec
  refine rs_op rfl (ow_eqlS rfl rfl ?_)
  refine rs_op rfl (ow_assign rfl ?_)
  refine rs_nil ?_
  refine ew_next ?_
  refine cw_ret ?_
  refine ew_then_ret ?_
  refine ew_set 4 (.bool true) rfl (by rw [beq_self_eq_true]) ?_
  refine ew_ret (rs := [.tmp 4]) (vs := [_]) rfl ⟨rfl, trivial⟩ ?_
  exact ⟨rfl, (LW.step E XLW).toBelow⟩
theorem texts_good (z : Int) (A : Option Addr) (c : Nat) (hz : z.natAbs < B18 ^ 30) (hx : Nums w A (limbs z)) (ht : Tab w) :
    Calls Tryd.prog 12 #[.agg #[.bool (decide (z < 0)), .slice A (limbs z).length c], .string s] w fun e w' => e = .returned (.bool true) ∧ Below w.heap.size w w' := by
  have hrgood := fun w hx => rgood_any (decide (z < 0)) c w A (limbs z) (by have := limbs_length hz; omega) hx
  rw [good_limbs hz] at hrgood
  obtain ⟨N, hN⟩ : ∃ N, N = textN s.data.toList := ⟨_, rfl⟩
  obtain ⟨R, hR⟩ : ∃ R, R = textR s.data.toList := ⟨_, rfl⟩
  have hread := fun w => read_any s w hs
  have hparse := fun w => parse_any s w hs
  rw [← hN, ← hR] at hread hparse
  refine calls_cw Tryd.func12 rfl Tryd.ntmps12 rfl ?_
  have HF : Per No w (fun _ => True) := Per.true_
  have LW := Ext.refl (No) w
  have XLW : ∀ q9, (No) q9 → (No) q9 ∨ w.heap.size ≤ q9 := fun _ h => Or.inl h
  have E := Ext.refl No w
  replace HF := HF.on E
  replace LW := LW.step E XLW
  replace E := Ext.refl (No) w
  replace HF := HF.and (Per.nums0 hx)
  replace HF := HF.on E
  replace LW := LW.step E XLW
  replace E := Ext.refl (No) w
  replace HF := HF.and (Per.tab ht)
  refine cw_seq ?_
  refine cw_region ?_
  refine rs_op rfl (ow_boxB rfl ?_)
  intro gb1 w2 Bb1 Eb1 Gb1
  have Gb1 : _ ≤ gb1 := Nat.le_trans E.size Gb1
  have GLb1 := Nat.le_trans LW.size Gb1
  replace E := E.trans Eb1.no
  clear Eb1
  replace HF := HF.cons (some_ge Gb1)
  replace E := E.cons (some gb1)
  replace XLW := Mut.grow XLW (fun k e => Or.inr (Nat.le_trans LW.size ((some_ge Gb1) k e)))
  replace HF := HF.on E
  replace LW := LW.step E XLW
  have SB : ∀ q9, No q9 → Mut [(some gb1)] q9 := (Mut.skip Mut.nil_)
  replace HF := HF.less SB
  replace XLW := fun k h => XLW k (SB k h)
  clear SB
  replace E := Ext.refl (No) w2
  replace HF := HF.and (Per.blkN Bb1 NotIn.nil)
  clear Bb1
  refine rs_op rfl (ow_assign rfl ?_)
  refine rs_nil ?_
  refine ew_next ?_
  refine cw_seq ?_
  refine cw_seq ?_
  refine cw_region ?_
  refine rs_op rfl (ow_enter en13 rfl ((known_any _).mono ?_))
  rintro e w3 ⟨rfl, hb⟩
  refine ⟨_, rfl, ?_⟩
  have XC : ∀ q9, (No) q9 → q9 < w2.heap.size := Mut.none_
  have SC := Nat.le_trans LW.size E.size
  have SE := E.size
  have Ec := Ext.of_below hb No
  replace E := E.trans Ec.no
  clear hb Ec
  refine rs_op rfl (ow_not rfl ?_)
  refine rs_nil ?_
  refine ew_next ?_
  refine cw_else rfl ?_
  refine cw_skip ?_
  refine ew_next ?_
  refine cw_seq ?_
  refine cw_region ?_
  refine rs_op rfl (ow_move rfl ?_)
  refine rs_op rfl (ow_enter en44 rfl ((hread _).mono ?_))
  rintro e w4 ⟨A2, c2, rfl, o2, hb⟩
  refine ⟨_, rfl, ?_⟩
  have XC : ∀ q9, (No) q9 → q9 < w3.heap.size := Mut.none_
  have SC := Nat.le_trans LW.size E.size
  have SE := E.size
  have Ec := Ext.of_below hb No
  replace E := E.trans Ec.no
  clear hb Ec
  replace HF := HF.on E
  replace LW := LW.step E XLW
  replace E := Ext.refl (No) w4
  replace HF := HF.and (Per.nums80 o2.nums)
  refine rs_op rfl (ow_move rfl ?_)
  refine rs_op rfl (ow_extract rfl rfl ?_)
  refine rs_op rfl (ow_extract rfl rfl ?_)
  refine rs_op rfl (ow_allocB zr33 ?_)
  intro gb5 w6 Bb5 Eb5 Gb5
  have Gb5 : _ ≤ gb5 := Nat.le_trans E.size Gb5
  have GLb5 := Nat.le_trans LW.size Gb5
  replace E := E.trans Eb5.no
  clear Eb5
  replace HF := HF.cons (some_ge Gb5)
  replace E := E.cons (some gb5)
  replace XLW := Mut.grow XLW (fun k e => Or.inr (Nat.le_trans LW.size ((some_ge Gb5) k e)))
  refine rs_op0 (ow_storeM sz33 rfl rfl Bb5 rfl rfl (Nat.le_of_ble_eq_true rfl) ?_)
  intro w7 Bx Eb5
  replace Bb5 := Bx
  clear Bx
  replace E := E.step1 Eb5 Mut.head
  clear Eb5
  replace HF := HF.on E
  replace LW := LW.step E XLW
  have SB : ∀ q9, No q9 → Mut [(some gb5)] q9 := (Mut.skip Mut.nil_)
  replace HF := HF.less SB
  replace XLW := fun k h => XLW k (SB k h)
  clear SB
  replace E := Ext.refl (No) w7
  replace HF := HF.and (Per.blkN Bb5 NotIn.nil)
  clear Bb5
  refine rs_op rfl (ow_assign rfl ?_)
  refine rs_nil ?_
  refine ew_next ?_
  refine cw_seq ?_
  refine cw_region ?_
  refine rs_op rfl (ow_move rfl ?_)
  refine rs_op rfl (ow_enter en45 rfl ((hparse _).mono ?_))
  rintro e w8 ⟨A3, c3, rfl, o3, hb⟩
  refine ⟨_, rfl, ?_⟩
  have XC : ∀ q9, (No) q9 → q9 < w7.heap.size := Mut.none_
  have SC := Nat.le_trans LW.size E.size
  have SE := E.size
  have Ec := Ext.of_below hb No
  replace E := E.trans Ec.no
  clear hb Ec
  replace HF := HF.on E
  replace LW := LW.step E XLW
  replace E := Ext.refl (No) w8
  replace HF := HF.and (Per.nums0 o3.nums)
  refine rs_op rfl (ow_move rfl ?_)
  refine rs_op rfl (ow_extract rfl rfl ?_)
  refine rs_op rfl (ow_extract rfl rfl ?_)
  refine rs_op rfl (ow_allocB zr24 ?_)
  intro gb9 w10 Bb9 Eb9 Gb9
  have Gb9 : _ ≤ gb9 := Nat.le_trans E.size Gb9
  have GLb9 := Nat.le_trans LW.size Gb9
  replace E := E.trans Eb9.no
  clear Eb9
  replace HF := HF.cons (some_ge Gb9)
  replace E := E.cons (some gb9)
  replace XLW := Mut.grow XLW (fun k e => Or.inr (Nat.le_trans LW.size ((some_ge Gb9) k e)))
  refine rs_op0 (ow_storeM sz24 rfl rfl Bb9 rfl rfl (Nat.le_of_ble_eq_true rfl) ?_)
  intro w11 Bx Eb9
  replace Bb9 := Bx
  clear Bx
  replace E := E.step1 Eb9 Mut.head
  clear Eb9
  replace HF := HF.on E
  replace LW := LW.step E XLW
  have SB : ∀ q9, No q9 → Mut [(some gb9)] q9 := (Mut.skip Mut.nil_)
  replace HF := HF.less SB
  replace XLW := fun k h => XLW k (SB k h)
  clear SB
  replace E := Ext.refl (No) w11
  replace HF := HF.and (Per.blkN Bb9 NotIn.nil)
  clear Bb9
  refine rs_op rfl (ow_assign rfl ?_)
  refine rs_nil ?_
  refine ew_next ?_
  refine cw_seq ?_
  refine cw_seq ?_
  refine cw_region ?_
  refine rs_op rfl (ow_loadB Tryd.underlying24 rfl sz24 rfl (HF.on E).here.2 rfl ?_)
  refine rs_op rfl (ow_move rfl ?_)
  refine rs_op rfl (ow_loadB Tryd.underlying33 rfl sz33 rfl (HF.on E).here.1.1.2 rfl ?_)
  refine rs_op rfl (ow_move rfl ?_)
  refine rs_op rfl (ow_enter en16 rfl ((isT N R A3 A2 c3 c2 _ (HF.on E).here.1.2 (HF.on E).here.1.1.1.2).mono ?_))
  rintro e w12 ⟨rfl, hb⟩
  refine ⟨_, rfl, ?_⟩
  have XC : ∀ q9, (No) q9 → q9 < w11.heap.size := Mut.none_
  have SC := Nat.le_trans LW.size E.size
  have SE := E.size
  have Ec := Ext.of_below hb No
  replace E := E.trans Ec.no
  clear hb Ec
  refine rs_op rfl (ow_not rfl ?_)
  refine rs_nil ?_
  refine ew_next ?_
  refine cw_else rfl ?_
  refine cw_skip ?_
  refine ew_next ?_
  refine cw_seq ?_
  refine cw_seq ?_
  refine cw_region ?_
  refine rs_op rfl (ow_loadB Tryd.underlying24 rfl sz24 rfl (HF.on E).here.1.1.1.1.2 rfl ?_)
  refine rs_op rfl (ow_enter en20 rfl ((hrgood _ (HF.on E).here.1.1.1.1.1.1.2).mono ?_))
  rintro e w13 ⟨rfl, hb⟩
  refine ⟨_, rfl, ?_⟩
  have XC : ∀ q9, (No) q9 → q9 < w12.heap.size := Mut.none_
  have SC := Nat.le_trans LW.size E.size
  have SE := E.size
  have Ec := Ext.of_below hb No
  replace E := E.trans Ec.no
  clear hb Ec
  refine rs_op rfl (ow_not rfl ?_)
  refine rs_nil ?_
  refine ew_next ?_
  refine cw_else rfl ?_
  refine cw_skip ?_
  refine ew_next ?_
  refine cw_seq ?_
  have OY : ∀ q9, (Mut (outM [])) q9 → q9 < (World.drew w13).heap.size → (No) q9 := fun k h _ => (Mut.none_) k h
  refine cw_drawn (No) Mut.none_ [] [] (fxAt [Fx.of (.agg #[.bool (decide (z < 0)), .slice A (limbs z).length c]),
      Fx.of (.string ⟨(Lib.itoa z).toArray⟩),
      Fx.of (.agg #[.bool (decide (z < 0)), .slice A (limbs z).length c]),
      ⟨(Option Addr × Nat), fun (A4, c4) => .agg #[.bool (decide (z < 0)), .slice A4 (tens z).length c4], fun (A4, c4) b => (Nums8 b A4 (tens z))⟩,
      Fx.of (.string ⟨(Lib.itoa z).toArray⟩),
      Fx.of (.bool ((⟨(Lib.itoa z).toArray⟩ : ByteArray).toList == (⟨(Lib.itoa z).toArray⟩ : ByteArray).toList)),
      Fx.of (.bool ((⟨(Lib.itoa z).toArray⟩ : ByteArray).toList == (⟨(Lib.itoa z).toArray⟩ : ByteArray).toList))]) mixed rfl trivial (fun _ h => by cases h) ?_ ?_
  · refine ⟨?_, ?_, ?_, ?_, ?_, ?_, ?_, trivial⟩
    · intro vs X wq K
      have LE := K.1
      have XN := K.2.1
      have SQ := Nat.le_trans LW.size (Nat.le_trans E.size LE.size)
      exact ow_loadB Tryd.underlying24 rfl sz24 rfl (HF.on (E.drew.trans (LE.mono OY))).here.1.1.1.1.2 rfl ⟨Below.refl _ _, Left.of rfl⟩
    · intro vs X wq K
      have LE := K.1
      have XN := K.2.1
      have SQ := Nat.le_trans LW.size (Nat.le_trans E.size LE.size)
      obtain ⟨_, e0, k0⟩ := K.dep 0 rfl rfl rfl
      refine ow_set 33 (.agg #[.bool (decide (z < 0)), .slice A (limbs z).length c]) rfl e0 ?_
      refine ow_enter en46 rfl ((textI z A c _ hz (HF.on (E.drew.trans (LE.mono OY))).here.1.1.1.1.1.1.2 (HF.on (E.drew.trans (LE.mono OY))).here.1.1.1.1.1.2).mono ?_)
      rintro e w2 ⟨rfl, hb⟩
      exact ⟨_, rfl, hb, Left.of rfl⟩
    · intro vs X wq K
      have LE := K.1
      have XN := K.2.1
      have SQ := Nat.le_trans LW.size (Nat.le_trans E.size LE.size)
      exact ow_loadB Tryd.underlying24 rfl sz24 rfl (HF.on (E.drew.trans (LE.mono OY))).here.1.1.1.1.2 rfl ⟨Below.refl _ _, Left.of rfl⟩
    · intro vs X wq K
      have LE := K.1
      have XN := K.2.1
      have SQ := Nat.le_trans LW.size (Nat.le_trans E.size LE.size)
      obtain ⟨_, e2, k2⟩ := K.dep 2 rfl rfl rfl
      refine ow_set 35 (.agg #[.bool (decide (z < 0)), .slice A (limbs z).length c]) rfl e2 ?_
      refine ow_enter en18 rfl ((rofI A c _ hz (HF.on (E.drew.trans (LE.mono OY))).here.1.1.1.1.1.1.2).mono ?_)
      rintro e w2 ⟨A4, c4, rfl, o4, hb⟩
      exact ⟨_, rfl, hb, ⟨(A4, c4), rfl, Per.own8X o4 XN⟩⟩
    · intro vs X wq K
      have LE := K.1
      have XN := K.2.1
      have SQ := Nat.le_trans LW.size (Nat.le_trans E.size LE.size)
      obtain ⟨⟨A4, c4⟩, e3, k3⟩ := K.dep 3 rfl rfl rfl
      refine ow_set 36 (.agg #[.bool (decide (z < 0)), .slice A4 (tens z).length c4]) rfl e3 ?_
      refine ow_enter en47 rfl ((rshow_any z A4 c4 _ hz k3.here).mono ?_)
      rintro e w2 ⟨rfl, hb⟩
      exact ⟨_, rfl, hb, Left.of rfl⟩
    · intro vs X wq K
      have LE := K.1
      have XN := K.2.1
      have SQ := Nat.le_trans LW.size (Nat.le_trans E.size LE.size)
      obtain ⟨_, e1, k1⟩ := K.dep 1 rfl rfl rfl
      refine ow_set 34 (.string ⟨(Lib.itoa z).toArray⟩) rfl e1 ?_
      obtain ⟨_, e4, k4⟩ := K.dep 4 rfl rfl rfl
      refine ow_set 37 (.string ⟨(Lib.itoa z).toArray⟩) rfl e4 ?_
      exact ow_eqlS rfl rfl ⟨Below.refl _ _, Left.of rfl⟩
    · intro vs X wq K
      have LE := K.1
      have XN := K.2.1
      have SQ := Nat.le_trans LW.size (Nat.le_trans E.size LE.size)
      obtain ⟨_, e5, k5⟩ := K.dep 5 rfl rfl rfl
      refine ow_set 38 (.bool ((⟨(Lib.itoa z).toArray⟩ : ByteArray).toList == (⟨(Lib.itoa z).toArray⟩ : ByteArray).toList)) rfl e5 ?_
      exact ow_assign rfl ⟨Below.refl _ _, Left.of rfl⟩
  intro vs w14 LE AO AL AF AA
  replace E := E.drew.trans (LE.mono OY)
  obtain ⟨_, e6, k6⟩ := AL.2.2.2.2.2.2.1
  refine ew_sub (τ := [(4, .bool ((⟨(Lib.itoa z).toArray⟩ : ByteArray).toList == (⟨(Lib.itoa z).toArray⟩ : ByteArray).toList))]) ⟨congrArg some e6, trivial⟩ ?_
  clear AL AF AA LE AO OY e6 k6
  refine ew_next ?_
  refine cw_ret ?_
  refine ew_set 4 (.bool true) rfl ((by rw [beq_self_eq_true] : (.bool ((⟨(Lib.itoa z).toArray⟩ : ByteArray).toList == (⟨(Lib.itoa z).toArray⟩ : ByteArray).toList) : Value) = _)) ?_
  refine ew_ret (rs := [.tmp 4]) (vs := [_]) rfl ⟨rfl, trivial⟩ ?_
  exact ⟨rfl, (LW.step E XLW).toBelow⟩
end
/-- WholeTexts answers true at every number and every text. -/
theorem texts_law (n1 : Bool) (A : Option Addr) (c : Nat) (xs : List Nat) (s : ByteArray) (w : World) (hx : Nums w A xs) (hl : xs.length ≤ 9223372036854775807) (hs : s.size ≤ 140737488355328) (ht : Tab w) :
    Calls Tryd.prog 12 #[.agg #[.bool n1, .slice A xs.length c], .string s] w fun e w' => e = .returned (.bool true) ∧ Below w.heap.size w w' := by
  cases hg : goodB n1 xs
  · exact texts_bad s hs w n1 A c xs hx hl hg
  · obtain ⟨z, rfl, rfl, hz⟩ := good_is hg
    exact texts_good s hs w z A c hz hx ht
end Go.Proofs.YteggjfmcpodepaaDoor
