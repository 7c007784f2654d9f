/- Texts of this claim. -/
import Derived.Test.YtmjbnhjgebjhlaaDoorK18
import Derived.Lib.ItoaNum
import Derived.Lib.SmallJoins
namespace Go.Proofs.YtmjbnhjgebjhlaaDoor
open Go.RowKit
set_option maxRecDepth 100000
def shown (ds : List Nat) (k : Nat) : List Value := (List.range k).map fun j => .int .u8 (48 + nth ds (ds.length - 1 - j))
section
variable (i : Int) (A : Option Addr) (c : Nat) (w : World) (hi : i.natAbs < B18 ^ 30) (hx : Nums8 w A (tens i))
include hi hx
end
end Go.Proofs.YtmjbnhjgebjhlaaDoor
namespace Go.Proofs.YtmjbnhjgebjhlaaDoor
def padk (k l : Nat) : List UInt8 := List.replicate (k - Lib.nDigits l) 48 ++ Lib.decDigits l
def texted (i : Int) (k : Nat) : List UInt8 := (if i < 0 then [45] else []) ++ (if k = 0 then [] else Lib.decDigits (i.natAbs / B18 ^ ((limbs i).length - k)))
/-! ### the number that digits spell -/
theorem val_app (b : Nat) : ∀ (x y : List Nat), val b (x ++ y) = val b x + b ^ x.length * val b y
 | [], y => by simp [val]
 | a :: x, y => by
  rw [List.cons_append, val, val, val_app b x y, List.length_cons, Nat.pow_succ, Nat.mul_add, ← Nat.add_assoc, Nat.mul_comm (b ^ x.length) b, Nat.mul_assoc]
theorem zoz (x y : List UInt8) : yy (x ++ y) = yy x * 10 ^ y.length + yy y := by
 unfold yy;rw [List.reverse_append, List.map_append, val_app, List.length_map, List.length_reverse, Nat.mul_comm, Nat.add_comm]
theorem num10_nil : yy [] = 0 := rfl
theorem num10_zero (r : List UInt8) : yy (48 :: r) = yy r := by
 rw [show (48 : UInt8) :: r = [48] ++ r from rfl, zoz, show yy [48] = 0 from rfl, Nat.zero_mul, Nat.zero_add]
theorem num10_lt {r : List UInt8} (h : r.all vg = true) : yy r < 10 ^ r.length := by
 have h1 := val_lt (b := 10) (l := r.reverse.map dv) (dv_small (by rw [List.all_reverse]; exact h));simpa [yy] using h1
def gf : List UInt8 → List UInt8
 | [] => []
 | b :: r => if b = 48 then gf r else b :: r
theorem oc : ∀ r, yy (gf r) = yy r
 | [] => rfl
 | b :: r => by
  rw [gf]; split
  · rename_i h; rw [h, num10_zero, oc r]
  · rfl
theorem strip_drop : ∀ r : List UInt8, ∃ k, k ≤ r.length ∧ gf r = r.drop k ∧ ∀ j, j < k → r[j]? = some 48
 | [] => ⟨0, Nat.le_refl _, rfl, fun j h => by omega⟩
 | b :: r => by
  by_cases h : b = 48
  · obtain ⟨k, h1, h2, h3⟩ := strip_drop r;refine ⟨k + 1, by simp; omega, by rw [gf, if_pos h, h2]; rfl, fun j hj => ?_⟩;cases j with
    | zero => rw [h]; rfl
    | succ j => simpa using h3 j (by omega)
  · exact ⟨0, Nat.zero_le _, by rw [gf, if_neg h]; rfl, fun j h => by omega⟩
theorem strip_head (r : List UInt8) : (gf r).head? ≠ some 48 := by
 induction r with
 | nil => simp [gf]
 | cons b r ih =>
  rw [gf]; split
  · exact ih
  · rename_i h; simpa using h
theorem zdv {r : List UInt8} (h : r.all vg = true) : (gf r).all vg = true := by
 obtain ⟨k, _, e, _⟩ := strip_drop r;rw [e, List.all_eq_true];intro x hx;exact List.all_eq_true.1 h x (List.mem_of_mem_drop hx)
theorem head_num {b : UInt8} {r : List UInt8} (h : (b :: r).all vg = true) (hb : b ≠ 48) : 10 ^ r.length ≤ yy (b :: r) := by
 rw [show b :: r = [b] ++ r from rfl, zoz];have h1 : vg b = true := by rw [List.all_cons, Bool.and_eq_true] at h; exact h.1
 have h2 : 1 ≤ yy [b] := by
  have h3 : yy [b] = dv b := by simp [yy, val]
  rw [h3];unfold vg at h1;simp at h1
  have h4 : b.toNat ≠ 48 := fun e => hb (UInt8.toNat_inj.1 e);unfold dv; omega
 calc 10 ^ r.length = 1 * 10 ^ r.length := (Nat.one_mul _).symm
  _ ≤ yy [b] * 10 ^ r.length := Nat.mul_le_mul_right _ h2
  _ ≤ _ := Nat.le_add_right _ _
theorem B18_len {n : Nat} (h : n = 18 * 30) : B18 ^ 30 = 10 ^ n := by rw [h, B18_pow]
theorem zmk {r : List UInt8} (h : r.all vg = true) : (gf r).length ≤ 540 ↔ yy r < B18 ^ 30 := by
 obtain ⟨n, hn⟩ : ∃ n, n = 540 := ⟨_, rfl⟩;rw [← oc r, B18_len (n := n) hn, ← hn];have ha := zdv h;have hh := strip_head r;generalize gf r = s at ha hh
 constructor
 · intro h1;exact Nat.lt_of_lt_of_le (num10_lt ha) (Nat.pow_le_pow_right (by decide) h1)
 · intro h1;cases s with
   | nil => simp
   | cons b s =>
    have h2 := head_num ha (by simpa using hh);rcases Nat.lt_or_ge s.length n with h3 | h3
    · simp; omega
    · have := Nat.pow_le_pow_right (n := 10) (by decide) h3;exact absurd (Nat.lt_of_lt_of_le h1 (Nat.le_trans this h2)) (Nat.lt_irrefl _)
theorem zpv {s : List UInt8} (hs : s.all vg = true) {e k : Nat} {xs : List Nat} (hk : xs.length = k) (he : s.length = e + 18 * k) (hv : val B18 xs = yy (s.drop e)) :
 val B18 (xs ++ [yy ((s.take e).drop (e - 18))]) = yy (s.drop (e - 18)) := by
 have _ := hs;have e1 : s.drop (e - 18) = (s.take e).drop (e - 18) ++ s.drop e := by
  conv => lhs; rw [← List.take_append_drop e s]
  rw [List.drop_append_of_le_length (by rw [List.length_take]; omega)]
 rw [e1, zoz, val_app, hv, hk, List.length_drop, he, show e + 18 * k - e = 18 * k by omega, ← B18_pow];simp only [val]
 rw [Nat.mul_zero, Nat.add_zero, Nat.mul_comm (B18 ^ k), Nat.add_comm]
theorem jw {s : List UInt8} (hs : s.all vg = true) (e : Nat) : yy ((s.take e).drop (e - 18)) < B18 := by
 have h1 : ((s.take e).drop (e - 18)).all vg = true := by
  rw [List.all_eq_true]; intro x hx;exact List.all_eq_true.1 hs x (List.mem_of_mem_take (List.mem_of_mem_drop hx))
 have h2 := num10_lt h1;refine Nat.lt_of_lt_of_le h2 ?_;have h3 : ((s.take e).drop (e - 18)).length ≤ 18 := by rw [List.length_drop, List.length_take]; omega
 have h4 := Nat.pow_le_pow_right (n := 10) (by decide) h3;have h5 : (10 : Nat) ^ 18 = B18 := by decide
 omega
end Go.Proofs.YtmjbnhjgebjhlaaDoor
namespace Go.Proofs.YtmjbnhjgebjhlaaDoor
open Go.RowKit
set_option maxRecDepth 100000
def Tab (w : World) : Prop := ∀ b, Below w.heap.size w b → Lib.TabIs Tryd.prog b "internal/strconv.uint64pow10" .u64 Lib.pow10Tab
theorem Tab.below {w w' : World} (h : Tab w) (hb : Below w.heap.size w w') : Tab w' := fun b hb' => h b (hb.trans (hb'.mono hb.size))
theorem vm (l : List UInt8) : (⟨l.toArray⟩ : ByteArray).size = l.length := by simp [ByteArray.size]
theorem ztk (a : List UInt8) (l h : Nat) : (⟨a.toArray⟩ : ByteArray).extract l h = ⟨((a.take h).drop l).toArray⟩ := by
 apply ByteArray.ext
 rw [ByteArray.data_extract];apply Array.ext'
 simp [List.extract, List.drop_take]
section
variable (i : Int) (A : Option Addr) (c : Nat) (w : World) (hi : i.natAbs < B18 ^ 30) (hx : Nums w A (limbs i)) (ht : Tab w)
include hi hx ht
end
theorem num10_cons (b : UInt8) (r : List UInt8) : yy (b :: r) = dv b * 10 ^ r.length + yy r := by
 rw [show b :: r = [b] ++ r from rfl, zoz];congr 2
theorem uintM : ∀ (r : List UInt8) (acc : Nat), r.all vg = true → acc * 10 ^ r.length + yy r < B18 → Lib.parseUintM (2 ^ 64 - 1) acc r = .ok (acc * 10 ^ r.length + yy r)
 | [], acc, _, _ => by rw [Lib.parseUintM]; simp [num10_nil]
 | b :: r, acc, hd, hl => by
  rw [List.all_cons, Bool.and_eq_true] at hd;have h1 := hd.1;unfold vg at h1;simp at h1
  have e : acc * 10 ^ (b :: r).length + yy (b :: r) = (acc * 10 + dv b) * 10 ^ r.length + yy r := by
   rw [num10_cons, List.length_cons, Nat.pow_succ, Nat.add_mul, Nat.mul_assoc, Nat.mul_comm 10, Nat.add_assoc]
  rw [e] at hl ⊢;have h2 : acc * 10 + dv b ≤ (acc * 10 + dv b) * 10 ^ r.length := Nat.le_mul_of_pos_right _ (Nat.pow_pos (by decide));have h3 : acc * 10 + dv b < B18 := by omega
  unfold B18 at h3;have h4 : dv b = b.toNat - 48 := rfl;rw [Lib.parseUintM, if_pos h1, if_neg (by omega), if_neg (by rw [← h4]; omega), ← h4];exact uintM r _ hd.2 hl
theorem uintB {r : List UInt8} (h0 : r ≠ []) (hd : r.all vg = true) (hl : yy r < B18) : Lib.parseUintB 64 r = .ok (yy r) := by
 rw [Lib.parseUintB, if_neg h0, uintM r 0 hd (by rw [Nat.zero_mul, Nat.zero_add]; exact hl), Nat.zero_mul, Nat.zero_add]
theorem parseU (r : List UInt8) (w : World) (h0 : r ≠ []) (hd : r.all    vg = true) (hl :    yy r < B18) (hs : r.length ≤ 18) :
 Calls Tryd.prog 23 #[.string ⟨r.toArray⟩, .int .i64 10, .int .i64 64] w fun e w' => e = .returned (.tuple #[.int .u64 ((   yy r : Nat) : Int), .nilIface]) ∧ Below w.heap.size w w' :=
 (Tryd.strconv_ParseUint_10_at64_ok ⟨r.toArray⟩ (by rw [     vm]; omega) (   yy r) (uintB h0 hd hl) w).mono fun _ _ ⟨a, b⟩ =>
  ⟨a, by rcases b with rfl | rfl; exact Below.refl _ _; exact Joins.below_bytesWorld _ _ _ _ (Nat.le_refl _)⟩
theorem strip_cons {b : UInt8} {r : List UInt8} (h : b ≠ 48) : gf (b :: r) = b :: r := by rw [gf, if_neg h]
theorem strip_zero (r : List UInt8) : gf (48 :: r) = gf r := by rw [gf, if_pos rfl]
theorem ydz (l : List UInt8) (j : Nat) : (⟨l.toArray⟩ : ByteArray)[j]? = l[j]? := by rw [ba_get]
theorem all_get {p : UInt8 → Bool} {l : List UInt8} {k : Nat} {b : UInt8} (hb : l[k]? = some b) (h : (l.take k).all p = true) (hp : p b = true) : (l.take (k + 1)).all p = true := by
 rw [List.take_add_one, List.all_append, h, hb];simpa using hp
theorem ykq {l : List UInt8} {k : Nat} {b : UInt8} (hb : l[k]? = some b) (h : vg b = false) : l.all vg = false := by
 rw [Bool.eq_false_iff];intro ha;rw [List.all_eq_true.1 ha b (List.mem_of_getElem? hb)] at h;cases h
theorem ymz (l : List UInt8) : (⟨l.toArray⟩ : ByteArray).toList = l := by
 rw [ByteArray.toList_eq]
theorem zwv {u : List UInt8} {e : Nat} (h0 : 0 < e) (he : e ≤ u.length) : (u.take e).drop (e - 18) ≠ [] := by
 intro h;have := congrArg List.length h;rw [List.length_drop, List.length_take] at this;simp at this
 omega
theorem znv {u : List UInt8} (hs : u.all vg = true) (e : Nat) : ((u.take e).drop (e - 18)).all vg = true := by
 rw [List.all_eq_true]; intro x hx;exact List.all_eq_true.1 hs x (List.mem_of_mem_take (List.mem_of_mem_drop hx))
theorem znk (u : List UInt8) (e : Nat) : ((u.take e).drop (e - 18)).length ≤ 18 := by rw [List.length_drop, List.length_take]; omega
section
variable (bs r : List UInt8) (w : World)
theorem wparse_neg (hr : r ≠ []) (hbs : bs = 45 :: r) (hs : bs.length ≤ 140737488355328) : Calls Tryd.prog 20 #[.string ⟨bs.toArray⟩] w (kg w (gb true r) (jp r)) := by
 have hat0 : (⟨bs.toArray⟩ : ByteArray)[0]? = some 45 := by rw [ydz, hbs]; rfl
 have hbl : bs.length = r.length + 1 := by rw [hbs]; rfl
 have hpos : (0 : Int) < ((⟨bs.toArray⟩ : ByteArray).size : Int) := by rw [vm]; omega
 refine yl Tryd.func20 rfl Tryd.ntmps20 rfl ?_;have HF : Per (No) w (fun _ => True) := Per.true_;have LW := erx (No) w;have XLW := grx (No) w;have E := erx (No) w;refine srx (za rfl (jb zr61 ?_));intro gb1 w2 Bb1 Eb1 Gb1;have Gb1 : _ ≤ gb1 := Nat.le_trans E.size Gb1;have GLb1 := Nat.le_trans LW.size Gb1;replace E := E.trans Eb1.no;replace HF := HF.cons (yb Gb1)
 replace E := E.cons (some gb1);replace XLW := Mut.grow XLW (fun k e => Or.inr (Nat.le_trans LW.size ((yb Gb1) k e)))
 refine anx rfl (srx (mvx rfl (za rfl (qc Tryd.underlying9 rfl (za rfl (qq rfl rfl (mvx rfl (yd 13 (.bool true) rfl (by rw [decide_eq_true hpos]) (onx rfl (zq rfl (onx rfl (gj (j := 0) Tryd.underlying9 rfl rfl rfl hat0 (onx rfl (ye rfl rfl (za rfl (zw rfl rfl (anx rfl (zf (srx (mvx rfl (rnx (yi rfl (zi (mvx rfl (za rfl (vo (l := 1) (h := bs.length) Tryd.underlying9 rfl ⟨_, rfl⟩ (vm bs).symm (by omega) (by rw [vm]; omega) (yd 20 (.string ⟨r.toArray⟩) rfl ((by rw [ztk, List.take_length, hbs]; rfl : (.string ((⟨bs.toArray⟩ : ByteArray).extract 1 bs.length) : Value) = _)) (anx rfl (zf (srx (mvx rfl (za rfl (xz rfl rfl (rnx (zu 4 (.bool true) rfl ((by rfl : (.bool true : Value) = _)) ?_)))))))))))))))))))))))))))))))))))
 have hne0 : (⟨r.toArray⟩ : ByteArray).toList ≠ (⟨#[]⟩ : ByteArray).toList := by rw [ymz, show (⟨#[]⟩ : ByteArray).toList = [] from ymz []]; exact hr
 refine zu 22 (.bool false) rfl (by rw [beq_eq_false_iff_ne.2 hne0]) (zy rfl (zj (ze (zf (srx (mvx rfl (za rfl (qc Tryd.underlying9 rfl (mvx rfl (rnx (zx (zu 25 (.int .i64 ((r.length : Nat) : Int)) rfl (by rw [vm]) (zu 26 (.int .i64 ((0 : Nat) : Int)) rfl ((by rfl : (.int .i64 0 : Value) = _)) ?_)))))))))))));replace HF := HF.on E
 replace LW := LW.step E XLW;replace E := erx (Mut [(some gb1)]) w2
 refine qk (ι := Nat) (fun k => [(0, .string ⟨r.toArray⟩), (2, .pointer (some ⟨gb1, 0, none⟩)), (3, .int .i64 0), (4, .bool true), (25, .int .i64 ((r.length : Nat) : Int)), (26, .int .i64 (k : Int))]) (fun k w' => Ext (Mut [(some gb1)]) w2 w' ∧ Blk w' gb1 61 (#[.bool false, .slice none 0 0]) ∧ (k ≤ r.length ∧ (r.take k).all vg = true)) (fun k => r.length - k) 0 ⟨rfl, rfl, rfl, rfl, rfl, rfl, trivial⟩ ⟨Ext.refl _ _, (by exact Bb1), ⟨Nat.zero_le _, rfl⟩⟩ ?_
 have LTb1 := (yj Bb1.lt);rintro k w4 ⟨M3, Bb1, ⟨hk, hall⟩⟩;have XM3 : Gro (Mut [(some gb1)]) (Mut [(some gb1)]) w2 := (Mut.grow Mut.none_ (fun k e => Or.inl (Mut.head k e)));replace E := E.trans M3;replace HF := HF.on E;replace LW := LW.step E XLW;replace E := erx (Mut [(some gb1)]) w4;clear LTb1
 refine srx (za rfl (yt rfl rfl (rnx (zf (zt rfl (fun q => ?_) (fun q => ?_))))))
 ·
  have q := of_decide_eq_true q;have hk1 : k < r.length := by omega
  obtain ⟨b, hb9⟩ : ∃ b, r[k]? = some b := ⟨_, List.getElem?_eq_getElem hk1⟩;have hat : (⟨r.toArray⟩ : ByteArray)[k]? = some b := by rw [ydz]; exact hb9
  refine zj (ze (zf (zx (srx (mvx rfl (anx rfl (srx (mvx rfl (mvx rfl (za rfl (gj (j := k) Tryd.underlying9 rfl rfl rfl hat (za rfl (yt rfl rfl (mvx rfl (yo 33 rfl (fun h => ?_) (fun h => ?_))))))))))))))))
  ·
   have h := of_decide_eq_true h;obtain ⟨e1, e2⟩ := zuk (neg := true) (ykq hb9 (by unfold vg; simp; omega))
   refine za rfl (zc rfl (za rfl (zc rfl (za rfl (zc rfl (za rfl (zc rfl (za rfl (zw rfl rfl (rnx (yi rfl (srx (za rfl (jm (cs := #[.bool false, .slice none 0 0]) pl61 zr61 rfl rfl (qf (qz xb rfl rfl Bb1 rfl rfl (Nat.le_of_ble_eq_true rfl) ?_))))))))))))))));intro w5 Bx Eb1;replace Bb1 := Bx;replace E := E.step1 Eb1 Mut.head
   refine anx rfl (zr (zn (zd (zd (zn (zd (zp (rs := [.cell 2 61, .tmp 3]) (vs := [_, _]) rfl ⟨⟨_, rfl, gq Tryd.underlying61 rfl xb Bb1 rfl⟩, rfl, trivial⟩ ?_)))))));exact by rw [e1, e2]; exact jg (LW.step E XLW).toBelow
  ·
   have h := of_decide_eq_false h;refine onx rfl (zq rfl (onx rfl (zq rfl (onx rfl (gj (j := k) Tryd.underlying9 rfl rfl rfl hat (onx rfl (qq rfl rfl (za rfl (ya rfl rfl (rnx (zt rfl (fun h2 => ?_) (fun h2 => ?_))))))))))))
   ·
    have h2 := of_decide_eq_true h2;obtain ⟨e1, e2⟩ := zuk (neg := true) (ykq hb9 (by unfold vg; simp; omega));refine srx (za rfl (jm (cs := #[.bool false, .slice none 0 0]) pl61 zr61 rfl rfl (qf (qz xb rfl rfl Bb1 rfl rfl (Nat.le_of_ble_eq_true rfl) ?_))));intro w6 Bx Eb1;replace Bb1 := Bx;replace E := E.step1 Eb1 Mut.head
    refine anx rfl (zr (zn (zd (zd (zn (zd (zp (rs := [.cell 2 61, .tmp 3]) (vs := [_, _]) rfl ⟨⟨_, rfl, gq Tryd.underlying61 rfl xb Bb1 rfl⟩, rfl, trivial⟩ ?_)))))));exact by rw [e1, e2]; exact jg (LW.step E XLW).toBelow
   ·
    have h2 := of_decide_eq_false h2;have hdig : vg b = true := dig_of (by omega) (by omega);refine zj (zm (ze (zi (za rfl (yg rfl rfl (zo (by omega)) (mvx rfl (yf (yr 26 (.int .i64 ((k + 1 : Nat) : Int)) rfl ((by rfl : (.int .i64 ((k : Int) + 1) : Value) = _)) ?_))))))))
    exact ym (k + 1) (by show r.length - (k + 1) < r.length - k; omega) ⟨rfl, rfl, rfl, rfl, rfl, rfl, trivial⟩ ⟨M3.step E XM3, (by exact Bb1), by omega, all_get hb9 hall hdig⟩
 ·
  have q := of_decide_eq_false q;obtain rfl : k = r.length := by omega
  rw [List.take_length] at hall;refine yn (zg (zg (zv (ze (zf (zx ?_))))));replace HF := HF.on E;replace LW := LW.step E XLW;replace M3 := M3.step E XM3;replace E := erx (Mut [(some gb1)]) w4
  refine qk (ι := List UInt8) (fun u => [(0, .string ⟨u.toArray⟩), (2, .pointer (some ⟨gb1, 0, none⟩)), (3, .int .i64 0), (4, .bool true)]) (fun u w' => Ext (Mut [(some gb1)]) w4 w' ∧ Blk w' gb1 61 (#[.bool false, .slice none 0 0]) ∧ (gf u = gf r ∧ u.length ≤ r.length)) (fun u => u.length) r ⟨rfl, rfl, rfl, rfl, trivial⟩ ⟨Ext.refl _ _, (by exact Bb1), ⟨rfl, Nat.le_refl _⟩⟩ ?_
  have LTb1 := (yj Bb1.lt);rintro u w8 ⟨M7, Bb1, ⟨hu1, hu2⟩⟩;have XM7 : Gro (Mut [(some gb1)]) (Mut [(some gb1)]) w4 := (Mut.grow Mut.none_ (fun k e => Or.inl (Mut.head k e)));replace E := E.trans M7;replace HF := HF.on E;replace LW := LW.step E XLW;replace M3 := M3.step E XM3;replace E := erx (Mut [(some gb1)]) w8;clear LTb1
  refine zf (srx (mvx rfl (za rfl (qc Tryd.underlying9 rfl (za rfl (qq rfl rfl (mvx rfl (yd 44 (.bool (decide ((0 : Int) < ((u.length : Nat) : Int)))) rfl (by rw [vm]) (yo 44 rfl (fun h => ?_) (fun h => ?_))))))))))
  ·
   have h := of_decide_eq_true h;obtain ⟨b, u2, hbu⟩ : ∃ b u2, u = b :: u2 := by cases u with | nil => simp at h | cons b u2 => exact ⟨b, u2, rfl⟩
   have hat : (⟨u.toArray⟩ : ByteArray)[0]? = some b := by rw [ydz, hbu]; rfl
   refine onx rfl (zq rfl (onx rfl (gj (j := 0) Tryd.underlying9 rfl rfl rfl hat (onx rfl (ye rfl rfl (za rfl (zw rfl rfl (rnx (zt rfl (fun h2 => ?_) (fun h2 => ?_))))))))))
   ·
    have h2 : b = 48 := UInt8.toNat_inj.1 (by have h7 := of_decide_eq_true h2; have h8 : (48 : UInt8).toNat = 48 := rfl; omega);have hul : u.length = u2.length + 1 := by rw [hbu]; rfl
    refine zj (ze (zx (zi (mvx rfl (za rfl (vo (l := 1) (h := u.length) Tryd.underlying9 rfl ⟨_, rfl⟩ (vm u).symm (by omega) (by rw [vm]; omega) (yd 50 (.string ⟨u2.toArray⟩) rfl ((by rw [ztk, List.take_length, hbu]; rfl : (.string ((⟨u.toArray⟩ : ByteArray).extract 1 u.length) : Value) = _)) (avx rfl (yf (zm ?_))))))))))
    exact ym u2 (by show u2.length < u.length; omega) ⟨rfl, rfl, rfl, rfl, trivial⟩ ⟨M7.step E XM7, (by exact Bb1), by rw [← hu1, hbu, h2, strip_zero], by omega⟩
   ·
    have h2 : b ≠ 48 := fun e => by rw [e] at h2; exact absurd h2 (by decide)
    refine yn (zg (zg (zv (ze (zf (srx (mvx rfl (za rfl (qc Tryd.underlying9 rfl (za rfl (qq rfl rfl (rnx ?_))))))))))));have hstr : gf r = u := by rw [← hu1]; exact by rw [hbu, strip_cons h2]
    have hal9 := zdv hall;rw [hstr] at hal9;have hln9 := zmk hall;rw [hstr] at hln9;have hnum : yy u = yy r := by rw [← hstr, oc]
    refine zu 53 (.bool (decide ((540 : Int) < ((u.length : Nat) : Int)))) rfl (by rw [vm]) (zt rfl (fun h3 => ?_) (fun h3 => ?_))
    ·
     have h3 := of_decide_eq_true h3;have e1 : jp r = 2 := by unfold jp; rw [if_pos ⟨hr, hall⟩, if_neg (by omega)]
     have e2 : gb true r = 0 := by unfold gb; rw [if_neg (by rintro ⟨_, _, h⟩; omega)]
     refine srx (za rfl (jm (cs := #[.bool false, .slice none 0 0]) pl61 zr61 rfl rfl (qf (qz xb rfl rfl Bb1 rfl rfl (Nat.le_of_ble_eq_true rfl) ?_))));intro w9 Bx Eb1;replace Bb1 := Bx;replace E := E.step1 Eb1 Mut.head
     refine anx rfl (zr (zd (zp (rs := [.cell 2 61, .tmp 3]) (vs := [_, _]) rfl ⟨⟨_, rfl, gq Tryd.underlying61 rfl xb Bb1 rfl⟩, rfl, trivial⟩ ?_)));exact by rw [e1, e2]; exact jg (LW.step E XLW).toBelow
    ·
     have h3 := of_decide_eq_false h3;have e1 : jp r = 0 := by unfold jp; rw [if_pos ⟨hr, hall⟩, if_pos (by omega)]
     have e2 : gb true r = sgn true (yy r) := by unfold gb; rw [if_pos ⟨hr, hall, by omega⟩]
     refine zj (ze (srx (anx rfl (zf (srx (mvx rfl (za rfl (qc Tryd.underlying9 rfl (anx rfl (zx ?_))))))))));have Ol : World.ownsRow w8 w.heap.size 30 1 (.slice none 0 0) 0 ([]) := jd;have Dl_b1 : Apart ((Value.slice none 0 0).ownBlock) (some gb1) := fun _ e => by cases e
     have Db1_l := Dl_b1.symm;replace HF := HF.cons (ju);replace E := E.cons ((Value.slice none 0 0).ownBlock);replace XLW := Mut.grow XLW (fun k e => Or.inr (Nat.le_trans LW.size ((ju) k e)));replace XM3 := Mut.grow XM3 (fun k e => Or.inr (Nat.le_trans M3.size ((ju) k e)));replace XM7 := Mut.grow XM7 (fun k e => Or.inr (Nat.le_trans M7.size ((ju) k e)))
     refine zu 7 (.int .i64 ((u.length : Int) - 18 * ((0 : Nat) : Int))) rfl (by rw [vm]; simp) ?_;replace HF := HF.on E;replace LW := LW.step E XLW;replace M3 := M3.step E XM3;replace M7 := M7.step E XM7;replace E := erx (Mut [((Value.slice none 0 0).ownBlock), (some gb1)]) w8
     refine qk (ι := Nat × List Nat × Option Addr × Nat) (fun (k, xs, A1, c1) => [(0, .string ⟨u.toArray⟩), (2, .pointer (some ⟨gb1, 0, none⟩)), (3, .int .i64 0), (4, .bool true), (6, .slice A1 k c1), (7, .int .i64 ((u.length : Int) - 18 * (k : Int)))]) (fun (k, xs, A1, c1) w' => Ext (Mut [((Value.slice none 0 0).ownBlock), (some gb1)]) w8 w' ∧ World.ownsRow w' w.heap.size 30 1 (.slice A1 k c1) k (xs.map fun x : Nat => Value.int .u64 (x : Int)) ∧ Blk w' gb1 61 (#[.bool false, .slice none 0 0]) ∧ (∀ q9, ((Value.slice A1 k c1).ownBlock) = some q9 → ((Value.slice none 0 0).ownBlock) = some q9 ∨ w8.heap.size ≤ q9) ∧ (xs.length = k ∧ small B18 xs ∧ val B18 xs = yy (u.drop (u.length - 18 * k)) ∧ 18 * k ≤ u.length + 17)) (fun (k, xs, A1, c1) => u.length + 18 - 18 * k) (0, [], none, 0) ⟨rfl, rfl, rfl, rfl, rfl, rfl, trivial⟩ ⟨Ext.refl _ _, (by exact Ol), (by exact Bb1), (fun _ e => Or.inl e), ⟨rfl, zmv, by rw [Nat.mul_zero, Nat.sub_zero, List.drop_length]; rfl, by omega⟩⟩ ?_
     have LTl := (vk Ol);have LTb1 := (yj Bb1.lt);clear Ol;rintro ⟨k, xs, A1, c1⟩ w11 ⟨M10, Ol, Bb1, KlM10, ⟨hk, hsm, hval, hkl⟩⟩;replace Dl_b1 : Apart ((Value.slice A1 k c1).ownBlock) (some gb1) := Dl_b1.turn KlM10 LTb1;replace Db1_l := Dl_b1.symm
     have XM10 : Gro (Mut [((Value.slice A1 k c1).ownBlock), (some gb1)]) (Mut [((Value.slice none 0 0).ownBlock), (some gb1)]) w8 := (Mut.grow (Mut.grow Mut.none_ (fun k e => Or.inl ((Mut.tail Mut.head) k e))) (fun k e => (KlM10 k e).elim (fun e => Or.inl (Mut.head k e)) Or.inr));replace E := E.trans M10;replace HF := HF.turn E XM10;have ZLW := LW.size
     have XT := fun q9 (h : (Mut [((Value.slice A1 k c1).ownBlock), (some gb1)]) q9) => (XM10 q9 h).elim (XLW q9) (fun h => Or.inr (Nat.le_trans LW.size h));replace LW := LW.step E XLW;replace XLW := XT;have ZM3 := M3.size;have XT := fun q9 (h : (Mut [((Value.slice A1 k c1).ownBlock), (some gb1)]) q9) => (XM10 q9 h).elim (XM3 q9) (fun h => Or.inr (Nat.le_trans M3.size h))
     replace M3 := M3.step E XM3;replace XM3 := XT;have ZM7 := M7.size;have XT := fun q9 (h : (Mut [((Value.slice A1 k c1).ownBlock), (some gb1)]) q9) => (XM10 q9 h).elim (XM7 q9) (fun h => Or.inr (Nat.le_trans M7.size h));replace M7 := M7.step E XM7;replace XM7 := XT;clear ZLW;clear ZM3;clear ZM7;replace E := erx (Mut [((Value.slice A1 k c1).ownBlock), (some gb1)]) w11;clear LTl;clear LTb1
     refine zf (srx (mvx rfl (za rfl (qq rfl rfl (rnx (zt rfl (fun q => ?_) (fun q => ?_)))))))
     ·
      have q := of_decide_eq_true q;obtain ⟨e, he⟩ : ∃ e : Nat, e = u.length - 18 * k := ⟨_, rfl⟩;have he0 : 0 < e := by omega
      have hel : e ≤ u.length := by omega
      refine zj (ze (zf (zx (srx (mvx rfl (mvx rfl (za rfl (yw rfl rfl (zo (by omega)) (za rfl (ow_max rfl rfl (yd 65 (.int .i64 ((e - 18 : Nat) : Int)) rfl ((by congr 1; split <;> omega : (.int .i64 (if (u.length : Int) - 18 * (k : Int) - 18 > 0 then (u.length : Int) - 18 * (k : Int) - 18 else 0) : Value) = _)) (mvx rfl (yd 66 (.int .i64 ((e : Nat) : Int)) rfl ((by rw [show (u.length : Int) - 18 * (k : Int) = ((e : Nat) : Int) by omega] : (.int .i64 ((u.length : Int) - 18 * (k : Int)) : Value) = _)) (za rfl (vo (l := e - 18) (h := e) Tryd.underlying9 rfl ⟨_, rfl⟩ ⟨_, rfl⟩ (Nat.sub_le _ _) (by rw [vm]; exact hel) (yd 67 (.string ⟨((u.take e).drop (e - 18)).toArray⟩) rfl ((by rw [ztk] : (.string ((⟨u.toArray⟩ : ByteArray).extract (e - 18) e) : Value) = _)) (za rfl (zz en23 rfl ((parseU _ _ (zwv he0 hel) (znv hal9 e) (jw hal9 e) (znk u e)).mono ?_)))))))))))))))))))
      rintro e w12 ⟨rfl, hb⟩;refine ⟨_, rfl, ?_⟩;have Ec := Ext.of_below hb No;replace Ol := ji Ol Ec NotIn.nil;replace Bb1 := Bb1.extN Ec NotIn.nil;replace E := E.trans Ec.no
      refine mvx rfl (za rfl (yc rfl rfl (za rfl (yc rfl rfl (avx rfl (anx rfl (zi (mvx rfl (mvx rfl (za rfl (qa (cs := #[.int .u64 ((yy ((u.take e).drop (e - 18)) : Nat) : Int)]) Tryd.underlying59 sz30 zr30 (by decide) rfl (by rw [qt]; rfl) ?_)))))))))));intro gb13 w14 Bb13 Eb13 Gb13
      have Db13_l : Apart (some gb13) ((Value.slice A1 k c1).ownBlock) := Apart.of_lt (vk Ol) Gb13;have Dl_b13 := Db13_l.symm;have Db13_b1 : Apart (some gb13) (some gb1) := Apart.of_lt (yj Bb1.lt) Gb13;have Db1_b13 := Db13_b1.symm;have Gb13 : _ ≤ gb13 := Nat.le_trans E.size Gb13;have GLb13 := Nat.le_trans LW.size Gb13;replace Ol := ji Ol Eb13 NotIn.nil
      replace Bb1 := Bb1.extN Eb13 NotIn.nil;replace E := E.trans Eb13.no;replace HF := HF.cons (yb Gb13);replace E := E.cons (some gb13);replace XLW := Mut.grow XLW (fun k e => Or.inr (Nat.le_trans LW.size ((yb Gb13) k e)));replace XM3 := Mut.grow XM3 (fun k e => Or.inr (Nat.le_trans M3.size ((yb Gb13) k e)))
      replace XM7 := Mut.grow XM7 (fun k e => Or.inr (Nat.le_trans M7.size ((yb Gb13) k e)));replace XM10 := Mut.grow XM10 (fun k e => Or.inr (Nat.le_trans M10.size ((yb Gb13) k e)));replace HF := HF.on E;replace LW := LW.step E XLW;replace M3 := M3.step E XM3;replace M7 := M7.step E XM7;replace M10 := M10.step E XM10
      have SB : ∀ q9, Mut [((Value.slice A1 k c1).ownBlock), (some gb1)] q9 → Mut [(some gb13), ((Value.slice A1 k c1).ownBlock), (some gb1)] q9 := (Mut.skip (Mut.keep (Mut.keep Mut.nil_)));replace HF := HF.less SB;replace XLW := fun k h => XLW k (SB k h);replace XM3 := fun k h => XM3 k (SB k h);replace XM7 := fun k h => XM7 k (SB k h);replace XM10 := fun k h => XM10 k (SB k h);clear SB
      replace E := erx (Mut [((Value.slice A1 k c1).ownBlock), (some gb1)]) w14;replace HF := HF.and (Per.blkN Bb13 (NotIn.cons Db13_l (NotIn.cons Db13_b1 NotIn.nil)))
      refine za rfl (jj (news := [.int .u64 ((yy ((u.take e).drop (e - 18)) : Nat) : Int)]) Tryd.underlying59 inf30 rfl (by decide) rfl Ol rfl (xg (HF.on E).here.2 ((HF.on E).here.2).lt rfl) (by simp [Value.oneCell']) (by unfold maxLen; omega) (by omega) (by exact Nat.le_trans LW.size E.size) ?_);intro v0 w15 On En KN;obtain ⟨A2, c2, rfl⟩ := vf On
      replace KN : ∀ q9, ((Value.slice A2 (k + 1) c2).ownBlock) = some q9 → ((Value.slice A1 k c1).ownBlock) = some q9 ∨ w14.heap.size ≤ q9 := KN;have LTb1 := (yj Bb1.lt);replace Bb1 := Bb1.extN En (NotIn.cons Db1_l NotIn.nil);replace Dl_b1 : Apart ((Value.slice A2 (k + 1) c2).ownBlock) (some gb1) := Dl_b1.turn KN LTb1;replace Db1_l := Dl_b1.symm;clear LTb1
      have HY : Gro (Mut [((Value.slice A2 (k + 1) c2).ownBlock), (some gb1)]) (Mut [((Value.slice A1 k c1).ownBlock), (some gb1)]) w14 := (Mut.grow (Mut.grow Mut.none_ (fun k e => Or.inl ((Mut.tail Mut.head) k e))) (fun k e => (KN k e).elim (fun e => Or.inl (Mut.head k e)) (fun h => Or.inr (Nat.le_trans E.size h))))
      replace KlM10 : ∀ q9, ((Value.slice A2 (k + 1) c2).ownBlock) = some q9 → ((Value.slice none 0 0).ownBlock) = some q9 ∨ w8.heap.size ≤ q9 := fun k e => (KN k e).elim (KlM10 k) (fun h => Or.inr (Nat.le_trans M10.size (Nat.le_trans E.size h)));replace E := E.step1 En Mut.head
      have XT := fun q9 (h : (Mut [((Value.slice A2 (k + 1) c2).ownBlock), (some gb1)]) q9) => (HY q9 h).elim (XLW q9) (fun h => Or.inr (Nat.le_trans LW.size h));have XT := fun q9 (h : (Mut [((Value.slice A2 (k + 1) c2).ownBlock), (some gb1)]) q9) => (HY q9 h).elim (XM3 q9) (fun h => Or.inr (Nat.le_trans M3.size h))
      have XT := fun q9 (h : (Mut [((Value.slice A2 (k + 1) c2).ownBlock), (some gb1)]) q9) => (HY q9 h).elim (XM7 q9) (fun h => Or.inr (Nat.le_trans M7.size h));have XT := fun q9 (h : (Mut [((Value.slice A2 (k + 1) c2).ownBlock), (some gb1)]) q9) => (HY q9 h).elim (XM10 q9) (fun h => Or.inr (Nat.le_trans M10.size h));replace M10 := M10.step E XM10;replace XM10 := XT
      replace E := erx (Mut [((Value.slice A2 (k + 1) c2).ownBlock), (some gb1)]) w15;clear HY;replace Ol : World.ownsRow w15 w.heap.size 30 1 (.slice A2 (k + 1) c2) (k + 1) ((xs ++ [yy ((u.take e).drop (e - 18))]).map fun x : Nat => Value.int .u64 (x : Int)) := by
       have e : ((xs.map fun x : Nat => Value.int .u64 (x : Int)) : List Value) ++ ([.int .u64 ((yy ((u.take e).drop (e - 18)) : Nat) : Int)] : List Value) = (xs ++ [yy ((u.take e).drop (e - 18))]).map fun x : Nat => Value.int .u64 (x : Int) := by simp
       rw [← e];exact On
      clear On KN En
      refine avx rfl (yf (zm (ze (zi (mvx rfl (za rfl (yw rfl rfl (zo (by omega)) (avx rfl (yf (yr 7 (.int .i64 ((u.length : Int) - 18 * ((k + 1 : Nat) : Int))) rfl ((by rw [show (u.length : Int) - 18 * (k : Int) - 18 = (u.length : Int) - 18 * ((k + 1 : Nat) : Int) by omega] : (.int .i64 (((u.length : Int) - 18 * (k : Int)) - 18) : Value) = _)) ?_))))))))))
      exact ym (k + 1, xs ++ [yy ((u.take e).drop (e - 18))], A2, c2) (by show u.length + 18 - 18 * (k + 1) < u.length + 18 - 18 * k; omega) ⟨rfl, rfl, rfl, rfl, rfl, rfl, trivial⟩ ⟨M10.step E XM10, (by exact Ol), (by exact Bb1), KlM10, by rw [List.length_append, hk]; rfl, zfz hsm (jw hal9 e), by rw [zpv hal9 hk (by omega : u.length = e + 18 * k) (by rw [hval, he]), show u.length - 18 * (k + 1) = e - 18 by omega], by omega⟩
     ·
      have q := of_decide_eq_false q;have hv9 : val B18 xs = yy r := by rw [hval, show u.length - 18 * k = 0 by omega, List.drop_zero, hnum]
      have Ol9 := Ol;have hown : Own w11 w.heap.size A1 c1 xs := ⟨by rw [hk]; exact Ol9, fun x hx => Nat.lt_trans (hsm x hx) (by decide)⟩;have hform : ∀ w', Nums w' A1 xs → Calls Tryd.prog 24 #[.bool true, .slice A1 k c1] w' (yfz w' (sgn true (yy r))) := fun w' h => by
       have h9 := zxk true A1 c1 xs w' h hsm (by omega);rwa [hk, hv9] at h9
      replace HF := HF.on E;replace LW := LW.step E XLW;have SB : ∀ q9, Mut [(some gb1)] q9 → Mut [((Value.slice A1 k c1).ownBlock), (some gb1)] q9 := (Mut.skip (Mut.keep Mut.nil_));replace HF := HF.less SB;replace XLW := fun k h => XLW k (SB k h);clear SB;replace E := erx (Mut [(some gb1)]) w11;replace HF := HF.and (Per.ownsN Ol (NotIn.cons Dl_b1 NotIn.nil));clear Ol;replace HF := HF.on E
      replace LW := LW.step E XLW;replace E := erx (Mut [(some gb1)]) w11;replace HF := HF.and (Per.ownN hown (NotIn.cons (ko hown Bb1 (by decide)) NotIn.nil));refine yn (zg (zg (zv (ze (srx (mvx rfl (mvx rfl (za rfl (zz en24 rfl ((hform _ ((HF.on E).here.2).nums).mono ?_))))))))));rintro e w16 ⟨A2, c2, rfl, o2, hb⟩;refine ⟨_, rfl, ?_⟩
      have SC := Nat.le_trans LW.size E.size;have Ec := Ext.of_below hb No;replace Bb1 := Bb1.extN Ec NotIn.nil;replace E := E.trans Ec.no;have S2 := SC;replace HF := HF.on E;replace LW := LW.step E XLW;replace E := erx (Mut [(some gb1)]) w16;replace HF := HF.and (Per.ownN o2 (NotIn.cons (ko o2 Bb1 (by decide)) NotIn.nil))
      refine qf (qz xb rfl rfl Bb1 rfl rfl (Nat.le_of_ble_eq_true rfl) ?_);intro w17 Bx Eb1;replace Bb1 := Bx;replace E := E.step1 Eb1 Mut.head;replace HF := HF.on E;replace LW := LW.step E XLW;have SB : ∀ q9, No q9 → Mut [(some gb1)] q9 := (Mut.skip Mut.nil_);replace HF := HF.less SB;replace XLW := fun k h => XLW k (SB k h);clear SB;replace E := erx (No) w17
      replace HF := HF.and (Per.blkN Bb1 NotIn.nil);refine anx rfl (zr (zp (rs := [.cell 2 61, .tmp 3]) (vs := [_, _]) rfl ⟨⟨_, rfl, gq Tryd.underlying61 rfl xb (HF.on E).here.2 rfl⟩, rfl, trivial⟩ ?_));exact by rw [e1, e2]; exact ⟨A2, c2, rfl, ((HF.on E).here.1.2).mono S2, (LW.step E XLW).toBelow⟩
  ·
   have h := of_decide_eq_false h;have hu0 : u = [] := by cases u with | nil => rfl | cons b u2 => simp at h
   refine za rfl (zc rfl (za rfl (zc rfl (za rfl (zc rfl (za rfl (ya rfl rfl (rnx (zy rfl (yn (zg (zg (zv (ze (zf (srx (mvx rfl (za rfl (qc Tryd.underlying9 rfl (za rfl (qq rfl rfl (rnx ?_))))))))))))))))))))));have hstr : gf r = u := by rw [← hu1]; exact by rw [hu0]; rfl
   have hal9 := zdv hall;rw [hstr] at hal9;have hln9 := zmk hall;rw [hstr] at hln9;have hnum : yy u = yy r := by rw [← hstr, oc]
   refine zu 53 (.bool (decide ((540 : Int) < ((u.length : Nat) : Int)))) rfl (by rw [vm]) (zt rfl (fun h3 => ?_) (fun h3 => ?_))
   ·
    have h3 := of_decide_eq_true h3;have e1 : jp r = 2 := by unfold jp; rw [if_pos ⟨hr, hall⟩, if_neg (by omega)]
    have e2 : gb true r = 0 := by unfold gb; rw [if_neg (by rintro ⟨_, _, h⟩; omega)]
    refine srx (za rfl (jm (cs := #[.bool false, .slice none 0 0]) pl61 zr61 rfl rfl (qf (qz xb rfl rfl Bb1 rfl rfl (Nat.le_of_ble_eq_true rfl) ?_))));intro w18 Bx Eb1;replace Bb1 := Bx;replace E := E.step1 Eb1 Mut.head
    refine anx rfl (zr (zd (zp (rs := [.cell 2 61, .tmp 3]) (vs := [_, _]) rfl ⟨⟨_, rfl, gq Tryd.underlying61 rfl xb Bb1 rfl⟩, rfl, trivial⟩ ?_)));exact by rw [e1, e2]; exact jg (LW.step E XLW).toBelow
   ·
    have h3 := of_decide_eq_false h3;have e1 : jp r = 0 := by unfold jp; rw [if_pos ⟨hr, hall⟩, if_pos (by omega)]
    have e2 : gb true r = sgn true (yy r) := by unfold gb; rw [if_pos ⟨hr, hall, by omega⟩]
    refine zj (ze (srx (anx rfl (zf (srx (mvx rfl (za rfl (qc Tryd.underlying9 rfl (anx rfl (zx ?_))))))))));have Ol : World.ownsRow w8 w.heap.size 30 1 (.slice none 0 0) 0 ([]) := jd;have Dl_b1 : Apart ((Value.slice none 0 0).ownBlock) (some gb1) := fun _ e => by cases e
    have Db1_l := Dl_b1.symm;replace HF := HF.cons (ju);replace E := E.cons ((Value.slice none 0 0).ownBlock);replace XLW := Mut.grow XLW (fun k e => Or.inr (Nat.le_trans LW.size ((ju) k e)));replace XM3 := Mut.grow XM3 (fun k e => Or.inr (Nat.le_trans M3.size ((ju) k e)));replace XM7 := Mut.grow XM7 (fun k e => Or.inr (Nat.le_trans M7.size ((ju) k e)))
    refine zu 7 (.int .i64 ((u.length : Int) - 18 * ((0 : Nat) : Int))) rfl (by rw [vm]; simp) ?_;replace HF := HF.on E;replace LW := LW.step E XLW;replace M3 := M3.step E XM3;replace M7 := M7.step E XM7;replace E := erx (Mut [((Value.slice none 0 0).ownBlock), (some gb1)]) w8
    refine qk (ι := Nat × List Nat × Option Addr × Nat) (fun (k, xs, A1, c1) => [(0, .string ⟨u.toArray⟩), (2, .pointer (some ⟨gb1, 0, none⟩)), (3, .int .i64 0), (4, .bool true), (6, .slice A1 k c1), (7, .int .i64 ((u.length : Int) - 18 * (k : Int)))]) (fun (k, xs, A1, c1) w' => Ext (Mut [((Value.slice none 0 0).ownBlock), (some gb1)]) w8 w' ∧ World.ownsRow w' w.heap.size 30 1 (.slice A1 k c1) k (xs.map fun x : Nat => Value.int .u64 (x : Int)) ∧ Blk w' gb1 61 (#[.bool false, .slice none 0 0]) ∧ (∀ q9, ((Value.slice A1 k c1).ownBlock) = some q9 → ((Value.slice none 0 0).ownBlock) = some q9 ∨ w8.heap.size ≤ q9) ∧ (xs.length = k ∧ small B18 xs ∧ val B18 xs = yy (u.drop (u.length - 18 * k)) ∧ 18 * k ≤ u.length + 17)) (fun (k, xs, A1, c1) => u.length + 18 - 18 * k) (0, [], none, 0) ⟨rfl, rfl, rfl, rfl, rfl, rfl, trivial⟩ ⟨Ext.refl _ _, (by exact Ol), (by exact Bb1), (fun _ e => Or.inl e), ⟨rfl, zmv, by rw [Nat.mul_zero, Nat.sub_zero, List.drop_length]; rfl, by omega⟩⟩ ?_
    have LTl := (vk Ol);have LTb1 := (yj Bb1.lt);clear Ol;rintro ⟨k, xs, A1, c1⟩ w20 ⟨M19, Ol, Bb1, KlM19, ⟨hk, hsm, hval, hkl⟩⟩;replace Dl_b1 : Apart ((Value.slice A1 k c1).ownBlock) (some gb1) := Dl_b1.turn KlM19 LTb1;replace Db1_l := Dl_b1.symm
    have XM19 : Gro (Mut [((Value.slice A1 k c1).ownBlock), (some gb1)]) (Mut [((Value.slice none 0 0).ownBlock), (some gb1)]) w8 := (Mut.grow (Mut.grow Mut.none_ (fun k e => Or.inl ((Mut.tail Mut.head) k e))) (fun k e => (KlM19 k e).elim (fun e => Or.inl (Mut.head k e)) Or.inr));replace E := E.trans M19;replace HF := HF.turn E XM19;have ZLW := LW.size
    have XT := fun q9 (h : (Mut [((Value.slice A1 k c1).ownBlock), (some gb1)]) q9) => (XM19 q9 h).elim (XLW q9) (fun h => Or.inr (Nat.le_trans LW.size h));replace LW := LW.step E XLW;replace XLW := XT;have ZM3 := M3.size;have XT := fun q9 (h : (Mut [((Value.slice A1 k c1).ownBlock), (some gb1)]) q9) => (XM19 q9 h).elim (XM3 q9) (fun h => Or.inr (Nat.le_trans M3.size h))
    replace M3 := M3.step E XM3;replace XM3 := XT;have ZM7 := M7.size;have XT := fun q9 (h : (Mut [((Value.slice A1 k c1).ownBlock), (some gb1)]) q9) => (XM19 q9 h).elim (XM7 q9) (fun h => Or.inr (Nat.le_trans M7.size h));replace M7 := M7.step E XM7;replace XM7 := XT;clear ZLW;clear ZM3;clear ZM7;replace E := erx (Mut [((Value.slice A1 k c1).ownBlock), (some gb1)]) w20;clear LTl;clear LTb1
    refine zf (srx (mvx rfl (za rfl (qq rfl rfl (rnx (zt rfl (fun q => ?_) (fun q => ?_)))))))
    ·
     have q := of_decide_eq_true q;obtain ⟨e, he⟩ : ∃ e : Nat, e = u.length - 18 * k := ⟨_, rfl⟩;have he0 : 0 < e := by omega
     have hel : e ≤ u.length := by omega
     refine zj (ze (zf (zx (srx (mvx rfl (mvx rfl (za rfl (yw rfl rfl (zo (by omega)) (za rfl (ow_max rfl rfl (yd 65 (.int .i64 ((e - 18 : Nat) : Int)) rfl ((by congr 1; split <;> omega : (.int .i64 (if (u.length : Int) - 18 * (k : Int) - 18 > 0 then (u.length : Int) - 18 * (k : Int) - 18 else 0) : Value) = _)) (mvx rfl (yd 66 (.int .i64 ((e : Nat) : Int)) rfl ((by rw [show (u.length : Int) - 18 * (k : Int) = ((e : Nat) : Int) by omega] : (.int .i64 ((u.length : Int) - 18 * (k : Int)) : Value) = _)) (za rfl (vo (l := e - 18) (h := e) Tryd.underlying9 rfl ⟨_, rfl⟩ ⟨_, rfl⟩ (Nat.sub_le _ _) (by rw [vm]; exact hel) (yd 67 (.string ⟨((u.take e).drop (e - 18)).toArray⟩) rfl ((by rw [ztk] : (.string ((⟨u.toArray⟩ : ByteArray).extract (e - 18) e) : Value) = _)) (za rfl (zz en23 rfl ((parseU _ _ (zwv he0 hel) (znv hal9 e) (jw hal9 e) (znk u e)).mono ?_)))))))))))))))))))
     rintro e w21 ⟨rfl, hb⟩;refine ⟨_, rfl, ?_⟩;have Ec := Ext.of_below hb No;replace Ol := ji Ol Ec NotIn.nil;replace Bb1 := Bb1.extN Ec NotIn.nil;replace E := E.trans Ec.no
     refine mvx rfl (za rfl (yc rfl rfl (za rfl (yc rfl rfl (avx rfl (anx rfl (zi (mvx rfl (mvx rfl (za rfl (qa (cs := #[.int .u64 ((yy ((u.take e).drop (e - 18)) : Nat) : Int)]) Tryd.underlying59 sz30 zr30 (by decide) rfl (by rw [qt]; rfl) ?_)))))))))));intro gb22 w23 Bb22 Eb22 Gb22
     have Db22_l : Apart (some gb22) ((Value.slice A1 k c1).ownBlock) := Apart.of_lt (vk Ol) Gb22;have Dl_b22 := Db22_l.symm;have Db22_b1 : Apart (some gb22) (some gb1) := Apart.of_lt (yj Bb1.lt) Gb22;have Db1_b22 := Db22_b1.symm;have Gb22 : _ ≤ gb22 := Nat.le_trans E.size Gb22;have GLb22 := Nat.le_trans LW.size Gb22;replace Ol := ji Ol Eb22 NotIn.nil
     replace Bb1 := Bb1.extN Eb22 NotIn.nil;replace E := E.trans Eb22.no;replace HF := HF.cons (yb Gb22);replace E := E.cons (some gb22);replace XLW := Mut.grow XLW (fun k e => Or.inr (Nat.le_trans LW.size ((yb Gb22) k e)));replace XM3 := Mut.grow XM3 (fun k e => Or.inr (Nat.le_trans M3.size ((yb Gb22) k e)))
     replace XM7 := Mut.grow XM7 (fun k e => Or.inr (Nat.le_trans M7.size ((yb Gb22) k e)));replace XM19 := Mut.grow XM19 (fun k e => Or.inr (Nat.le_trans M19.size ((yb Gb22) k e)));replace HF := HF.on E;replace LW := LW.step E XLW;replace M3 := M3.step E XM3;replace M7 := M7.step E XM7;replace M19 := M19.step E XM19
     have SB : ∀ q9, Mut [((Value.slice A1 k c1).ownBlock), (some gb1)] q9 → Mut [(some gb22), ((Value.slice A1 k c1).ownBlock), (some gb1)] q9 := (Mut.skip (Mut.keep (Mut.keep Mut.nil_)));replace HF := HF.less SB;replace XLW := fun k h => XLW k (SB k h);replace XM3 := fun k h => XM3 k (SB k h);replace XM7 := fun k h => XM7 k (SB k h);replace XM19 := fun k h => XM19 k (SB k h);clear SB
     replace E := erx (Mut [((Value.slice A1 k c1).ownBlock), (some gb1)]) w23;replace HF := HF.and (Per.blkN Bb22 (NotIn.cons Db22_l (NotIn.cons Db22_b1 NotIn.nil)))
     refine za rfl (jj (news := [.int .u64 ((yy ((u.take e).drop (e - 18)) : Nat) : Int)]) Tryd.underlying59 inf30 rfl (by decide) rfl Ol rfl (xg (HF.on E).here.2 ((HF.on E).here.2).lt rfl) (by simp [Value.oneCell']) (by unfold maxLen; omega) (by omega) (by exact Nat.le_trans LW.size E.size) ?_);intro v0 w24 On En KN;obtain ⟨A2, c2, rfl⟩ := vf On
     replace KN : ∀ q9, ((Value.slice A2 (k + 1) c2).ownBlock) = some q9 → ((Value.slice A1 k c1).ownBlock) = some q9 ∨ w23.heap.size ≤ q9 := KN;have LTb1 := (yj Bb1.lt);replace Bb1 := Bb1.extN En (NotIn.cons Db1_l NotIn.nil);replace Dl_b1 : Apart ((Value.slice A2 (k + 1) c2).ownBlock) (some gb1) := Dl_b1.turn KN LTb1;replace Db1_l := Dl_b1.symm;clear LTb1
     have HY : Gro (Mut [((Value.slice A2 (k + 1) c2).ownBlock), (some gb1)]) (Mut [((Value.slice A1 k c1).ownBlock), (some gb1)]) w23 := (Mut.grow (Mut.grow Mut.none_ (fun k e => Or.inl ((Mut.tail Mut.head) k e))) (fun k e => (KN k e).elim (fun e => Or.inl (Mut.head k e)) (fun h => Or.inr (Nat.le_trans E.size h))))
     replace KlM19 : ∀ q9, ((Value.slice A2 (k + 1) c2).ownBlock) = some q9 → ((Value.slice none 0 0).ownBlock) = some q9 ∨ w8.heap.size ≤ q9 := fun k e => (KN k e).elim (KlM19 k) (fun h => Or.inr (Nat.le_trans M19.size (Nat.le_trans E.size h)));replace E := E.step1 En Mut.head
     have XT := fun q9 (h : (Mut [((Value.slice A2 (k + 1) c2).ownBlock), (some gb1)]) q9) => (HY q9 h).elim (XLW q9) (fun h => Or.inr (Nat.le_trans LW.size h));have XT := fun q9 (h : (Mut [((Value.slice A2 (k + 1) c2).ownBlock), (some gb1)]) q9) => (HY q9 h).elim (XM3 q9) (fun h => Or.inr (Nat.le_trans M3.size h))
     have XT := fun q9 (h : (Mut [((Value.slice A2 (k + 1) c2).ownBlock), (some gb1)]) q9) => (HY q9 h).elim (XM7 q9) (fun h => Or.inr (Nat.le_trans M7.size h));have XT := fun q9 (h : (Mut [((Value.slice A2 (k + 1) c2).ownBlock), (some gb1)]) q9) => (HY q9 h).elim (XM19 q9) (fun h => Or.inr (Nat.le_trans M19.size h));replace M19 := M19.step E XM19;replace XM19 := XT
     replace E := erx (Mut [((Value.slice A2 (k + 1) c2).ownBlock), (some gb1)]) w24;clear HY;replace Ol : World.ownsRow w24 w.heap.size 30 1 (.slice A2 (k + 1) c2) (k + 1) ((xs ++ [yy ((u.take e).drop (e - 18))]).map fun x : Nat => Value.int .u64 (x : Int)) := by
      have e : ((xs.map fun x : Nat => Value.int .u64 (x : Int)) : List Value) ++ ([.int .u64 ((yy ((u.take e).drop (e - 18)) : Nat) : Int)] : List Value) = (xs ++ [yy ((u.take e).drop (e - 18))]).map fun x : Nat => Value.int .u64 (x : Int) := by simp
      rw [← e];exact On
     clear On KN En
     refine avx rfl (yf (zm (ze (zi (mvx rfl (za rfl (yw rfl rfl (zo (by omega)) (avx rfl (yf (yr 7 (.int .i64 ((u.length : Int) - 18 * ((k + 1 : Nat) : Int))) rfl ((by rw [show (u.length : Int) - 18 * (k : Int) - 18 = (u.length : Int) - 18 * ((k + 1 : Nat) : Int) by omega] : (.int .i64 (((u.length : Int) - 18 * (k : Int)) - 18) : Value) = _)) ?_))))))))))
     exact ym (k + 1, xs ++ [yy ((u.take e).drop (e - 18))], A2, c2) (by show u.length + 18 - 18 * (k + 1) < u.length + 18 - 18 * k; omega) ⟨rfl, rfl, rfl, rfl, rfl, rfl, trivial⟩ ⟨M19.step E XM19, (by exact Ol), (by exact Bb1), KlM19, by rw [List.length_append, hk]; rfl, zfz hsm (jw hal9 e), by rw [zpv hal9 hk (by omega : u.length = e + 18 * k) (by rw [hval, he]), show u.length - 18 * (k + 1) = e - 18 by omega], by omega⟩
    ·
     have q := of_decide_eq_false q;have hv9 : val B18 xs = yy r := by rw [hval, show u.length - 18 * k = 0 by omega, List.drop_zero, hnum]
     have Ol9 := Ol;have hown : Own w20 w.heap.size A1 c1 xs := ⟨by rw [hk]; exact Ol9, fun x hx => Nat.lt_trans (hsm x hx) (by decide)⟩;have hform : ∀ w', Nums w' A1 xs → Calls Tryd.prog 24 #[.bool true, .slice A1 k c1] w' (yfz w' (sgn true (yy r))) := fun w' h => by
      have h9 := zxk true A1 c1 xs w' h hsm (by omega);rwa [hk, hv9] at h9
     replace HF := HF.on E;replace LW := LW.step E XLW;have SB : ∀ q9, Mut [(some gb1)] q9 → Mut [((Value.slice A1 k c1).ownBlock), (some gb1)] q9 := (Mut.skip (Mut.keep Mut.nil_));replace HF := HF.less SB;replace XLW := fun k h => XLW k (SB k h);clear SB;replace E := erx (Mut [(some gb1)]) w20;replace HF := HF.and (Per.ownsN Ol (NotIn.cons Dl_b1 NotIn.nil));clear Ol;replace HF := HF.on E
     replace LW := LW.step E XLW;replace E := erx (Mut [(some gb1)]) w20;replace HF := HF.and (Per.ownN hown (NotIn.cons (ko hown Bb1 (by decide)) NotIn.nil));refine yn (zg (zg (zv (ze (srx (mvx rfl (mvx rfl (za rfl (zz en24 rfl ((hform _ ((HF.on E).here.2).nums).mono ?_))))))))));rintro e w25 ⟨A2, c2, rfl, o2, hb⟩;refine ⟨_, rfl, ?_⟩
     have SC := Nat.le_trans LW.size E.size;have Ec := Ext.of_below hb No;replace Bb1 := Bb1.extN Ec NotIn.nil;replace E := E.trans Ec.no;have S2 := SC;replace HF := HF.on E;replace LW := LW.step E XLW;replace E := erx (Mut [(some gb1)]) w25;replace HF := HF.and (Per.ownN o2 (NotIn.cons (ko o2 Bb1 (by decide)) NotIn.nil))
     refine qf (qz xb rfl rfl Bb1 rfl rfl (Nat.le_of_ble_eq_true rfl) ?_);intro w26 Bx Eb1;replace Bb1 := Bx;replace E := E.step1 Eb1 Mut.head;replace HF := HF.on E;replace LW := LW.step E XLW;have SB : ∀ q9, No q9 → Mut [(some gb1)] q9 := (Mut.skip Mut.nil_);replace HF := HF.less SB;replace XLW := fun k h => XLW k (SB k h);clear SB;replace E := erx (No) w26
     replace HF := HF.and (Per.blkN Bb1 NotIn.nil);refine anx rfl (zr (zp (rs := [.cell 2 61, .tmp 3]) (vs := [_, _]) rfl ⟨⟨_, rfl, gq Tryd.underlying61 rfl xb (HF.on E).here.2 rfl⟩, rfl, trivial⟩ ?_));exact by rw [e1, e2]; exact ⟨A2, c2, rfl, ((HF.on E).here.1.2).mono S2, (LW.step E XLW).toBelow⟩
theorem wparse_pos (hr : r ≠ []) (h45 : r.head? ≠ some 45) (hs : r.length ≤ 140737488355328) : Calls Tryd.prog 20 #[.string ⟨r.toArray⟩] w (kg w (gb false r) (jp r)) := by
 obtain ⟨b0, hb0⟩ : ∃ b, r.head? = some b := by cases r with | nil => exact absurd rfl hr | cons b _ => exact ⟨b, rfl⟩
 have hat0 : (⟨r.toArray⟩ : ByteArray)[0]? = some b0 := by rw [ydz]; cases r with | nil => cases hb0 | cons b _ => simpa using hb0
 have hne : b0.toNat ≠ 45 := fun e => h45 (by rw [hb0, show b0 = 45 from UInt8.toNat_inj.1 e]);have hpos : (0 : Int) < ((⟨r.toArray⟩ : ByteArray).size : Int) := by rw [vm]; have h2 := List.length_pos_iff.2 hr; omega
 refine yl Tryd.func20 rfl Tryd.ntmps20 rfl ?_;have HF : Per (No) w (fun _ => True) := Per.true_;have LW := erx (No) w;have XLW := grx (No) w;have E := erx (No) w;refine srx (za rfl (jb zr61 ?_));intro gb1 w2 Bb1 Eb1 Gb1;have Gb1 : _ ≤ gb1 := Nat.le_trans E.size Gb1;have GLb1 := Nat.le_trans LW.size Gb1;replace E := E.trans Eb1.no;replace HF := HF.cons (yb Gb1)
 replace E := E.cons (some gb1);replace XLW := Mut.grow XLW (fun k e => Or.inr (Nat.le_trans LW.size ((yb Gb1) k e)))
 refine anx rfl (srx (mvx rfl (za rfl (qc Tryd.underlying9 rfl (za rfl (qq rfl rfl (mvx rfl (yd 13 (.bool true) rfl (by rw [decide_eq_true hpos]) (onx rfl (zq rfl (onx rfl (gj (j := 0) Tryd.underlying9 rfl rfl rfl hat0 (onx rfl (ye rfl rfl (za rfl (zw rfl rfl (anx rfl (zf (srx (mvx rfl (rnx (zu 4 (.bool false) rfl ((by rw [beq_eq_false_iff_ne.2 (by omega)] : (.bool (((b0.toNat : Nat) : Int) == 45) : Value) = _)) (zu 18 (.bool false) rfl ((by rw [beq_eq_false_iff_ne.2 (by omega)] : (.bool (((b0.toNat : Nat) : Int) == 45) : Value) = _)) (zy rfl (zj (ze (zf (srx (mvx rfl (za rfl (xz rfl rfl (rnx ?_))))))))))))))))))))))))))))))))
 have hne0 : (⟨r.toArray⟩ : ByteArray).toList ≠ (⟨#[]⟩ : ByteArray).toList := by rw [ymz, show (⟨#[]⟩ : ByteArray).toList = [] from ymz []]; exact hr
 refine zu 22 (.bool false) rfl (by rw [beq_eq_false_iff_ne.2 hne0]) (zy rfl (zj (ze (zf (srx (mvx rfl (za rfl (qc Tryd.underlying9 rfl (mvx rfl (rnx (zx (zu 25 (.int .i64 ((r.length : Nat) : Int)) rfl (by rw [vm]) (zu 26 (.int .i64 ((0 : Nat) : Int)) rfl ((by rfl : (.int .i64 0 : Value) = _)) ?_)))))))))))));replace HF := HF.on E
 replace LW := LW.step E XLW;replace E := erx (Mut [(some gb1)]) w2
 refine qk (ι := Nat) (fun k => [(0, .string ⟨r.toArray⟩), (2, .pointer (some ⟨gb1, 0, none⟩)), (3, .int .i64 0), (4, .bool false), (25, .int .i64 ((r.length : Nat) : Int)), (26, .int .i64 (k : Int))]) (fun k w' => Ext (Mut [(some gb1)]) w2 w' ∧ Blk w' gb1 61 (#[.bool false, .slice none 0 0]) ∧ (k ≤ r.length ∧ (r.take k).all vg = true)) (fun k => r.length - k) 0 ⟨rfl, rfl, rfl, rfl, rfl, rfl, trivial⟩ ⟨Ext.refl _ _, (by exact Bb1), ⟨Nat.zero_le _, rfl⟩⟩ ?_
 have LTb1 := (yj Bb1.lt);rintro k w4 ⟨M3, Bb1, ⟨hk, hall⟩⟩;have XM3 : Gro (Mut [(some gb1)]) (Mut [(some gb1)]) w2 := (Mut.grow Mut.none_ (fun k e => Or.inl (Mut.head k e)));replace E := E.trans M3;replace HF := HF.on E;replace LW := LW.step E XLW;replace E := erx (Mut [(some gb1)]) w4;clear LTb1
 refine srx (za rfl (yt rfl rfl (rnx (zf (zt rfl (fun q => ?_) (fun q => ?_))))))
 ·
  have q := of_decide_eq_true q;have hk1 : k < r.length := by omega
  obtain ⟨b, hb9⟩ : ∃ b, r[k]? = some b := ⟨_, List.getElem?_eq_getElem hk1⟩;have hat : (⟨r.toArray⟩ : ByteArray)[k]? = some b := by rw [ydz]; exact hb9
  refine zj (ze (zf (zx (srx (mvx rfl (anx rfl (srx (mvx rfl (mvx rfl (za rfl (gj (j := k) Tryd.underlying9 rfl rfl rfl hat (za rfl (yt rfl rfl (mvx rfl (yo 33 rfl (fun h => ?_) (fun h => ?_))))))))))))))))
  ·
   have h := of_decide_eq_true h;obtain ⟨e1, e2⟩ := zuk (neg := false) (ykq hb9 (by unfold vg; simp; omega))
   refine za rfl (zc rfl (za rfl (zc rfl (za rfl (zc rfl (za rfl (zc rfl (za rfl (zw rfl rfl (rnx (yi rfl (srx (za rfl (jm (cs := #[.bool false, .slice none 0 0]) pl61 zr61 rfl rfl (qf (qz xb rfl rfl Bb1 rfl rfl (Nat.le_of_ble_eq_true rfl) ?_))))))))))))))));intro w5 Bx Eb1;replace Bb1 := Bx;replace E := E.step1 Eb1 Mut.head
   refine anx rfl (zr (zn (zd (zd (zn (zd (zp (rs := [.cell 2 61, .tmp 3]) (vs := [_, _]) rfl ⟨⟨_, rfl, gq Tryd.underlying61 rfl xb Bb1 rfl⟩, rfl, trivial⟩ ?_)))))));exact by rw [e1, e2]; exact jg (LW.step E XLW).toBelow
  ·
   have h := of_decide_eq_false h;refine onx rfl (zq rfl (onx rfl (zq rfl (onx rfl (gj (j := k) Tryd.underlying9 rfl rfl rfl hat (onx rfl (qq rfl rfl (za rfl (ya rfl rfl (rnx (zt rfl (fun h2 => ?_) (fun h2 => ?_))))))))))))
   ·
    have h2 := of_decide_eq_true h2;obtain ⟨e1, e2⟩ := zuk (neg := false) (ykq hb9 (by unfold vg; simp; omega));refine srx (za rfl (jm (cs := #[.bool false, .slice none 0 0]) pl61 zr61 rfl rfl (qf (qz xb rfl rfl Bb1 rfl rfl (Nat.le_of_ble_eq_true rfl) ?_))));intro w6 Bx Eb1;replace Bb1 := Bx;replace E := E.step1 Eb1 Mut.head
    refine anx rfl (zr (zn (zd (zd (zn (zd (zp (rs := [.cell 2 61, .tmp 3]) (vs := [_, _]) rfl ⟨⟨_, rfl, gq Tryd.underlying61 rfl xb Bb1 rfl⟩, rfl, trivial⟩ ?_)))))));exact by rw [e1, e2]; exact jg (LW.step E XLW).toBelow
   ·
    have h2 := of_decide_eq_false h2;have hdig : vg b = true := dig_of (by omega) (by omega);refine zj (zm (ze (zi (za rfl (yg rfl rfl (zo (by omega)) (mvx rfl (yf (yr 26 (.int .i64 ((k + 1 : Nat) : Int)) rfl ((by rfl : (.int .i64 ((k : Int) + 1) : Value) = _)) ?_))))))))
    exact ym (k + 1) (by show r.length - (k + 1) < r.length - k; omega) ⟨rfl, rfl, rfl, rfl, rfl, rfl, trivial⟩ ⟨M3.step E XM3, (by exact Bb1), by omega, all_get hb9 hall hdig⟩
 ·
  have q := of_decide_eq_false q;obtain rfl : k = r.length := by omega
  rw [List.take_length] at hall;refine yn (zg (zg (zv (ze (zf (zx ?_))))));replace HF := HF.on E;replace LW := LW.step E XLW;replace M3 := M3.step E XM3;replace E := erx (Mut [(some gb1)]) w4
  refine qk (ι := List UInt8) (fun u => [(0, .string ⟨u.toArray⟩), (2, .pointer (some ⟨gb1, 0, none⟩)), (3, .int .i64 0), (4, .bool false)]) (fun u w' => Ext (Mut [(some gb1)]) w4 w' ∧ Blk w' gb1 61 (#[.bool false, .slice none 0 0]) ∧ (gf u = gf r ∧ u.length ≤ r.length)) (fun u => u.length) r ⟨rfl, rfl, rfl, rfl, trivial⟩ ⟨Ext.refl _ _, (by exact Bb1), ⟨rfl, Nat.le_refl _⟩⟩ ?_
  have LTb1 := (yj Bb1.lt);rintro u w8 ⟨M7, Bb1, ⟨hu1, hu2⟩⟩;have XM7 : Gro (Mut [(some gb1)]) (Mut [(some gb1)]) w4 := (Mut.grow Mut.none_ (fun k e => Or.inl (Mut.head k e)));replace E := E.trans M7;replace HF := HF.on E;replace LW := LW.step E XLW;replace M3 := M3.step E XM3;replace E := erx (Mut [(some gb1)]) w8;clear LTb1
  refine zf (srx (mvx rfl (za rfl (qc Tryd.underlying9 rfl (za rfl (qq rfl rfl (mvx rfl (yd 44 (.bool (decide ((0 : Int) < ((u.length : Nat) : Int)))) rfl (by rw [vm]) (yo 44 rfl (fun h => ?_) (fun h => ?_))))))))))
  ·
   have h := of_decide_eq_true h;obtain ⟨b, u2, hbu⟩ : ∃ b u2, u = b :: u2 := by cases u with | nil => simp at h | cons b u2 => exact ⟨b, u2, rfl⟩
   have hat : (⟨u.toArray⟩ : ByteArray)[0]? = some b := by rw [ydz, hbu]; rfl
   refine onx rfl (zq rfl (onx rfl (gj (j := 0) Tryd.underlying9 rfl rfl rfl hat (onx rfl (ye rfl rfl (za rfl (zw rfl rfl (rnx (zt rfl (fun h2 => ?_) (fun h2 => ?_))))))))))
   ·
    have h2 : b = 48 := UInt8.toNat_inj.1 (by have h7 := of_decide_eq_true h2; have h8 : (48 : UInt8).toNat = 48 := rfl; omega);have hul : u.length = u2.length + 1 := by rw [hbu]; rfl
    refine zj (ze (zx (zi (mvx rfl (za rfl (vo (l := 1) (h := u.length) Tryd.underlying9 rfl ⟨_, rfl⟩ (vm u).symm (by omega) (by rw [vm]; omega) (yd 50 (.string ⟨u2.toArray⟩) rfl ((by rw [ztk, List.take_length, hbu]; rfl : (.string ((⟨u.toArray⟩ : ByteArray).extract 1 u.length) : Value) = _)) (avx rfl (yf (zm ?_))))))))))
    exact ym u2 (by show u2.length < u.length; omega) ⟨rfl, rfl, rfl, rfl, trivial⟩ ⟨M7.step E XM7, (by exact Bb1), by rw [← hu1, hbu, h2, strip_zero], by omega⟩
   ·
    have h2 : b ≠ 48 := fun e => by rw [e] at h2; exact absurd h2 (by decide)
    refine yn (zg (zg (zv (ze (zf (srx (mvx rfl (za rfl (qc Tryd.underlying9 rfl (za rfl (qq rfl rfl (rnx ?_))))))))))));have hstr : gf r = u := by rw [← hu1]; exact by rw [hbu, strip_cons h2]
    have hal9 := zdv hall;rw [hstr] at hal9;have hln9 := zmk hall;rw [hstr] at hln9;have hnum : yy u = yy r := by rw [← hstr, oc]
    refine zu 53 (.bool (decide ((540 : Int) < ((u.length : Nat) : Int)))) rfl (by rw [vm]) (zt rfl (fun h3 => ?_) (fun h3 => ?_))
    ·
     have h3 := of_decide_eq_true h3;have e1 : jp r = 2 := by unfold jp; rw [if_pos ⟨hr, hall⟩, if_neg (by omega)]
     have e2 : gb false r = 0 := by unfold gb; rw [if_neg (by rintro ⟨_, _, h⟩; omega)]
     refine srx (za rfl (jm (cs := #[.bool false, .slice none 0 0]) pl61 zr61 rfl rfl (qf (qz xb rfl rfl Bb1 rfl rfl (Nat.le_of_ble_eq_true rfl) ?_))));intro w9 Bx Eb1;replace Bb1 := Bx;replace E := E.step1 Eb1 Mut.head
     refine anx rfl (zr (zd (zp (rs := [.cell 2 61, .tmp 3]) (vs := [_, _]) rfl ⟨⟨_, rfl, gq Tryd.underlying61 rfl xb Bb1 rfl⟩, rfl, trivial⟩ ?_)));exact by rw [e1, e2]; exact jg (LW.step E XLW).toBelow
    ·
     have h3 := of_decide_eq_false h3;have e1 : jp r = 0 := by unfold jp; rw [if_pos ⟨hr, hall⟩, if_pos (by omega)]
     have e2 : gb false r = sgn false (yy r) := by unfold gb; rw [if_pos ⟨hr, hall, by omega⟩]
     refine zj (ze (srx (anx rfl (zf (srx (mvx rfl (za rfl (qc Tryd.underlying9 rfl (anx rfl (zx ?_))))))))));have Ol : World.ownsRow w8 w.heap.size 30 1 (.slice none 0 0) 0 ([]) := jd;have Dl_b1 : Apart ((Value.slice none 0 0).ownBlock) (some gb1) := fun _ e => by cases e
     have Db1_l := Dl_b1.symm;replace HF := HF.cons (ju);replace E := E.cons ((Value.slice none 0 0).ownBlock);replace XLW := Mut.grow XLW (fun k e => Or.inr (Nat.le_trans LW.size ((ju) k e)));replace XM3 := Mut.grow XM3 (fun k e => Or.inr (Nat.le_trans M3.size ((ju) k e)));replace XM7 := Mut.grow XM7 (fun k e => Or.inr (Nat.le_trans M7.size ((ju) k e)))
     refine zu 7 (.int .i64 ((u.length : Int) - 18 * ((0 : Nat) : Int))) rfl (by rw [vm]; simp) ?_;replace HF := HF.on E;replace LW := LW.step E XLW;replace M3 := M3.step E XM3;replace M7 := M7.step E XM7;replace E := erx (Mut [((Value.slice none 0 0).ownBlock), (some gb1)]) w8
     refine qk (ι := Nat × List Nat × Option Addr × Nat) (fun (k, xs, A1, c1) => [(0, .string ⟨u.toArray⟩), (2, .pointer (some ⟨gb1, 0, none⟩)), (3, .int .i64 0), (4, .bool false), (6, .slice A1 k c1), (7, .int .i64 ((u.length : Int) - 18 * (k : Int)))]) (fun (k, xs, A1, c1) w' => Ext (Mut [((Value.slice none 0 0).ownBlock), (some gb1)]) w8 w' ∧ World.ownsRow w' w.heap.size 30 1 (.slice A1 k c1) k (xs.map fun x : Nat => Value.int .u64 (x : Int)) ∧ Blk w' gb1 61 (#[.bool false, .slice none 0 0]) ∧ (∀ q9, ((Value.slice A1 k c1).ownBlock) = some q9 → ((Value.slice none 0 0).ownBlock) = some q9 ∨ w8.heap.size ≤ q9) ∧ (xs.length = k ∧ small B18 xs ∧ val B18 xs = yy (u.drop (u.length - 18 * k)) ∧ 18 * k ≤ u.length + 17)) (fun (k, xs, A1, c1) => u.length + 18 - 18 * k) (0, [], none, 0) ⟨rfl, rfl, rfl, rfl, rfl, rfl, trivial⟩ ⟨Ext.refl _ _, (by exact Ol), (by exact Bb1), (fun _ e => Or.inl e), ⟨rfl, zmv, by rw [Nat.mul_zero, Nat.sub_zero, List.drop_length]; rfl, by omega⟩⟩ ?_
     have LTl := (vk Ol);have LTb1 := (yj Bb1.lt);clear Ol;rintro ⟨k, xs, A1, c1⟩ w11 ⟨M10, Ol, Bb1, KlM10, ⟨hk, hsm, hval, hkl⟩⟩;replace Dl_b1 : Apart ((Value.slice A1 k c1).ownBlock) (some gb1) := Dl_b1.turn KlM10 LTb1;replace Db1_l := Dl_b1.symm
     have XM10 : Gro (Mut [((Value.slice A1 k c1).ownBlock), (some gb1)]) (Mut [((Value.slice none 0 0).ownBlock), (some gb1)]) w8 := (Mut.grow (Mut.grow Mut.none_ (fun k e => Or.inl ((Mut.tail Mut.head) k e))) (fun k e => (KlM10 k e).elim (fun e => Or.inl (Mut.head k e)) Or.inr));replace E := E.trans M10;replace HF := HF.turn E XM10;have ZLW := LW.size
     have XT := fun q9 (h : (Mut [((Value.slice A1 k c1).ownBlock), (some gb1)]) q9) => (XM10 q9 h).elim (XLW q9) (fun h => Or.inr (Nat.le_trans LW.size h));replace LW := LW.step E XLW;replace XLW := XT;have ZM3 := M3.size;have XT := fun q9 (h : (Mut [((Value.slice A1 k c1).ownBlock), (some gb1)]) q9) => (XM10 q9 h).elim (XM3 q9) (fun h => Or.inr (Nat.le_trans M3.size h))
     replace M3 := M3.step E XM3;replace XM3 := XT;have ZM7 := M7.size;have XT := fun q9 (h : (Mut [((Value.slice A1 k c1).ownBlock), (some gb1)]) q9) => (XM10 q9 h).elim (XM7 q9) (fun h => Or.inr (Nat.le_trans M7.size h));replace M7 := M7.step E XM7;replace XM7 := XT;clear ZLW;clear ZM3;clear ZM7;replace E := erx (Mut [((Value.slice A1 k c1).ownBlock), (some gb1)]) w11;clear LTl;clear LTb1
     refine zf (srx (mvx rfl (za rfl (qq rfl rfl (rnx (zt rfl (fun q => ?_) (fun q => ?_)))))))
     ·
      have q := of_decide_eq_true q;obtain ⟨e, he⟩ : ∃ e : Nat, e = u.length - 18 * k := ⟨_, rfl⟩;have he0 : 0 < e := by omega
      have hel : e ≤ u.length := by omega
      refine zj (ze (zf (zx (srx (mvx rfl (mvx rfl (za rfl (yw rfl rfl (zo (by omega)) (za rfl (ow_max rfl rfl (yd 65 (.int .i64 ((e - 18 : Nat) : Int)) rfl ((by congr 1; split <;> omega : (.int .i64 (if (u.length : Int) - 18 * (k : Int) - 18 > 0 then (u.length : Int) - 18 * (k : Int) - 18 else 0) : Value) = _)) (mvx rfl (yd 66 (.int .i64 ((e : Nat) : Int)) rfl ((by rw [show (u.length : Int) - 18 * (k : Int) = ((e : Nat) : Int) by omega] : (.int .i64 ((u.length : Int) - 18 * (k : Int)) : Value) = _)) (za rfl (vo (l := e - 18) (h := e) Tryd.underlying9 rfl ⟨_, rfl⟩ ⟨_, rfl⟩ (Nat.sub_le _ _) (by rw [vm]; exact hel) (yd 67 (.string ⟨((u.take e).drop (e - 18)).toArray⟩) rfl ((by rw [ztk] : (.string ((⟨u.toArray⟩ : ByteArray).extract (e - 18) e) : Value) = _)) (za rfl (zz en23 rfl ((parseU _ _ (zwv he0 hel) (znv hal9 e) (jw hal9 e) (znk u e)).mono ?_)))))))))))))))))))
      rintro e w12 ⟨rfl, hb⟩;refine ⟨_, rfl, ?_⟩;have Ec := Ext.of_below hb No;replace Ol := ji Ol Ec NotIn.nil;replace Bb1 := Bb1.extN Ec NotIn.nil;replace E := E.trans Ec.no
      refine mvx rfl (za rfl (yc rfl rfl (za rfl (yc rfl rfl (avx rfl (anx rfl (zi (mvx rfl (mvx rfl (za rfl (qa (cs := #[.int .u64 ((yy ((u.take e).drop (e - 18)) : Nat) : Int)]) Tryd.underlying59 sz30 zr30 (by decide) rfl (by rw [qt]; rfl) ?_)))))))))));intro gb13 w14 Bb13 Eb13 Gb13
      have Db13_l : Apart (some gb13) ((Value.slice A1 k c1).ownBlock) := Apart.of_lt (vk Ol) Gb13;have Dl_b13 := Db13_l.symm;have Db13_b1 : Apart (some gb13) (some gb1) := Apart.of_lt (yj Bb1.lt) Gb13;have Db1_b13 := Db13_b1.symm;have Gb13 : _ ≤ gb13 := Nat.le_trans E.size Gb13;have GLb13 := Nat.le_trans LW.size Gb13;replace Ol := ji Ol Eb13 NotIn.nil
      replace Bb1 := Bb1.extN Eb13 NotIn.nil;replace E := E.trans Eb13.no;replace HF := HF.cons (yb Gb13);replace E := E.cons (some gb13);replace XLW := Mut.grow XLW (fun k e => Or.inr (Nat.le_trans LW.size ((yb Gb13) k e)));replace XM3 := Mut.grow XM3 (fun k e => Or.inr (Nat.le_trans M3.size ((yb Gb13) k e)))
      replace XM7 := Mut.grow XM7 (fun k e => Or.inr (Nat.le_trans M7.size ((yb Gb13) k e)));replace XM10 := Mut.grow XM10 (fun k e => Or.inr (Nat.le_trans M10.size ((yb Gb13) k e)));replace HF := HF.on E;replace LW := LW.step E XLW;replace M3 := M3.step E XM3;replace M7 := M7.step E XM7;replace M10 := M10.step E XM10
      have SB : ∀ q9, Mut [((Value.slice A1 k c1).ownBlock), (some gb1)] q9 → Mut [(some gb13), ((Value.slice A1 k c1).ownBlock), (some gb1)] q9 := (Mut.skip (Mut.keep (Mut.keep Mut.nil_)));replace HF := HF.less SB;replace XLW := fun k h => XLW k (SB k h);replace XM3 := fun k h => XM3 k (SB k h);replace XM7 := fun k h => XM7 k (SB k h);replace XM10 := fun k h => XM10 k (SB k h);clear SB
      replace E := erx (Mut [((Value.slice A1 k c1).ownBlock), (some gb1)]) w14;replace HF := HF.and (Per.blkN Bb13 (NotIn.cons Db13_l (NotIn.cons Db13_b1 NotIn.nil)))
      refine za rfl (jj (news := [.int .u64 ((yy ((u.take e).drop (e - 18)) : Nat) : Int)]) Tryd.underlying59 inf30 rfl (by decide) rfl Ol rfl (xg (HF.on E).here.2 ((HF.on E).here.2).lt rfl) (by simp [Value.oneCell']) (by unfold maxLen; omega) (by omega) (by exact Nat.le_trans LW.size E.size) ?_);intro v0 w15 On En KN;obtain ⟨A2, c2, rfl⟩ := vf On
      replace KN : ∀ q9, ((Value.slice A2 (k + 1) c2).ownBlock) = some q9 → ((Value.slice A1 k c1).ownBlock) = some q9 ∨ w14.heap.size ≤ q9 := KN;have LTb1 := (yj Bb1.lt);replace Bb1 := Bb1.extN En (NotIn.cons Db1_l NotIn.nil);replace Dl_b1 : Apart ((Value.slice A2 (k + 1) c2).ownBlock) (some gb1) := Dl_b1.turn KN LTb1;replace Db1_l := Dl_b1.symm;clear LTb1
      have HY : Gro (Mut [((Value.slice A2 (k + 1) c2).ownBlock), (some gb1)]) (Mut [((Value.slice A1 k c1).ownBlock), (some gb1)]) w14 := (Mut.grow (Mut.grow Mut.none_ (fun k e => Or.inl ((Mut.tail Mut.head) k e))) (fun k e => (KN k e).elim (fun e => Or.inl (Mut.head k e)) (fun h => Or.inr (Nat.le_trans E.size h))))
      replace KlM10 : ∀ q9, ((Value.slice A2 (k + 1) c2).ownBlock) = some q9 → ((Value.slice none 0 0).ownBlock) = some q9 ∨ w8.heap.size ≤ q9 := fun k e => (KN k e).elim (KlM10 k) (fun h => Or.inr (Nat.le_trans M10.size (Nat.le_trans E.size h)));replace E := E.step1 En Mut.head
      have XT := fun q9 (h : (Mut [((Value.slice A2 (k + 1) c2).ownBlock), (some gb1)]) q9) => (HY q9 h).elim (XLW q9) (fun h => Or.inr (Nat.le_trans LW.size h));have XT := fun q9 (h : (Mut [((Value.slice A2 (k + 1) c2).ownBlock), (some gb1)]) q9) => (HY q9 h).elim (XM3 q9) (fun h => Or.inr (Nat.le_trans M3.size h))
      have XT := fun q9 (h : (Mut [((Value.slice A2 (k + 1) c2).ownBlock), (some gb1)]) q9) => (HY q9 h).elim (XM7 q9) (fun h => Or.inr (Nat.le_trans M7.size h));have XT := fun q9 (h : (Mut [((Value.slice A2 (k + 1) c2).ownBlock), (some gb1)]) q9) => (HY q9 h).elim (XM10 q9) (fun h => Or.inr (Nat.le_trans M10.size h));replace M10 := M10.step E XM10;replace XM10 := XT
      replace E := erx (Mut [((Value.slice A2 (k + 1) c2).ownBlock), (some gb1)]) w15;clear HY;replace Ol : World.ownsRow w15 w.heap.size 30 1 (.slice A2 (k + 1) c2) (k + 1) ((xs ++ [yy ((u.take e).drop (e - 18))]).map fun x : Nat => Value.int .u64 (x : Int)) := by
       have e : ((xs.map fun x : Nat => Value.int .u64 (x : Int)) : List Value) ++ ([.int .u64 ((yy ((u.take e).drop (e - 18)) : Nat) : Int)] : List Value) = (xs ++ [yy ((u.take e).drop (e - 18))]).map fun x : Nat => Value.int .u64 (x : Int) := by simp
       rw [← e];exact On
      clear On KN En
      refine avx rfl (yf (zm (ze (zi (mvx rfl (za rfl (yw rfl rfl (zo (by omega)) (avx rfl (yf (yr 7 (.int .i64 ((u.length : Int) - 18 * ((k + 1 : Nat) : Int))) rfl ((by rw [show (u.length : Int) - 18 * (k : Int) - 18 = (u.length : Int) - 18 * ((k + 1 : Nat) : Int) by omega] : (.int .i64 (((u.length : Int) - 18 * (k : Int)) - 18) : Value) = _)) ?_))))))))))
      exact ym (k + 1, xs ++ [yy ((u.take e).drop (e - 18))], A2, c2) (by show u.length + 18 - 18 * (k + 1) < u.length + 18 - 18 * k; omega) ⟨rfl, rfl, rfl, rfl, rfl, rfl, trivial⟩ ⟨M10.step E XM10, (by exact Ol), (by exact Bb1), KlM10, by rw [List.length_append, hk]; rfl, zfz hsm (jw hal9 e), by rw [zpv hal9 hk (by omega : u.length = e + 18 * k) (by rw [hval, he]), show u.length - 18 * (k + 1) = e - 18 by omega], by omega⟩
     ·
      have q := of_decide_eq_false q;have hv9 : val B18 xs = yy r := by rw [hval, show u.length - 18 * k = 0 by omega, List.drop_zero, hnum]
      have Ol9 := Ol;have hown : Own w11 w.heap.size A1 c1 xs := ⟨by rw [hk]; exact Ol9, fun x hx => Nat.lt_trans (hsm x hx) (by decide)⟩;have hform : ∀ w', Nums w' A1 xs → Calls Tryd.prog 24 #[.bool false, .slice A1 k c1] w' (yfz w' (sgn false (yy r))) := fun w' h => by
       have h9 := zxk false A1 c1 xs w' h hsm (by omega);rwa [hk, hv9] at h9
      replace HF := HF.on E;replace LW := LW.step E XLW;have SB : ∀ q9, Mut [(some gb1)] q9 → Mut [((Value.slice A1 k c1).ownBlock), (some gb1)] q9 := (Mut.skip (Mut.keep Mut.nil_));replace HF := HF.less SB;replace XLW := fun k h => XLW k (SB k h);clear SB;replace E := erx (Mut [(some gb1)]) w11;replace HF := HF.and (Per.ownsN Ol (NotIn.cons Dl_b1 NotIn.nil));clear Ol;replace HF := HF.on E
      replace LW := LW.step E XLW;replace E := erx (Mut [(some gb1)]) w11;replace HF := HF.and (Per.ownN hown (NotIn.cons (ko hown Bb1 (by decide)) NotIn.nil));refine yn (zg (zg (zv (ze (srx (mvx rfl (mvx rfl (za rfl (zz en24 rfl ((hform _ ((HF.on E).here.2).nums).mono ?_))))))))));rintro e w16 ⟨A2, c2, rfl, o2, hb⟩;refine ⟨_, rfl, ?_⟩
      have SC := Nat.le_trans LW.size E.size;have Ec := Ext.of_below hb No;replace Bb1 := Bb1.extN Ec NotIn.nil;replace E := E.trans Ec.no;have S2 := SC;replace HF := HF.on E;replace LW := LW.step E XLW;replace E := erx (Mut [(some gb1)]) w16;replace HF := HF.and (Per.ownN o2 (NotIn.cons (ko o2 Bb1 (by decide)) NotIn.nil))
      refine qf (qz xb rfl rfl Bb1 rfl rfl (Nat.le_of_ble_eq_true rfl) ?_);intro w17 Bx Eb1;replace Bb1 := Bx;replace E := E.step1 Eb1 Mut.head;replace HF := HF.on E;replace LW := LW.step E XLW;have SB : ∀ q9, No q9 → Mut [(some gb1)] q9 := (Mut.skip Mut.nil_);replace HF := HF.less SB;replace XLW := fun k h => XLW k (SB k h);clear SB;replace E := erx (No) w17
      replace HF := HF.and (Per.blkN Bb1 NotIn.nil);refine anx rfl (zr (zp (rs := [.cell 2 61, .tmp 3]) (vs := [_, _]) rfl ⟨⟨_, rfl, gq Tryd.underlying61 rfl xb (HF.on E).here.2 rfl⟩, rfl, trivial⟩ ?_));exact by rw [e1, e2]; exact ⟨A2, c2, rfl, ((HF.on E).here.1.2).mono S2, (LW.step E XLW).toBelow⟩
  ·
   have h := of_decide_eq_false h;have hu0 : u = [] := by cases u with | nil => rfl | cons b u2 => simp at h
   refine za rfl (zc rfl (za rfl (zc rfl (za rfl (zc rfl (za rfl (ya rfl rfl (rnx (zy rfl (yn (zg (zg (zv (ze (zf (srx (mvx rfl (za rfl (qc Tryd.underlying9 rfl (za rfl (qq rfl rfl (rnx ?_))))))))))))))))))))));have hstr : gf r = u := by rw [← hu1]; exact by rw [hu0]; rfl
   have hal9 := zdv hall;rw [hstr] at hal9;have hln9 := zmk hall;rw [hstr] at hln9;have hnum : yy u = yy r := by rw [← hstr, oc]
   refine zu 53 (.bool (decide ((540 : Int) < ((u.length : Nat) : Int)))) rfl (by rw [vm]) (zt rfl (fun h3 => ?_) (fun h3 => ?_))
   ·
    have h3 := of_decide_eq_true h3;have e1 : jp r = 2 := by unfold jp; rw [if_pos ⟨hr, hall⟩, if_neg (by omega)]
    have e2 : gb false r = 0 := by unfold gb; rw [if_neg (by rintro ⟨_, _, h⟩; omega)]
    refine srx (za rfl (jm (cs := #[.bool false, .slice none 0 0]) pl61 zr61 rfl rfl (qf (qz xb rfl rfl Bb1 rfl rfl (Nat.le_of_ble_eq_true rfl) ?_))));intro w18 Bx Eb1;replace Bb1 := Bx;replace E := E.step1 Eb1 Mut.head
    refine anx rfl (zr (zd (zp (rs := [.cell 2 61, .tmp 3]) (vs := [_, _]) rfl ⟨⟨_, rfl, gq Tryd.underlying61 rfl xb Bb1 rfl⟩, rfl, trivial⟩ ?_)));exact by rw [e1, e2]; exact jg (LW.step E XLW).toBelow
   ·
    have h3 := of_decide_eq_false h3;have e1 : jp r = 0 := by unfold jp; rw [if_pos ⟨hr, hall⟩, if_pos (by omega)]
    have e2 : gb false r = sgn false (yy r) := by unfold gb; rw [if_pos ⟨hr, hall, by omega⟩]
    refine zj (ze (srx (anx rfl (zf (srx (mvx rfl (za rfl (qc Tryd.underlying9 rfl (anx rfl (zx ?_))))))))));have Ol : World.ownsRow w8 w.heap.size 30 1 (.slice none 0 0) 0 ([]) := jd;have Dl_b1 : Apart ((Value.slice none 0 0).ownBlock) (some gb1) := fun _ e => by cases e
    have Db1_l := Dl_b1.symm;replace HF := HF.cons (ju);replace E := E.cons ((Value.slice none 0 0).ownBlock);replace XLW := Mut.grow XLW (fun k e => Or.inr (Nat.le_trans LW.size ((ju) k e)));replace XM3 := Mut.grow XM3 (fun k e => Or.inr (Nat.le_trans M3.size ((ju) k e)));replace XM7 := Mut.grow XM7 (fun k e => Or.inr (Nat.le_trans M7.size ((ju) k e)))
    refine zu 7 (.int .i64 ((u.length : Int) - 18 * ((0 : Nat) : Int))) rfl (by rw [vm]; simp) ?_;replace HF := HF.on E;replace LW := LW.step E XLW;replace M3 := M3.step E XM3;replace M7 := M7.step E XM7;replace E := erx (Mut [((Value.slice none 0 0).ownBlock), (some gb1)]) w8
    refine qk (ι := Nat × List Nat × Option Addr × Nat) (fun (k, xs, A1, c1) => [(0, .string ⟨u.toArray⟩), (2, .pointer (some ⟨gb1, 0, none⟩)), (3, .int .i64 0), (4, .bool false), (6, .slice A1 k c1), (7, .int .i64 ((u.length : Int) - 18 * (k : Int)))]) (fun (k, xs, A1, c1) w' => Ext (Mut [((Value.slice none 0 0).ownBlock), (some gb1)]) w8 w' ∧ World.ownsRow w' w.heap.size 30 1 (.slice A1 k c1) k (xs.map fun x : Nat => Value.int .u64 (x : Int)) ∧ Blk w' gb1 61 (#[.bool false, .slice none 0 0]) ∧ (∀ q9, ((Value.slice A1 k c1).ownBlock) = some q9 → ((Value.slice none 0 0).ownBlock) = some q9 ∨ w8.heap.size ≤ q9) ∧ (xs.length = k ∧ small B18 xs ∧ val B18 xs = yy (u.drop (u.length - 18 * k)) ∧ 18 * k ≤ u.length + 17)) (fun (k, xs, A1, c1) => u.length + 18 - 18 * k) (0, [], none, 0) ⟨rfl, rfl, rfl, rfl, rfl, rfl, trivial⟩ ⟨Ext.refl _ _, (by exact Ol), (by exact Bb1), (fun _ e => Or.inl e), ⟨rfl, zmv, by rw [Nat.mul_zero, Nat.sub_zero, List.drop_length]; rfl, by omega⟩⟩ ?_
    have LTl := (vk Ol);have LTb1 := (yj Bb1.lt);clear Ol;rintro ⟨k, xs, A1, c1⟩ w20 ⟨M19, Ol, Bb1, KlM19, ⟨hk, hsm, hval, hkl⟩⟩;replace Dl_b1 : Apart ((Value.slice A1 k c1).ownBlock) (some gb1) := Dl_b1.turn KlM19 LTb1;replace Db1_l := Dl_b1.symm
    have XM19 : Gro (Mut [((Value.slice A1 k c1).ownBlock), (some gb1)]) (Mut [((Value.slice none 0 0).ownBlock), (some gb1)]) w8 := (Mut.grow (Mut.grow Mut.none_ (fun k e => Or.inl ((Mut.tail Mut.head) k e))) (fun k e => (KlM19 k e).elim (fun e => Or.inl (Mut.head k e)) Or.inr));replace E := E.trans M19;replace HF := HF.turn E XM19;have ZLW := LW.size
    have XT := fun q9 (h : (Mut [((Value.slice A1 k c1).ownBlock), (some gb1)]) q9) => (XM19 q9 h).elim (XLW q9) (fun h => Or.inr (Nat.le_trans LW.size h));replace LW := LW.step E XLW;replace XLW := XT;have ZM3 := M3.size;have XT := fun q9 (h : (Mut [((Value.slice A1 k c1).ownBlock), (some gb1)]) q9) => (XM19 q9 h).elim (XM3 q9) (fun h => Or.inr (Nat.le_trans M3.size h))
    replace M3 := M3.step E XM3;replace XM3 := XT;have ZM7 := M7.size;have XT := fun q9 (h : (Mut [((Value.slice A1 k c1).ownBlock), (some gb1)]) q9) => (XM19 q9 h).elim (XM7 q9) (fun h => Or.inr (Nat.le_trans M7.size h));replace M7 := M7.step E XM7;replace XM7 := XT;clear ZLW;clear ZM3;clear ZM7;replace E := erx (Mut [((Value.slice A1 k c1).ownBlock), (some gb1)]) w20;clear LTl;clear LTb1
    refine zf (srx (mvx rfl (za rfl (qq rfl rfl (rnx (zt rfl (fun q => ?_) (fun q => ?_)))))))
    ·
     have q := of_decide_eq_true q;obtain ⟨e, he⟩ : ∃ e : Nat, e = u.length - 18 * k := ⟨_, rfl⟩;have he0 : 0 < e := by omega
     have hel : e ≤ u.length := by omega
     refine zj (ze (zf (zx (srx (mvx rfl (mvx rfl (za rfl (yw rfl rfl (zo (by omega)) (za rfl (ow_max rfl rfl (yd 65 (.int .i64 ((e - 18 : Nat) : Int)) rfl ((by congr 1; split <;> omega : (.int .i64 (if (u.length : Int) - 18 * (k : Int) - 18 > 0 then (u.length : Int) - 18 * (k : Int) - 18 else 0) : Value) = _)) (mvx rfl (yd 66 (.int .i64 ((e : Nat) : Int)) rfl ((by rw [show (u.length : Int) - 18 * (k : Int) = ((e : Nat) : Int) by omega] : (.int .i64 ((u.length : Int) - 18 * (k : Int)) : Value) = _)) (za rfl (vo (l := e - 18) (h := e) Tryd.underlying9 rfl ⟨_, rfl⟩ ⟨_, rfl⟩ (Nat.sub_le _ _) (by rw [vm]; exact hel) (yd 67 (.string ⟨((u.take e).drop (e - 18)).toArray⟩) rfl ((by rw [ztk] : (.string ((⟨u.toArray⟩ : ByteArray).extract (e - 18) e) : Value) = _)) (za rfl (zz en23 rfl ((parseU _ _ (zwv he0 hel) (znv hal9 e) (jw hal9 e) (znk u e)).mono ?_)))))))))))))))))))
     rintro e w21 ⟨rfl, hb⟩;refine ⟨_, rfl, ?_⟩;have Ec := Ext.of_below hb No;replace Ol := ji Ol Ec NotIn.nil;replace Bb1 := Bb1.extN Ec NotIn.nil;replace E := E.trans Ec.no
     refine mvx rfl (za rfl (yc rfl rfl (za rfl (yc rfl rfl (avx rfl (anx rfl (zi (mvx rfl (mvx rfl (za rfl (qa (cs := #[.int .u64 ((yy ((u.take e).drop (e - 18)) : Nat) : Int)]) Tryd.underlying59 sz30 zr30 (by decide) rfl (by rw [qt]; rfl) ?_)))))))))));intro gb22 w23 Bb22 Eb22 Gb22
     have Db22_l : Apart (some gb22) ((Value.slice A1 k c1).ownBlock) := Apart.of_lt (vk Ol) Gb22;have Dl_b22 := Db22_l.symm;have Db22_b1 : Apart (some gb22) (some gb1) := Apart.of_lt (yj Bb1.lt) Gb22;have Db1_b22 := Db22_b1.symm;have Gb22 : _ ≤ gb22 := Nat.le_trans E.size Gb22;have GLb22 := Nat.le_trans LW.size Gb22;replace Ol := ji Ol Eb22 NotIn.nil
     replace Bb1 := Bb1.extN Eb22 NotIn.nil;replace E := E.trans Eb22.no;replace HF := HF.cons (yb Gb22);replace E := E.cons (some gb22);replace XLW := Mut.grow XLW (fun k e => Or.inr (Nat.le_trans LW.size ((yb Gb22) k e)));replace XM3 := Mut.grow XM3 (fun k e => Or.inr (Nat.le_trans M3.size ((yb Gb22) k e)))
     replace XM7 := Mut.grow XM7 (fun k e => Or.inr (Nat.le_trans M7.size ((yb Gb22) k e)));replace XM19 := Mut.grow XM19 (fun k e => Or.inr (Nat.le_trans M19.size ((yb Gb22) k e)));replace HF := HF.on E;replace LW := LW.step E XLW;replace M3 := M3.step E XM3;replace M7 := M7.step E XM7;replace M19 := M19.step E XM19
     have SB : ∀ q9, Mut [((Value.slice A1 k c1).ownBlock), (some gb1)] q9 → Mut [(some gb22), ((Value.slice A1 k c1).ownBlock), (some gb1)] q9 := (Mut.skip (Mut.keep (Mut.keep Mut.nil_)));replace HF := HF.less SB;replace XLW := fun k h => XLW k (SB k h);replace XM3 := fun k h => XM3 k (SB k h);replace XM7 := fun k h => XM7 k (SB k h);replace XM19 := fun k h => XM19 k (SB k h);clear SB
     replace E := erx (Mut [((Value.slice A1 k c1).ownBlock), (some gb1)]) w23;replace HF := HF.and (Per.blkN Bb22 (NotIn.cons Db22_l (NotIn.cons Db22_b1 NotIn.nil)))
     refine za rfl (jj (news := [.int .u64 ((yy ((u.take e).drop (e - 18)) : Nat) : Int)]) Tryd.underlying59 inf30 rfl (by decide) rfl Ol rfl (xg (HF.on E).here.2 ((HF.on E).here.2).lt rfl) (by simp [Value.oneCell']) (by unfold maxLen; omega) (by omega) (by exact Nat.le_trans LW.size E.size) ?_);intro v0 w24 On En KN;obtain ⟨A2, c2, rfl⟩ := vf On
     replace KN : ∀ q9, ((Value.slice A2 (k + 1) c2).ownBlock) = some q9 → ((Value.slice A1 k c1).ownBlock) = some q9 ∨ w23.heap.size ≤ q9 := KN;have LTb1 := (yj Bb1.lt);replace Bb1 := Bb1.extN En (NotIn.cons Db1_l NotIn.nil);replace Dl_b1 : Apart ((Value.slice A2 (k + 1) c2).ownBlock) (some gb1) := Dl_b1.turn KN LTb1;replace Db1_l := Dl_b1.symm;clear LTb1
     have HY : Gro (Mut [((Value.slice A2 (k + 1) c2).ownBlock), (some gb1)]) (Mut [((Value.slice A1 k c1).ownBlock), (some gb1)]) w23 := (Mut.grow (Mut.grow Mut.none_ (fun k e => Or.inl ((Mut.tail Mut.head) k e))) (fun k e => (KN k e).elim (fun e => Or.inl (Mut.head k e)) (fun h => Or.inr (Nat.le_trans E.size h))))
     replace KlM19 : ∀ q9, ((Value.slice A2 (k + 1) c2).ownBlock) = some q9 → ((Value.slice none 0 0).ownBlock) = some q9 ∨ w8.heap.size ≤ q9 := fun k e => (KN k e).elim (KlM19 k) (fun h => Or.inr (Nat.le_trans M19.size (Nat.le_trans E.size h)));replace E := E.step1 En Mut.head
     have XT := fun q9 (h : (Mut [((Value.slice A2 (k + 1) c2).ownBlock), (some gb1)]) q9) => (HY q9 h).elim (XLW q9) (fun h => Or.inr (Nat.le_trans LW.size h));have XT := fun q9 (h : (Mut [((Value.slice A2 (k + 1) c2).ownBlock), (some gb1)]) q9) => (HY q9 h).elim (XM3 q9) (fun h => Or.inr (Nat.le_trans M3.size h))
     have XT := fun q9 (h : (Mut [((Value.slice A2 (k + 1) c2).ownBlock), (some gb1)]) q9) => (HY q9 h).elim (XM7 q9) (fun h => Or.inr (Nat.le_trans M7.size h));have XT := fun q9 (h : (Mut [((Value.slice A2 (k + 1) c2).ownBlock), (some gb1)]) q9) => (HY q9 h).elim (XM19 q9) (fun h => Or.inr (Nat.le_trans M19.size h));replace M19 := M19.step E XM19;replace XM19 := XT
     replace E := erx (Mut [((Value.slice A2 (k + 1) c2).ownBlock), (some gb1)]) w24;clear HY;replace Ol : World.ownsRow w24 w.heap.size 30 1 (.slice A2 (k + 1) c2) (k + 1) ((xs ++ [yy ((u.take e).drop (e - 18))]).map fun x : Nat => Value.int .u64 (x : Int)) := by
      have e : ((xs.map fun x : Nat => Value.int .u64 (x : Int)) : List Value) ++ ([.int .u64 ((yy ((u.take e).drop (e - 18)) : Nat) : Int)] : List Value) = (xs ++ [yy ((u.take e).drop (e - 18))]).map fun x : Nat => Value.int .u64 (x : Int) := by simp
      rw [← e];exact On
     clear On KN En
     refine avx rfl (yf (zm (ze (zi (mvx rfl (za rfl (yw rfl rfl (zo (by omega)) (avx rfl (yf (yr 7 (.int .i64 ((u.length : Int) - 18 * ((k + 1 : Nat) : Int))) rfl ((by rw [show (u.length : Int) - 18 * (k : Int) - 18 = (u.length : Int) - 18 * ((k + 1 : Nat) : Int) by omega] : (.int .i64 (((u.length : Int) - 18 * (k : Int)) - 18) : Value) = _)) ?_))))))))))
     exact ym (k + 1, xs ++ [yy ((u.take e).drop (e - 18))], A2, c2) (by show u.length + 18 - 18 * (k + 1) < u.length + 18 - 18 * k; omega) ⟨rfl, rfl, rfl, rfl, rfl, rfl, trivial⟩ ⟨M19.step E XM19, (by exact Ol), (by exact Bb1), KlM19, by rw [List.length_append, hk]; rfl, zfz hsm (jw hal9 e), by rw [zpv hal9 hk (by omega : u.length = e + 18 * k) (by rw [hval, he]), show u.length - 18 * (k + 1) = e - 18 by omega], by omega⟩
    ·
     have q := of_decide_eq_false q;have hv9 : val B18 xs = yy r := by rw [hval, show u.length - 18 * k = 0 by omega, List.drop_zero, hnum]
     have Ol9 := Ol;have hown : Own w20 w.heap.size A1 c1 xs := ⟨by rw [hk]; exact Ol9, fun x hx => Nat.lt_trans (hsm x hx) (by decide)⟩;have hform : ∀ w', Nums w' A1 xs → Calls Tryd.prog 24 #[.bool false, .slice A1 k c1] w' (yfz w' (sgn false (yy r))) := fun w' h => by
      have h9 := zxk false A1 c1 xs w' h hsm (by omega);rwa [hk, hv9] at h9
     replace HF := HF.on E;replace LW := LW.step E XLW;have SB : ∀ q9, Mut [(some gb1)] q9 → Mut [((Value.slice A1 k c1).ownBlock), (some gb1)] q9 := (Mut.skip (Mut.keep Mut.nil_));replace HF := HF.less SB;replace XLW := fun k h => XLW k (SB k h);clear SB;replace E := erx (Mut [(some gb1)]) w20;replace HF := HF.and (Per.ownsN Ol (NotIn.cons Dl_b1 NotIn.nil));clear Ol;replace HF := HF.on E
     replace LW := LW.step E XLW;replace E := erx (Mut [(some gb1)]) w20;replace HF := HF.and (Per.ownN hown (NotIn.cons (ko hown Bb1 (by decide)) NotIn.nil));refine yn (zg (zg (zv (ze (srx (mvx rfl (mvx rfl (za rfl (zz en24 rfl ((hform _ ((HF.on E).here.2).nums).mono ?_))))))))));rintro e w25 ⟨A2, c2, rfl, o2, hb⟩;refine ⟨_, rfl, ?_⟩
     have SC := Nat.le_trans LW.size E.size;have Ec := Ext.of_below hb No;replace Bb1 := Bb1.extN Ec NotIn.nil;replace E := E.trans Ec.no;have S2 := SC;replace HF := HF.on E;replace LW := LW.step E XLW;replace E := erx (Mut [(some gb1)]) w25;replace HF := HF.and (Per.ownN o2 (NotIn.cons (ko o2 Bb1 (by decide)) NotIn.nil))
     refine qf (qz xb rfl rfl Bb1 rfl rfl (Nat.le_of_ble_eq_true rfl) ?_);intro w26 Bx Eb1;replace Bb1 := Bx;replace E := E.step1 Eb1 Mut.head;replace HF := HF.on E;replace LW := LW.step E XLW;have SB : ∀ q9, No q9 → Mut [(some gb1)] q9 := (Mut.skip Mut.nil_);replace HF := HF.less SB;replace XLW := fun k h => XLW k (SB k h);clear SB;replace E := erx (No) w26
     replace HF := HF.and (Per.blkN Bb1 NotIn.nil);refine anx rfl (zr (zp (rs := [.cell 2 61, .tmp 3]) (vs := [_, _]) rfl ⟨⟨_, rfl, gq Tryd.underlying61 rfl xb (HF.on E).here.2 rfl⟩, rfl, trivial⟩ ?_));exact by rw [e1, e2]; exact ⟨A2, c2, rfl, ((HF.on E).here.1.2).mono S2, (LW.step E XLW).toBelow⟩
end
section
variable (w : World)
theorem ztv (neg : Bool) : Calls Tryd.prog 20 #[.string ⟨(if neg then [45] else [] : List UInt8).toArray⟩] w (kg w 0 4) := by
 cases neg
 · show Calls Tryd.prog 20 #[.string ⟨#[]⟩] w (kg w 0 4)
   refine yl Tryd.func20 rfl Tryd.ntmps20 rfl ?_;have LW := erx (No) w;have XLW := grx (No) w;have E := erx (No) w;refine srx (za rfl (jb zr61 ?_));intro gb1 w2 Bb1 Eb1 Gb1;have Gb1 : _ ≤ gb1 := Nat.le_trans E.size Gb1;have GLb1 := Nat.le_trans LW.size Gb1;replace E := E.trans Eb1.no;replace E := E.cons (some gb1)
   replace XLW := Mut.grow XLW (fun k e => Or.inr (Nat.le_trans LW.size ((yb Gb1) k e)))
   refine anx rfl (srx (mvx rfl (za rfl (qc Tryd.underlying9 rfl (za rfl (qq rfl rfl (mvx rfl (yd 13 (.bool false) rfl (by rfl) (za rfl (zc rfl (za rfl (zc rfl (za rfl (zc rfl (za rfl (ya rfl rfl (anx rfl (zf (srx (mvx rfl (rnx (zy rfl (zj (ze (zf (srx (mvx rfl (za rfl (xz rfl rfl (rnx (zu 22 (.bool true) rfl (by rw [beq_self_eq_true]) (yi rfl (srx (za rfl (jm (cs := #[.bool false, .slice none 0 0]) pl61 zr61 rfl rfl (qf (qz xb rfl rfl Bb1 rfl rfl (Nat.le_of_ble_eq_true rfl) ?_)))))))))))))))))))))))))))))))))))))
   intro w3 Bx Eb1;replace Bb1 := Bx;replace E := E.step1 Eb1 Mut.head;refine anx rfl (zr (zd (zp (rs := [.cell 2 61, .tmp 3]) (vs := [_, _]) rfl ⟨⟨_, rfl, gq Tryd.underlying61 rfl xb Bb1 rfl⟩, rfl, trivial⟩ ?_)));exact jg (LW.step E XLW).toBelow
 · show Calls Tryd.prog 20 #[.string ⟨#[45]⟩] w (kg w 0 4)
   have hat0 : (⟨#[45]⟩ : ByteArray)[0]? = some 45 := rfl;refine yl Tryd.func20 rfl Tryd.ntmps20 rfl ?_;have LW := erx (No) w;have XLW := grx (No) w;have E := erx (No) w;refine srx (za rfl (jb zr61 ?_));intro gb1 w2 Bb1 Eb1 Gb1;have Gb1 : _ ≤ gb1 := Nat.le_trans E.size Gb1;have GLb1 := Nat.le_trans LW.size Gb1;replace E := E.trans Eb1.no;replace E := E.cons (some gb1)
   replace XLW := Mut.grow XLW (fun k e => Or.inr (Nat.le_trans LW.size ((yb Gb1) k e)))
   refine anx rfl (srx (mvx rfl (za rfl (qc Tryd.underlying9 rfl (za rfl (qq rfl rfl (mvx rfl (yd 13 (.bool true) rfl (by rfl) (onx rfl (zq rfl (onx rfl (gj (j := 0) Tryd.underlying9 rfl rfl rfl hat0 (onx rfl (ye rfl rfl (za rfl (zw rfl rfl (anx rfl (zf (srx (mvx rfl (rnx (yi rfl (zi (mvx rfl (za rfl (vo (l := 1) (h := 1) Tryd.underlying9 rfl ⟨_, rfl⟩ rfl (Nat.le_refl _) (Nat.le_refl _) (yd 20 (.string ⟨#[]⟩) rfl ((by rfl : (.string ((⟨#[45]⟩ : ByteArray).extract 1 1) : Value) = _)) (anx rfl (zf (srx (mvx rfl (za rfl (xz rfl rfl (rnx (zu 22 (.bool true) rfl (by rw [beq_self_eq_true]) (yi rfl ?_))))))))))))))))))))))))))))))))))))
   refine srx (za rfl (jm (cs := #[.bool false, .slice none 0 0]) pl61 zr61 rfl rfl (qf (qz xb rfl rfl Bb1 rfl rfl (Nat.le_of_ble_eq_true rfl) ?_))));intro w3 Bx Eb1;replace Bb1 := Bx;replace E := E.step1 Eb1 Mut.head
   refine anx rfl (zr (zd (zp (rs := [.cell 2 61, .tmp 3]) (vs := [_, _]) rfl ⟨⟨_, rfl, gq Tryd.underlying61 rfl xb Bb1 rfl⟩, rfl, trivial⟩ ?_)));exact jg (LW.step E XLW).toBelow
end
theorem parse_any (s : ByteArray) (w : World) (hs : s.size ≤ 140737488355328) : Calls Tryd.prog 20 #[.string s] w (kg w (gb (textN s.data.toList) (textR s.data.toList)) (jp (textR s.data.toList))) := by
 obtain ⟨bs, rfl⟩ : ∃ bs : List UInt8, s = ⟨bs.toArray⟩ := ⟨s.data.toList, by cases s; simp⟩;rw [vm] at hs;show Calls _ _ _ _ (kg w (gb (textN bs.toArray.toList) (textR bs.toArray.toList)) (jp (textR bs.toArray.toList)))
 rw [List.toList_toArray];unfold textN textR;by_cases h : bs.head? = some 45
 · rw [decide_eq_true h, if_pos h];obtain ⟨r, rfl⟩ : ∃ r, bs = 45 :: r := by cases bs with | nil => cases h | cons b r => exact ⟨r, by rw [Option.some.inj h]⟩
   by_cases hr : r = []
   · subst hr;obtain ⟨e1, e2⟩ := text_empty (neg := true);show Calls _ _ _ _ (kg w (gb true []) (jp []))
     rw [e1, e2];exact ztv w true
   · exact wparse_neg _ r w hr rfl hs
 · rw [decide_eq_false h, if_neg h];by_cases hr : bs = []
   · subst hr;obtain ⟨e1, e2⟩ := text_empty (neg := false);rw [e1, e2];exact ztv w false
   · exact wparse_pos bs w hr h hs
end Go.Proofs.YtmjbnhjgebjhlaaDoor
namespace Go.Proofs.YtmjbnhjgebjhlaaDoor
open Go.RowKit
set_option maxRecDepth 100000
attribute [local irreducible] OW RS
theorem textE_zero {r : List UInt8} (h : jp r = 0) : r ≠ [] ∧ r.all vg = true := by
 unfold jp at h;split at h
 · assumption
 · cases h
theorem textR_dig {r : List UInt8} {b : UInt8} (h : r.head? = some b) (hd : vg b = true) : textR r = r := by
 unfold textR;rw [h, if_neg];intro e;cases e
 revert hd;decide
theorem head_all {r : List UInt8} {b : UInt8} (h : r.head? = some b) (ha : r.all vg = true) : vg b = true := by
 cases r with
 | nil => cases h
 | cons x l =>
  cases h
  rw [List.all_cons, Bool.and_eq_true] at ha;exact ha.1
theorem conC_int (s : ByteArray) : zdx (1, s) = decide (jp s.data.toList = 0) := by
 unfold zdx;rw [if_neg (by show ¬ (1 : Int) = 3; decide)];split
 · rename_i h
   refine (decide_eq_false fun e => ?_).symm;obtain ⟨h1, h2⟩ := textE_zero e;cases hh : s.data.toList.head? with
   | none => exact h1 (List.head?_eq_none_iff.1 hh)
   | some b =>
    have h3 := head_all hh h2;have h : s.data.toList.head?.all (fun b => !vg b) = true := h;rw [hh, Option.all_some, h3] at h;cases h
 · rw [if_pos rfl]
theorem conC_str (s : ByteArray) : zdx (3, s) = decide (s.size ≤ 20000) := by unfold zdx; rw [if_pos rfl]
theorem conC_flt {s : ByteArray} {b : UInt8} (h : s.data.toList.head? = some b) (hd : vg b = true) : zdx (2, s) = decide (prE s = 0) := by
 unfold zdx;rw [if_neg (by show ¬ (2 : Int) = 3; decide), if_neg (by show ¬ s.data.toList.head?.all (fun b => !vg b) = true; rw [h, Option.all_some, hd]; decide), if_neg (by show ¬ (2 : Int) = 1; decide), if_pos rfl]
theorem conC_bad {k : Int} {s : ByteArray} (hk : k ≠ 3) (h : ∀ b, s.data.toList.head? = some b → vg b = false) : zdx (k, s) = false := by
 unfold zdx;rw [if_neg hk, if_pos];show s.data.toList.head?.all (fun b => !vg b) = true
 cases hh : s.data.toList.head? with
 | none => rfl
 | some b => rw [Option.all_some, h b hh]; rfl
theorem conC_other {k : Int} {s : ByteArray} (h3 : k ≠ 3) (h1 : k ≠ 1) (h2 : k ≠ 2) : zdx (k, s) = false := by
 unfold zdx;rw [if_neg h3];split
 · rfl
 · first | rfl | rw [if_neg h1, if_neg h2]
theorem first_byte {s : ByteArray} (h : 0 < s.size) : ∃ b, s.data.toList.head? = some b ∧ (s.data[0]?).map (·.toNat) = some b.toNat := by
 have h' : 0 < s.data.size := h;refine ⟨s.data[0], ?_, by rw [Array.getElem?_eq_getElem h']; rfl⟩;rw [List.head?_eq_getElem?, Array.getElem?_toList, Array.getElem?_eq_getElem h']
theorem no_byte {s : ByteArray} (h : s.size = 0) : s.data.toList = [] := by
 have h' : s.data.size = 0 := h;exact List.eq_nil_of_length_eq_zero (by rw [Array.length_toList]; exact h')
theorem ygx {s : ByteArray} : (s.toList == (⟨#[]⟩ : ByteArray).toList) = decide (s.size = 0) := by
 rw [ByteArray.toList_eq, ByteArray.toList_eq, Bool.eq_iff_iff];simp only [beq_iff_eq, decide_eq_true_eq]
 constructor
 · intro h;have := congrArg List.length h;exact this
 · intro h;exact no_byte h
section
variable (w : World) {bp op cp bf of cf bl ol cl : Nat} (k : Int) (s : ByteArray) (hs : s.size ≤ 140737488355328) (hT : Tabs bp op cp bf of cf bl ol cl w) (hE : ∃ te pe, w.cell? ⟨2, 0, none⟩ = some (.iface te pe))
include hs hT hE
theorem const_any : Calls Tryd.prog 17 #[.agg #[.int .i64 k, .string s]] w fun e w' => e = .returned (.bool (zdx (k, s))) ∧ Below w.heap.size w w' := by
 obtain ⟨te, pe, hE⟩ := hE;refine yl Tryd.func17 rfl Tryd.ntmps17 rfl ?_;have HF : Per (No) w (fun _ => True) := Per.true_;have LW := erx (No) w;have XLW := grx (No) w;have E := erx (No) w;replace HF := HF.on E;replace LW := LW.step E XLW;replace E := erx (No) w;replace HF := HF.and (Per.tabs hT (fun _ h => h.elim));replace HF := HF.on E;replace LW := LW.step E XLW;replace E := erx (No) w
 replace HF := HF.and (Per.cellA hE (fun _ h => h.elim));refine srx (za rfl (jy rfl ?_));intro gb1 w2 Bb1 Eb1 Gb1;have Gb1 : _ ≤ gb1 := Nat.le_trans E.size Gb1;have GLb1 := Nat.le_trans LW.size Gb1;replace E := E.trans Eb1.no;replace HF := HF.cons (yb Gb1);replace E := E.cons (some gb1);replace XLW := Mut.grow XLW (fun k e => Or.inr (Nat.le_trans LW.size ((yb Gb1) k e)))
 replace HF := HF.on E;replace LW := LW.step E XLW;have SB : ∀ q9, No q9 → Mut [(some gb1)] q9 := (Mut.skip Mut.nil_);replace HF := HF.less SB;replace XLW := fun k h => XLW k (SB k h);clear SB;replace E := erx (No) w2;replace HF := HF.and (Per.blkN Bb1 NotIn.nil)
 refine anx rfl (srx (anx rfl (zf (zx (srx (za rfl (zb Tryd.underlying55 rfl sz3 (by decide) rfl (za rfl (zl Tryd.underlying3 rfl rfl (HF.on E).here.2 rfl (za rfl (ye rfl rfl (anx rfl ?_))))))))))));by_cases h3 : k = 3
 ·
  refine zu 4 (.bool true) rfl ((by rw [h3]; rfl : (.bool (k == 3) : Value) = _)) (yi rfl (srx (za rfl (zb Tryd.underlying55 rfl sz9 (by decide) rfl (za rfl (zl Tryd.underlying9 rfl rfl (HF.on E).here.2 rfl (za rfl (qc Tryd.underlying9 rfl (za rfl (gz rfl rfl (anx rfl (zr (zn (zd (zp (rs := [.tmp 2]) (vs := [_]) rfl ⟨rfl, trivial⟩ ?_)))))))))))))))
  exact ⟨by rw [h3, conC_str]; refine congrArg (fun z => Ending.returned (.bool z)) ?_; rw [decide_eq_decide]; omega, (LW.step E XLW).toBelow⟩
 ·
  refine zu 4 (.bool false) rfl ((by congr 1; rw [beq_eq_false_iff_ne]; exact h3 : (.bool (k == 3) : Value) = _)) (zy rfl (srx (za rfl (zb Tryd.underlying55 rfl sz9 (by decide) rfl (za rfl (zl Tryd.underlying9 rfl rfl (HF.on E).here.2 rfl (za rfl (xz rfl rfl (mvx rfl ?_)))))))));by_cases h0 : s.size = 0
  ·
   refine yd 16 (.bool true) rfl (by rw [ygx, decide_eq_true h0]) (za rfl (zc rfl (za rfl (zc rfl (za rfl (zc rfl (za rfl (zc rfl (za rfl (zw rfl rfl (mvx rfl (za rfl (zc rfl (za rfl (zc rfl (za rfl (zc rfl (za rfl (zc rfl (za rfl (zw rfl rfl (anx rfl (yi rfl (zj (zm (ze (srx (mvx rfl (za rfl (ye rfl rfl (anx rfl (zr (zp (rs := [.tmp 2]) (vs := [_]) rfl ⟨rfl, trivial⟩ ?_)))))))))))))))))))))))))))))))))
   exact ⟨by rw [conC_bad h3 (fun b hb => by rw [no_byte h0] at hb; cases hb)]; rfl, (LW.step E XLW).toBelow⟩
  ·
   refine yd 16 (.bool false) rfl (by rw [ygx, decide_eq_false h0]) ?_;obtain ⟨b, hb0, hb1⟩ := first_byte (show 0 < s.size by omega)
   refine onx rfl (zb Tryd.underlying55 rfl sz9 (by decide) rfl (onx rfl (zl Tryd.underlying9 rfl rfl (HF.on E).here.2 rfl (onx rfl (yh (j := 0) (b := b.toNat) Tryd.underlying9 rfl rfl rfl hb1 (onx rfl (yt rfl rfl (za rfl (ya rfl rfl (mvx rfl ?_))))))))));by_cases hl : b.toNat < 48
   ·
    refine yd 22 (.bool true) rfl ((by rw [decide_eq_true]; omega : (.bool (decide (((b.toNat : Nat) : Int) < 48)) : Value) = _)) (za rfl (zc rfl (za rfl (zc rfl (za rfl (zc rfl (za rfl (zc rfl (za rfl (zw rfl rfl (anx rfl (yi rfl (zj (zm (ze (srx (mvx rfl (za rfl (ye rfl rfl (anx rfl (zr (zp (rs := [.tmp 2]) (vs := [_]) rfl ⟨rfl, trivial⟩ ?_))))))))))))))))))))))
    exact ⟨by rw [conC_bad h3 (fun b' hb => by rw [hb0] at hb; cases hb; unfold vg; rw [decide_eq_false (by omega)]; rfl)]; rfl, (LW.step E XLW).toBelow⟩
   ·
    refine yd 22 (.bool false) rfl ((by rw [decide_eq_false]; omega : (.bool (decide (((b.toNat : Nat) : Int) < 48)) : Value) = _)) (onx rfl (zb Tryd.underlying55 rfl sz9 (by decide) rfl (onx rfl (zl Tryd.underlying9 rfl rfl (HF.on E).here.2 rfl (onx rfl (yh (j := 0) (b := b.toNat) Tryd.underlying9 rfl rfl rfl hb1 (onx rfl (qq rfl rfl (za rfl (ya rfl rfl (anx rfl ?_)))))))))))
    by_cases hh : 57 < b.toNat
    ·
     refine zu 12 (.bool true) rfl ((by rw [decide_eq_true]; omega : (.bool (decide (57 < ((b.toNat : Nat) : Int))) : Value) = _)) (yi rfl (zj (zm (ze (srx (mvx rfl (za rfl (ye rfl rfl (anx rfl (zr (zp (rs := [.tmp 2]) (vs := [_]) rfl ⟨rfl, trivial⟩ ?_)))))))))))
     exact ⟨by rw [conC_bad h3 (fun b' hb => by rw [hb0] at hb; cases hb; unfold vg; rw [decide_eq_false (show ¬ b.toNat ≤ 57 by omega), Bool.and_false])]; rfl, (LW.step E XLW).toBelow⟩
    ·
     refine zu 12 (.bool false) rfl ((by rw [decide_eq_false]; omega : (.bool (decide (57 < ((b.toNat : Nat) : Int))) : Value) = _)) ?_;have hd : vg b = true := by unfold vg; rw [decide_eq_true (by omega), decide_eq_true (by omega)]; rfl
     have htr := textR_dig hb0 hd;refine zy rfl (srx (za rfl (zb Tryd.underlying55 rfl sz3 (by decide) rfl (za rfl (zl Tryd.underlying3 rfl rfl (HF.on E).here.2 rfl (za rfl (ye rfl rfl (anx rfl ?_))))))));by_cases h1 : k = 1
     ·
      refine zu 28 (.bool true) rfl ((by rw [h1]; rfl : (.bool (k == 1) : Value) = _)) (yi rfl (zi (za rfl (zb Tryd.underlying55 rfl sz9 (by decide) rfl (za rfl (zl Tryd.underlying9 rfl rfl (HF.on E).here.2 rfl (za rfl (zz en20 rfl ((parse_any s _ hs).mono ?_)))))))));rintro e w3 ⟨A1, c1, rfl, o1, hb⟩;refine ⟨_, rfl, ?_⟩;replace E := blx E hb
      refine mvx rfl (za rfl (yc rfl rfl (za rfl (yc rfl rfl (avx rfl (yf (zm (ze (srx (mvx rfl (za rfl (ye rfl rfl (anx rfl (zr (zp (rs := [.tmp 2]) (vs := [_]) rfl ⟨rfl, trivial⟩ ?_)))))))))))))))
      exact ⟨by rw [h1, conC_int, htr]; refine congrArg (fun z => Ending.returned (.bool z)) ?_; first | rfl | (rw [Bool.eq_iff_iff]; simp; done), (LW.step E XLW).toBelow⟩
     ·
      refine zu 28 (.bool false) rfl ((by congr 1; rw [beq_eq_false_iff_ne]; exact h1 : (.bool (k == 1) : Value) = _)) (zy rfl (srx (za rfl (zb Tryd.underlying55 rfl sz3 (by decide) rfl (za rfl (zl Tryd.underlying3 rfl rfl (HF.on E).here.2 rfl (za rfl (ye rfl rfl (anx rfl ?_)))))))));by_cases h2 : k = 2
      ·
       refine zu 38 (.bool true) rfl ((by rw [h2]; rfl : (.bool (k == 2) : Value) = _)) (yi rfl (zi (za rfl (zb Tryd.underlying55 rfl sz9 (by decide) rfl (za rfl (zl Tryd.underlying9 rfl rfl (HF.on E).here.2 rfl (za rfl (zz en21 rfl ((realparse_any _ s (HF.on E).here.1.1.2 ⟨te, pe, (HF.on E).here.1.2⟩).mono ?_)))))))));rintro e w4 ⟨rfl, hb⟩
       refine ⟨_, rfl, ?_⟩;replace E := blx E hb;refine mvx rfl (za rfl (yc rfl rfl (za rfl (yc rfl rfl (avx rfl (yf (zm (ze (srx (mvx rfl (za rfl (ye rfl rfl (anx rfl (zr (zp (rs := [.tmp 2]) (vs := [_]) rfl ⟨rfl, trivial⟩ ?_)))))))))))))))
       exact ⟨by rw [h2, conC_flt hb0 hd]; refine congrArg (fun z => Ending.returned (.bool z)) ?_; first | rfl | (rw [Bool.eq_iff_iff]; simp; done), (LW.step E XLW).toBelow⟩
      ·
       refine zu 38 (.bool false) rfl ((by congr 1; rw [beq_eq_false_iff_ne]; exact h2 : (.bool (k == 2) : Value) = _)) (zy rfl (zj (zm (ze (srx (mvx rfl (za rfl (ye rfl rfl (anx rfl (zr (zp (rs := [.tmp 2]) (vs := [_]) rfl ⟨rfl, trivial⟩ ?_)))))))))));exact ⟨by rw [conC_other h3 h1 h2]; rfl, (LW.step E XLW).toBelow⟩
end
end Go.Proofs.YtmjbnhjgebjhlaaDoor
namespace Go.Proofs.YtmjbnhjgebjhlaaDoor
open Go.RowKit
set_option maxRecDepth 100000
attribute [local irreducible] OW RS
theorem rgC_eq (f : LFn) (r : LReg) : rgC f r = (decide (0 ≤ r.fr) && (decide (r.fr ≤ r.to) && (decide (r.to ≤ (f.ins.length : Int)) && ((decide (0 ≤ r.tg) && decide (r.tg < (f.ins.length : Int))) && (decide (0 ≤ r.d) && decide (r.d < f.regs)))))) := rfl
section
variable (w : World) {bp op cp bf of cf bl ol cl : Nat} (k : Int) (s : ByteArray) (hs : s.size ≤ 140737488355328) (hT : Tabs bp op cp bf of cf bl ol cl w) (hE : ∃ te pe, w.cell? ⟨2, 0, none⟩ = some (.iface te pe))
include hs hT hE
end
/-! ### heads -/
def ot (f : LFn) : Prop := 0 ≤ f.regs ∧ f.regs ≤ 65536 ∧ 0 ≤ f.params ∧ f.params ≤ f.regs ∧ 0 ≤ f.frees ∧ 0 ≤ f.bound ∧ f.ins.length ≠ 0
instance (f : LFn) : Decidable (ot f) := by unfold ot; infer_instance
def strC (s : ByteArray) : Bool := decide (s.size ≤ 20000)
def om (f : LFn) (n : Nat) : Bool := decide (0 < n) || (decide (f.params = 0) && (decide (f.frees = 0) && !f.gen))
theorem zlx (f : LFn) (n : Nat) : kq f n = (decide (ot f) && ((f.name :: f.names).all strC && (f.consts.all zdx && om f n))) := by
 rw [Bool.eq_iff_iff, Bool.and_eq_true, decide_eq_true_iff];unfold kq ot om strC;simp only [Bool.and_eq_true, decide_eq_true_eq, List.all_cons, and_assoc]
theorem ou {f : LFn} {n : Nat} (h : ¬ ot f) : kq f n = false := by rw [zlx, decide_eq_false h]; rfl
theorem headC_str {f : LFn} {n k : Nat} {s : ByteArray} (h : (f.name :: f.names)[k]? = some s) (hs : strC s = false) : kq f n = false := by rw [zlx, jn h hs, Bool.false_and, Bool.and_false]
theorem headC_con {f : LFn} {n k : Nat} {c : Int × ByteArray} (h : f.consts[k]? = some c) (hs : zdx c = false) : kq f n = false := by rw [zlx, jn h hs, Bool.false_and, Bool.and_false, Bool.and_false]
theorem zgv {f : LFn} {n : Nat} (h : ot f) (h1 : (f.name :: f.names).all strC = true) (h2 : f.consts.all zdx = true) : kq f n = om f n := by rw [zlx, decide_eq_true h, h1, h2]; rfl
def StrRow (m : Nat) (w : World) (A : Option Addr) (xs : List ByteArray) : Prop := RowS m w 1 (fun w g o x => w.cell? ⟨g, o, none⟩ = some (.string x)) A xs
theorem StrRow.low {m : Nat} {X : Nat → Prop} {w w' : World} {A : Option Addr} {xs : List ByteArray} (h : StrRow m w A xs) (k : Low m X w w') : StrRow m w' A xs := RowS.low h fun _ _ _ hg hc => k.cell hg hc
theorem StrRow.cell {m : Nat} {w : World} {A : Option Addr} {xs : List ByteArray} (h : StrRow m w A xs) {j : Nat} {x : ByteArray} (hj : xs[j]? = some x) : ∃ g o, A = some ⟨g, o, none⟩ ∧ g < m ∧ w.cell? ⟨g, o + j, none⟩ = some (.string x) := by
 obtain ⟨g, o, e, hg, hc⟩ := RowS.at h hj;exact ⟨g, o, e, hg, by rwa [Nat.mul_one] at hc⟩
theorem Per.strRow {m : Nat} {X : Nat → Prop} {w : World} {A : Option Addr} {xs : List ByteArray} (h : StrRow m w A xs) (hX : ∀ k, X k → m ≤ k) : Per X w (fun z => StrRow m z A xs) := fun _ hb => h.low ⟨hb, hX⟩
def zjz (xs : List ByteArray) : List Value := xs.map fun x => .string x
theorem strRow_owns {w : World} {lo c n : Nat} {A : Option Addr} {xs : List ByteArray} (h : w.ownsRow lo 9 1 (.slice A n c) n (zjz xs)) (hn : n = xs.length) : StrRow w.heap.size w A xs := fun h0 => by
 subst hn;obtain ⟨g, hA, _, hg, hc⟩ := xh h (List.length_pos_iff.2 h0);refine ⟨g, 0, hA, hg, fun j x hj => ?_⟩;show w.cell? ⟨g, 0 + j * 1, none⟩ = _
 rw [Nat.zero_add, Nat.mul_one];refine hc j _ ?_;unfold zjz;rw [List.getElem?_map, hj]; rfl
theorem StrsA.readsV {n : Nat} {w : World} {A : Option Addr} {xs : List ByteArray} (h : StrsA n w A xs) {B : Nat} (hB : n ≤ B) : Reads w B 1 A xs.length (zjz xs) := by
 refine ⟨by unfold zjz; simp, fun h0 => ?_⟩;obtain ⟨g, o, e, hg, hc⟩ := h.row (fun e => by rw [e] at h0; simp [zjz] at h0);refine ⟨_, e, by show g < B; omega, fun j u hj => ?_⟩;unfold zjz at hj;rw [List.getElem?_map, Option.map_eq_some_iff] at hj;obtain ⟨x, hx, rfl⟩ := hj;have h9 := hc j x hx;rw [Nat.mul_one] at h9;rw [Lib.add_plain];exact h9
theorem ConsA.at {n : Nat} {w : World} {A : Option Addr} {xs : List (Int × ByteArray)} (h : ConsA n w A xs) {j : Nat} {x : Int × ByteArray} (hj : xs[j]? = some x) : ∃ g o, A = some ⟨g, o, none⟩ ∧ g < n ∧ zdz w g (o + j * 2) [.int .i64 x.1, .string x.2] := h.row.at hj
section
variable (w : World) {bp op cp bf of cf bl ol cl : Nat} (p : Pl) (f : LFn) (n0 n : Nat) (hF : FnA n0 w p f) (hs : ∀ c ∈ f.consts, c.2.size ≤ 140737488355328) (hT : Tabs bp op cp bf of cf bl ol cl w) (hE : ∃ te pe, w.cell? ⟨2, 0, none⟩ = some (.iface te pe))
include hF hs hT hE
set_option maxHeartbeats 1000000 in
theorem head_any : Calls Tryd.prog 12 #[fnV p f, .int .i64 ((n : Nat) : Int)] w fun e w' => e = .returned (.bool (kq f n)) ∧ Below w.heap.size w w' := by
 obtain ⟨te, pe, hE⟩ := hE;have hnl := hF.names.len;have hcl := hF.consts.len;have hsz := hF.size;refine yl Tryd.func12 rfl Tryd.ntmps12 rfl ?_;have HF : Per (No) w (fun _ => True) := Per.true_;have LW := erx (No) w;have XLW := grx (No) w;have E := erx (No) w;replace HF := HF.on E;replace LW := LW.step E XLW;replace E := erx (No) w;replace HF := HF.and (Per.fnA hF (fun _ h => h.elim))
 replace HF := HF.on E;replace LW := LW.step E XLW;replace E := erx (No) w;replace HF := HF.and (Per.tabs hT (fun _ h => h.elim));replace HF := HF.on E;replace LW := LW.step E XLW;replace E := erx (No) w;replace HF := HF.and (Per.cellA hE (fun _ h => h.elim));refine srx (za rfl (jy rfl ?_));intro gb1 w2 Bb1 Eb1 Gb1;have Gb1 : _ ≤ gb1 := Nat.le_trans E.size Gb1
 have GLb1 := Nat.le_trans LW.size Gb1;replace E := E.trans Eb1.no;replace HF := HF.cons (yb Gb1);replace E := E.cons (some gb1);replace XLW := Mut.grow XLW (fun k e => Or.inr (Nat.le_trans LW.size ((yb Gb1) k e)));replace HF := HF.on E;replace LW := LW.step E XLW;have SB : ∀ q9, No q9 → Mut [(some gb1)] q9 := (Mut.skip Mut.nil_);replace HF := HF.less SB
 replace XLW := fun k h => XLW k (SB k h);clear SB;replace E := erx (No) w2;replace HF := HF.and (Per.blkN Bb1 NotIn.nil);refine anx rfl (zf (srx (za rfl (zb Tryd.underlying37 rfl sz3 (by decide) rfl (za rfl (zl Tryd.underlying3 rfl rfl (HF.on E).here.2 rfl (za rfl (yt rfl rfl (mvx rfl (yo 12 rfl (fun h1 => ?_) (fun h1 => ?_)))))))))))
 ·
  replace h1 := of_decide_eq_true h1
  refine za rfl (zc rfl (za rfl (zc rfl (za rfl (zc rfl (za rfl (zw rfl rfl (mvx rfl (za rfl (zc rfl (za rfl (zc rfl (za rfl (zc rfl (za rfl (zw rfl rfl (mvx rfl (za rfl (zc rfl (za rfl (zc rfl (za rfl (zc rfl (za rfl (zc rfl (za rfl (zc rfl (za rfl (zw rfl rfl (mvx rfl (za rfl (zc rfl (za rfl (zc rfl (za rfl (zc rfl (za rfl (zw rfl rfl (mvx rfl (za rfl (zc rfl (za rfl (zc rfl (za rfl (zc rfl (za rfl (zw rfl rfl (mvx rfl (za rfl (zc rfl (za rfl (zc rfl (za rfl (zc rfl (za rfl (zc rfl (za rfl (zw rfl rfl (rnx (yi rfl (srx (anx rfl ?_))))))))))))))))))))))))))))))))))))))))))))))))))))))))))))))
  refine zr (zd (zp (rs := [.tmp 4]) (vs := [_]) rfl ⟨rfl, trivial⟩ ?_));exact ⟨by rw [ou (by unfold ot; omega)]; rfl, (LW.step E XLW).toBelow⟩
 replace h1 := of_decide_eq_false h1;refine onx rfl (zb Tryd.underlying37 rfl sz3 (by decide) rfl (onx rfl (zl Tryd.underlying3 rfl rfl (HF.on E).here.2 rfl (onx rfl (qq rfl rfl (za rfl (ya rfl rfl (mvx rfl (yo 17 rfl (fun h2 => ?_) (fun h2 => ?_))))))))))
 ·
  replace h2 := of_decide_eq_true h2
  refine za rfl (zc rfl (za rfl (zc rfl (za rfl (zc rfl (za rfl (zw rfl rfl (mvx rfl (za rfl (zc rfl (za rfl (zc rfl (za rfl (zc rfl (za rfl (zc rfl (za rfl (zc rfl (za rfl (zw rfl rfl (mvx rfl (za rfl (zc rfl (za rfl (zc rfl (za rfl (zc rfl (za rfl (zw rfl rfl (mvx rfl (za rfl (zc rfl (za rfl (zc rfl (za rfl (zc rfl (za rfl (zw rfl rfl (mvx rfl (za rfl (zc rfl (za rfl (zc rfl (za rfl (zc rfl (za rfl (zc rfl (za rfl (zw rfl rfl (rnx (yi rfl (srx (anx rfl (zr (zd (zp (rs := [.tmp 4]) (vs := [_]) rfl ⟨rfl, trivial⟩ ?_))))))))))))))))))))))))))))))))))))))))))))))))))))))))
  exact ⟨by rw [ou (by unfold ot; omega)]; rfl, (LW.step E XLW).toBelow⟩
 replace h2 := of_decide_eq_false h2;refine onx rfl (zb Tryd.underlying37 rfl sz3 (by decide) rfl (onx rfl (zl Tryd.underlying3 rfl rfl (HF.on E).here.2 rfl (onx rfl (yt rfl rfl (za rfl (ya rfl rfl (mvx rfl (yo 22 rfl (fun h3 => ?_) (fun h3 => ?_))))))))))
 ·
  replace h3 := of_decide_eq_true h3
  refine za rfl (zc rfl (za rfl (zc rfl (za rfl (zc rfl (za rfl (zc rfl (za rfl (zc rfl (za rfl (zw rfl rfl (mvx rfl (za rfl (zc rfl (za rfl (zc rfl (za rfl (zc rfl (za rfl (zw rfl rfl (mvx rfl (za rfl (zc rfl (za rfl (zc rfl (za rfl (zc rfl (za rfl (zw rfl rfl (mvx rfl (za rfl (zc rfl (za rfl (zc rfl (za rfl (zc rfl (za rfl (zc rfl (za rfl (zw rfl rfl (rnx (yi rfl (srx (anx rfl (zr (zd (zp (rs := [.tmp 4]) (vs := [_]) rfl ⟨rfl, trivial⟩ ?_)))))))))))))))))))))))))))))))))))))))))))))))
  exact ⟨by rw [ou (by unfold ot; omega)]; rfl, (LW.step E XLW).toBelow⟩
 replace h3 := of_decide_eq_false h3
 refine onx rfl (zb Tryd.underlying37 rfl sz3 (by decide) rfl (onx rfl (zl Tryd.underlying3 rfl rfl (HF.on E).here.2 rfl (onx rfl (zb Tryd.underlying37 rfl sz3 (by decide) rfl (onx rfl (zl Tryd.underlying3 rfl rfl (HF.on E).here.2 rfl (onx rfl (qq rfl rfl (za rfl (ya rfl rfl (mvx rfl (yo 29 rfl (fun h4 => ?_) (fun h4 => ?_))))))))))))))
 ·
  replace h4 := of_decide_eq_true h4
  refine za rfl (zc rfl (za rfl (zc rfl (za rfl (zc rfl (za rfl (zw rfl rfl (mvx rfl (za rfl (zc rfl (za rfl (zc rfl (za rfl (zc rfl (za rfl (zw rfl rfl (mvx rfl (za rfl (zc rfl (za rfl (zc rfl (za rfl (zc rfl (za rfl (zc rfl (za rfl (zw rfl rfl (rnx (yi rfl (srx (anx rfl (zr (zd (zp (rs := [.tmp 4]) (vs := [_]) rfl ⟨rfl, trivial⟩ ?_))))))))))))))))))))))))))))))))))
  exact ⟨by rw [ou (by unfold ot; omega)]; rfl, (LW.step E XLW).toBelow⟩
 replace h4 := of_decide_eq_false h4;refine onx rfl (zb Tryd.underlying37 rfl sz3 (by decide) rfl (onx rfl (zl Tryd.underlying3 rfl rfl (HF.on E).here.2 rfl (onx rfl (yt rfl rfl (za rfl (ya rfl rfl (mvx rfl (yo 34 rfl (fun h5 => ?_) (fun h5 => ?_))))))))))
 ·
  replace h5 := of_decide_eq_true h5
  refine za rfl (zc rfl (za rfl (zc rfl (za rfl (zc rfl (za rfl (zw rfl rfl (mvx rfl (za rfl (zc rfl (za rfl (zc rfl (za rfl (zc rfl (za rfl (zc rfl (za rfl (zw rfl rfl (rnx (yi rfl (srx (anx rfl (zr (zd (zp (rs := [.tmp 4]) (vs := [_]) rfl ⟨rfl, trivial⟩ ?_)))))))))))))))))))))))))
  exact ⟨by rw [ou (by unfold ot; omega)]; rfl, (LW.step E XLW).toBelow⟩
 replace h5 := of_decide_eq_false h5;refine onx rfl (zb Tryd.underlying37 rfl sz3 (by decide) rfl (onx rfl (zl Tryd.underlying3 rfl rfl (HF.on E).here.2 rfl (onx rfl (yt rfl rfl (za rfl (ya rfl rfl (mvx rfl (yo 39 rfl (fun h6 => ?_) (fun h6 => ?_))))))))))
 ·
  replace h6 := of_decide_eq_true h6;refine za rfl (zc rfl (za rfl (zc rfl (za rfl (zc rfl (za rfl (zc rfl (za rfl (zw rfl rfl (rnx (yi rfl (srx (anx rfl (zr (zd (zp (rs := [.tmp 4]) (vs := [_]) rfl ⟨rfl, trivial⟩ ?_))))))))))))))));exact ⟨by rw [ou (by unfold ot; omega)]; rfl, (LW.step E XLW).toBelow⟩
 replace h6 := of_decide_eq_false h6;refine onx rfl (zb Tryd.underlying37 rfl sz34 (by decide) rfl (onx rfl (zl Tryd.underlying34 rfl rfl (HF.on E).here.2 rfl (onx rfl (vi Tryd.underlying34 rfl (onx rfl (ye rfl rfl (za rfl (ya rfl rfl (rnx (zt rfl (fun h7 => ?_) (fun h7 => ?_))))))))))))
 ·
  refine zu 44 (.bool true) rfl (congrArg Value.bool h7) ?_;replace h7 := eq_of_beq h7;refine srx (anx rfl (zr (zd (zp (rs := [.tmp 4]) (vs := [_]) rfl ⟨rfl, trivial⟩ ?_))));exact ⟨by rw [ou (by unfold ot; omega)]; rfl, (LW.step E XLW).toBelow⟩
 refine zu 44 (.bool false) rfl (congrArg Value.bool h7) ?_;replace h7 := beq_eq_false_iff_ne.1 h7
 refine zj (ze (zf (srx (za rfl (zb Tryd.underlying37 rfl sz9 (by decide) rfl (za rfl (zl Tryd.underlying9 rfl rfl (HF.on E).here.2 rfl (za rfl (qa (cs := #[.string f.name]) Tryd.underlying32 sz9 zr9 (by decide) rfl (by rw [qt]; rfl) ?_)))))))));intro gb3 w4 Bb3 Eb3 Gb3;have Gb3 : _ ≤ gb3 := Nat.le_trans E.size Gb3
 have GLb3 := Nat.le_trans LW.size Gb3;replace E := E.trans Eb3.no;replace HF := HF.cons (yb Gb3);replace E := E.cons (some gb3);replace XLW := Mut.grow XLW (fun k e => Or.inr (Nat.le_trans LW.size ((yb Gb3) k e)));replace HF := HF.on E;replace LW := LW.step E XLW;have SB : ∀ q9, No q9 → Mut [(some gb3)] q9 := (Mut.skip Mut.nil_);replace HF := HF.less SB
 replace XLW := fun k h => XLW k (SB k h);clear SB;replace E := erx (No) w4;replace HF := HF.and (Per.blkN Bb3 NotIn.nil);refine za rfl (zb Tryd.underlying37 rfl sz32 (by decide) rfl (za rfl (zl Tryd.underlying32 rfl rfl (HF.on E).here.1.2 rfl ?_)));have hN : ot f := by unfold ot; omega
 have hFn := (HF.on E).here.1.1.1.1.2;have hTn := (HF.on E).here.1.1.1.2;have hEn := (HF.on E).here.1.1.2;have Bf := (HF.on E).here.1.2;have Bx := (HF.on E).here.2;have hL0 : Ext No w w4 := (LW.step E XLW)
 have O1 : w4.ownsRow w.heap.size 9 1 (.slice (some ⟨gb3, 0, none⟩) 1 1) 1 (zjz [f.name]) := ⟨by simp [zjz], Or.inr ⟨gb3, 1, _, rfl, GLb3, Bx, Nat.le_refl _, by unfold maxLen; omega, by simp, by simp [zjz]⟩⟩
 refine za rfl (zfv (n' := 1 + f.names.length) (xs' := zjz (f.name :: f.names)) Tryd.underlying32 inf9 rfl (by decide) rfl O1 rfl (hFn.names.readsV (Nat.le_refl _)) (fun u hu => by obtain ⟨x, _, rfl⟩ := List.mem_map.1 hu; rfl) rfl (by unfold zjz; rfl) (by unfold maxLen; omega) (by omega) hL0.size ?_);rintro A6 c6 wX O2 E2 N2
 have hLX : Ext No w wX := hL0.step E2 (fun q hq => Or.inr (own_ge O1 q hq));have hrow0 : StrRow wX.heap.size wX A6 (f.name :: f.names) := strRow_owns O2 (by rw [List.length_cons, Nat.add_comm]);have b1 := yfx Bf O1 (by decide) E2;have hFX := hF.low (X := No) ⟨hLX, fun _ h => h.elim⟩;have hTX := (Per.tabs hT (X := No) (fun _ h => h.elim)) _ hLX
 have hEX := (Per.cellA hE (X := No) (fun _ h => h.elim)) _ hLX;have R_b1 := b1;have LWn : Ext No w wX := hLX;clear HF E LW XLW;have HF : Per (No) wX (fun _ => True) := Per.true_;have LW := LWn;clear LWn;have XLW : Gro (No) (No) w := Mut.none_;have E := erx (No) wX;replace HF := HF.on E;replace LW := LW.step E XLW;replace E := erx (No) wX;replace HF := HF.and (Per.blk R_b1 (fun h => h.elim))
 replace HF := HF.on E;replace LW := LW.step E XLW;replace E := erx (No) wX;replace HF := HF.and (Per.fnA hFX (fun _ h => h.elim));replace HF := HF.on E;replace LW := LW.step E XLW;replace E := erx (No) wX;replace HF := HF.and (Per.tabs hTX (fun _ h => h.elim));replace HF := HF.on E;replace LW := LW.step E XLW;replace E := erx (No) wX;replace HF := HF.and (Per.cellA hEX (fun _ h => h.elim))
 replace HF := HF.on E;replace LW := LW.step E XLW;replace E := erx (No) wX;replace HF := HF.and (Per.strRow hrow0 (fun _ h => h.elim));refine za rfl (vi Tryd.underlying32 rfl (mvx rfl (rnx (zx ?_))));replace HF := HF.on E;replace LW := LW.step E XLW;replace E := erx (No) wX
 refine qk (ι := Nat) (fun k => [(1, .int .i64 ((n : Nat) : Int)), (2, .pointer (some ⟨gb1, 0, none⟩)), (50, .slice A6 (1 + f.names.length) c6), (51, .int .i64 ((1 + f.names.length : Nat) : Int)), (52, .int .i64 ((k : Nat) : Int))]) (fun k w' => Ext (No) wX w' ∧ (k ≤ 1 + f.names.length ∧ ((f.name :: f.names).take k).all strC = true)) (fun k => 1 + f.names.length - k) 0 ⟨rfl, rfl, rfl, rfl, rfl, trivial⟩ ⟨Ext.refl _ _, ⟨Nat.zero_le _, by rw [List.take_zero]; rfl⟩⟩ ?_
 rintro k w6 ⟨M5, ⟨hk, hall⟩⟩;have XM5 := grx (No) wX;replace E := E.trans M5;replace HF := HF.on E;replace LW := LW.step E XLW;replace E := erx (No) w6;refine srx (za rfl (yt rfl rfl (rnx (zf (zt rfl (fun q => ?_) (fun q => ?_))))))
 ·
  have q := of_decide_eq_true q;have hlt : k < (f.name :: f.names).length := by rw [List.length_cons]; omega
  obtain ⟨y, hy⟩ : ∃ y, (f.name :: f.names)[k]? = some y := ⟨_, List.getElem?_eq_getElem hlt⟩;obtain ⟨g, o, hB, hg, hc⟩ := ((HF.on E).here.2).cell hy
  refine zj (ze (zf (zx (srx (za rfl (va (j := k) Tryd.underlying32 sz9 (congrArg (fun z ↦ some (Value.slice z (1 + f.names.length) c6)) hB) rfl rfl (by omega) (za rfl (yk Tryd.underlying9 rfl rfl hc (anx rfl (srx (mvx rfl (za rfl (qc Tryd.underlying9 rfl (za rfl (qq rfl rfl (rnx ?_))))))))))))))));by_cases hin : y.size ≤ 20000
  ·
   refine zu 58 (.bool false) rfl (by rw [decide_eq_false (by omega)]) (zy rfl (zj (zm (ze (zi (za rfl (yg rfl rfl (zo (by omega)) (mvx rfl (yf ?_)))))))))
   exact ym (k + 1) (by show 1 + f.names.length - (k + 1) < 1 + f.names.length - k; omega) ⟨rfl, rfl, rfl, rfl, rfl, trivial⟩ ⟨M5.step E XM5, ⟨by omega, zqq hy hall (decide_eq_true hin)⟩⟩
  ·
   refine zu 58 (.bool true) rfl (by rw [decide_eq_true (by omega)]) (yi rfl (srx (anx rfl (zr (zn (zd (zd (zn (zd (zp (rs := [.tmp 4]) (vs := [_]) rfl ⟨rfl, trivial⟩ ?_))))))))));exact ⟨by rw [headC_str hy (decide_eq_false hin)]; rfl, (LW.step E XLW).toBelow⟩
 ·
  have q := of_decide_eq_false q;have hall2 := zzk hall (by rw [List.length_cons]; omega)
  refine yn (zg (zg (zv (ze (zf (srx (za rfl (zb Tryd.underlying37 rfl sz33 (by decide) rfl (za rfl (zl Tryd.underlying33 rfl rfl (HF.on E).here.1.1.1.1.2 rfl (za rfl (vi Tryd.underlying33 rfl (mvx rfl (rnx (zx ?_)))))))))))))));replace HF := HF.on E;replace LW := LW.step E XLW;replace E := erx (No) w6
  refine qk (ι := Nat) (fun k => [(1, .int .i64 ((n : Nat) : Int)), (2, .pointer (some ⟨gb1, 0, none⟩)), (61, .slice p.ac f.consts.length p.cc), (62, .int .i64 ((f.consts.length : Nat) : Int)), (63, .int .i64 ((k : Nat) : Int))]) (fun k w' => Ext (No) w6 w' ∧ (k ≤ f.consts.length ∧ (f.consts.take k).all zdx = true)) (fun k => f.consts.length - k) 0 ⟨rfl, rfl, rfl, rfl, rfl, trivial⟩ ⟨Ext.refl _ _, ⟨Nat.zero_le _, by rw [List.take_zero]; rfl⟩⟩ ?_
  rintro k w8 ⟨M7, ⟨hk2, hall3⟩⟩;have XM7 := grx (No) w6;replace E := E.trans M7;replace HF := HF.on E;replace LW := LW.step E XLW;replace E := erx (No) w8;refine srx (za rfl (yt rfl rfl (rnx (zf (zt rfl (fun q2 => ?_) (fun q2 => ?_))))))
  ·
   have q2 := of_decide_eq_true q2;have hlt : k < f.consts.length := by omega
   obtain ⟨y, hy⟩ : ∃ y, f.consts[k]? = some y := ⟨_, List.getElem?_eq_getElem hlt⟩;obtain ⟨g, o, hB, hg, hc⟩ := ((HF.on E).here.1.1.1.2).consts.at hy
   refine zj (ze (zf (zx (srx (za rfl (vd (j := k) Tryd.underlying33 sz55 (congrArg (fun z ↦ some (Value.slice z f.consts.length p.cc)) hB) rfl rfl hlt (za rfl (zxz (cs := #[.int .i64 y.1, .string y.2]) Tryd.underlying55 rfl sz55 rfl rfl (fun j v hj ↦ hc j v (by simpa using hj)) (za rfl (jb zr55 ?_))))))))));intro gb9 w10 Bb9 Eb9 Gb9
   have Gb9 : _ ≤ gb9 := Nat.le_trans E.size Gb9;have GLb9 := Nat.le_trans LW.size Gb9;replace E := E.trans Eb9.no;replace HF := HF.cons (yb Gb9);replace E := E.cons (some gb9);replace XLW := Mut.grow XLW (fun k e => Or.inr (Nat.le_trans LW.size ((yb Gb9) k e)));replace XM7 := Mut.grow XM7 (fun k e => Or.inr (Nat.le_trans M7.size ((yb Gb9) k e)))
   refine qf (od sz55 rfl rfl Bb9 rfl rfl rfl ?_);intro w11 Bx Eb9;replace Bb9 : Blk w11 gb9 55 #[.int .i64 y.1, .string y.2] := Bx;replace E := E.step1 Eb9 Mut.head
   refine rnx (srx (za rfl (vt Tryd.underlying55 rfl sz55 rfl Bb9 rfl (za rfl (zz en17 rfl ((const_any _ y.1 y.2 (hs y (List.mem_of_getElem? hy)) (HF.on E).here.1.1.2 ⟨te, pe, (HF.on E).here.1.2⟩).mono ?_))))));rintro e w12 ⟨rfl, hb⟩;refine ⟨_, rfl, ?_⟩;have Ec := Ext.of_below hb No;replace Bb9 := Bb9.extN Ec NotIn.nil;replace E := E.trans Ec.no
   refine za rfl (vw rfl (rnx ?_));by_cases hin : zdx y = true
   ·
    refine zu 69 (.bool false) rfl ((by rw [show zdx (y.1, y.2) = true from hin]; rfl : (.bool (!(zdx (y.1, y.2))) : Value) = _)) (zy rfl (zj (zm (ze (zi (za rfl (yg rfl rfl (zo (by omega)) (mvx rfl (yf ?_)))))))))
    exact ym (k + 1) (by show f.consts.length - (k + 1) < f.consts.length - k; omega) ⟨rfl, rfl, rfl, rfl, rfl, trivial⟩ ⟨M7.step E XM7, ⟨by omega, zqq hy hall3 hin⟩⟩
   ·
    have hin := Bool.eq_false_iff.2 hin;refine zu 69 (.bool true) rfl ((by rw [show zdx (y.1, y.2) = false from hin]; rfl : (.bool (!(zdx (y.1, y.2))) : Value) = _)) (yi rfl (srx (anx rfl (zr (zn (zd (zd (zn (zd (zp (rs := [.tmp 4]) (vs := [_]) rfl ⟨rfl, trivial⟩ ?_))))))))))
    exact ⟨by rw [headC_con hy hin]; rfl, (LW.step E XLW).toBelow⟩
  ·
   have q2 := of_decide_eq_false q2;have hall4 := zzk hall3 (by omega);refine yn (zg (zg (zv (ze (srx (mvx rfl (za rfl (qq rfl rfl (mvx rfl (yo 73 rfl (fun t1 => ?_) (fun t1 => ?_)))))))))))
   ·
    replace t1 := of_decide_eq_true t1
    refine za rfl (zc rfl (za rfl (zc rfl (za rfl (zc rfl (za rfl (zc rfl (za rfl (qu rfl rfl (za rfl (qu rfl rfl (za rfl (qu rfl rfl (za rfl (zc rfl (za rfl (zc rfl (za rfl (qu rfl rfl (za rfl (qu rfl rfl (za rfl (qu rfl rfl (za rfl (zc rfl (za rfl (zw rfl rfl (anx rfl (zr (zp (rs := [.tmp 4]) (vs := [_]) rfl ⟨rfl, trivial⟩ ?_))))))))))))))))))))))))))))))
    exact ⟨by rw [zgv hN hall2 hall4]; refine congrArg (fun z => Ending.returned (.bool z)) ?_; clear hF hs hT hFX hTX hall2 hall4 hall3 hall HF E LW; first | rfl | (simp_all [om]; done) | (simp_all [om]; omega) | (simp_all [om]; rfl), (LW.step E XLW).toBelow⟩
   ·
    replace t1 := of_decide_eq_false t1;refine onx rfl (zb Tryd.underlying37 rfl sz3 (by decide) rfl (onx rfl (zl Tryd.underlying3 rfl rfl (HF.on E).here.1.1.1.1.2 rfl (onx rfl (ye rfl rfl (onx rfl (zq rfl (yo 77 rfl (fun t2 => ?_) (fun t2 => ?_)))))))))
    ·
     replace t2 := eq_of_beq t2;refine onx rfl (zb Tryd.underlying37 rfl sz3 (by decide) rfl (onx rfl (zl Tryd.underlying3 rfl rfl (HF.on E).here.1.1.1.1.2 rfl (onx rfl (ye rfl rfl (onx rfl (zw rfl rfl (onx rfl (zq rfl (yo 82 rfl (fun t3 => ?_) (fun t3 => ?_)))))))))))
     ·
      replace t3 := eq_of_beq t3;refine onx rfl (zb Tryd.underlying37 rfl sz4 (by decide) rfl (onx rfl (zl Tryd.underlying4 rfl rfl (HF.on E).here.1.1.1.1.2 rfl (onx rfl (vw rfl (onx rfl (zw rfl rfl (za rfl (ya rfl rfl (anx rfl (zr (zp (rs := [.tmp 4]) (vs := [_]) rfl ⟨rfl, trivial⟩ ?_))))))))))))
      exact ⟨by rw [zgv hN hall2 hall4]; refine congrArg (fun z => Ending.returned (.bool z)) ?_; clear hF hs hT hFX hTX hall2 hall4 hall3 hall HF E LW; first | rfl | (simp_all [om]; done) | (simp_all [om]; omega) | (simp_all [om]; rfl), (LW.step E XLW).toBelow⟩
     ·
      replace t3 := beq_eq_false_iff_ne.1 t3;refine za rfl (zc rfl (za rfl (zc rfl (za rfl (zc rfl (onx rfl (ya rfl rfl (za rfl (ya rfl rfl (anx rfl (zr (zp (rs := [.tmp 4]) (vs := [_]) rfl ⟨rfl, trivial⟩ ?_))))))))))))
      exact ⟨by rw [zgv hN hall2 hall4]; refine congrArg (fun z => Ending.returned (.bool z)) ?_; clear hF hs hT hFX hTX hall2 hall4 hall3 hall HF E LW; first | rfl | (simp_all [om]; done) | (simp_all [om]; omega) | (simp_all [om]; rfl), (LW.step E XLW).toBelow⟩
    ·
     replace t2 := beq_eq_false_iff_ne.1 t2;refine za rfl (zc rfl (za rfl (zc rfl (za rfl (zc rfl (onx rfl (ya rfl rfl (onx rfl (zq rfl (za rfl (zc rfl (za rfl (zc rfl (za rfl (zc rfl (onx rfl (ya rfl rfl (za rfl (ya rfl rfl (anx rfl (zr (zp (rs := [.tmp 4]) (vs := [_]) rfl ⟨rfl, trivial⟩ ?_))))))))))))))))))))))
     exact ⟨by rw [zgv hN hall2 hall4]; refine congrArg (fun z => Ending.returned (.bool z)) ?_; clear hF hs hT hFX hTX hall2 hall4 hall3 hall HF E LW; first | rfl | (simp_all [om]; done) | (simp_all [om]; omega) | (simp_all [om]; rfl), (LW.step E XLW).toBelow⟩
end
end Go.Proofs.YtmjbnhjgebjhlaaDoor
namespace Go.Proofs.YtmjbnhjgebjhlaaDoor
open Go.RowKit
set_option maxRecDepth 100000
attribute [local irreducible] OW RS
theorem StrsA.cell {n : Nat} {w : World} {A : Option Addr} {xs : List ByteArray} (h : StrsA n w A xs) {j : Nat} {x : ByteArray} (hj : xs[j]? = some x) : ∃ g o, A = some ⟨g, o, none⟩ ∧ g < n ∧ w.cell? ⟨g, o + j, none⟩ = some (.string x) := by
 obtain ⟨g, o, e, hg, hc⟩ := h.row.at hj;exact ⟨g, o, e, hg, by rwa [Nat.mul_one] at hc⟩
def rgN (f : LFn) (r : LReg) : Prop := 0 ≤ r.fr ∧ r.fr ≤ r.to ∧ r.to ≤ (f.ins.length : Int) ∧ 0 ≤ r.tg ∧ r.tg < (f.ins.length : Int) ∧ 0 ≤ r.d ∧ r.d < f.regs
theorem rgC_no {f : LFn} {r : LReg} (h : ¬ rgN f r) : rgC f r = false := by
 rw [rgC_eq, Bool.eq_false_iff];intro h2;simp only [Bool.and_eq_true, decide_eq_true_eq] at h2
 exact h ⟨h2.1, h2.2.1, h2.2.2.1, h2.2.2.2.1.1, h2.2.2.2.1.2, h2.2.2.2.2.1, h2.2.2.2.2.2⟩
section
variable (w : World) {bp op cp bf of cf bl ol cl : Nat} (p : Pl) (f : LFn) (n0 n : Nat) (hF : FnA n0 w p f) (hs : ∀ c ∈ f.consts, c.2.size ≤ 140737488355328) (hT : Tabs bp op cp bf of cf bl ol cl w) (hE : ∃ te pe, w.cell? ⟨2, 0, none⟩ = some (.iface te pe))
include hF hs hT hE
end
section
variable (w : World) (p : Pl) (f : LFn) (n0 : Nat) (hF : FnA n0 w p f)
include hF
end
end Go.Proofs.YtmjbnhjgebjhlaaDoor
namespace Go.Proofs.YtmjbnhjgebjhlaaDoor
open Go.RowKit
set_option maxRecDepth 100000
attribute [local irreducible] OW RS flN uD uA uB uT uL rL rK rLo rHi
def res3 (t : Int × Int × Int) : Value := .tuple #[.int .i64 t.1, .int .i64 t.2.1, .int .i64 t.2.2]
theorem zpz {α : Type} {l : List α} {k : Nat} {x : α} (h : l[k]? = some x) : l.drop k = x :: l.drop (k + 1) := by
 obtain ⟨h1, h2⟩ := List.getElem?_eq_some_iff.1 h;rw [List.drop_eq_getElem_cons h1, h2]
theorem bad_step {fs : List LFn} {f : LFn} {k : Nat} {i : LIns} (h : f.ins[k]? = some i) (hi : xt fs f k i = true) : xw fs f k (f.ins.drop k) = xw fs f (k + 1) (f.ins.drop (k + 1)) := by
 rw [zpz h];show (if xt fs f k i = true then _ else _) = _
 rw [if_pos hi]
theorem bad_here {fs : List LFn} {f : LFn} {k : Nat} {i : LIns} (h : f.ins[k]? = some i) (hi : xt fs f k i = false) : xw fs f k (f.ins.drop k) = some k := by
 rw [zpz h];show (if xt fs f k i = true then _ else _) = _
 rw [hi]; rfl
theorem bad_end {fs : List LFn} {f : LFn} {k : Nat} (h : ¬ k < f.ins.length) : xw fs f k (f.ins.drop k) = none := by
 rw [List.drop_of_length_le (by omega)]; rfl
section
variable {fs : List LFn} {f : LFn} {k : Nat} (h : fs[k]? = some f)
include h
theorem go_head (h1 : kq f k = false) : goF fs k (fs.drop k) = ((k : Int), -1, 3) := by
 rw [zpz h];show (if kq f k = true then _ else _) = _
 rw [h1]; rfl
theorem go_ins {j : Nat} (h1 : kq f k = true) (h2 : xw fs f 0 f.ins = some j) : goF fs k (fs.drop k) = ((k : Int), (j : Int), 3) := by
 rw [zpz h];show (if kq f k = true then _ else _) = _
 rw [h1, if_pos rfl, h2]
theorem kl (h1 : kq f k = true) (h2 : xw fs f 0 f.ins = none) (h3 : f.rgs.all (rgC f) = false) : goF fs k (fs.drop k) = ((k : Int), -2, 3) := by
 rw [zpz h];show (if kq f k = true then _ else _) = _
 rw [h1, if_pos rfl, h2];show (if _ then _ else _) = _
 rw [h3]; rfl
theorem go_step (h1 : kq f k = true) (h2 : xw fs f 0 f.ins = none) (h3 : f.rgs.all (rgC f) = true) : goF fs k (fs.drop k) = goF fs (k + 1) (fs.drop (k + 1)) := by
 rw [zpz h];show (if kq f k = true then _ else _) = _
 rw [h1, if_pos rfl, h2];show (if _ then _ else _) = _
 rw [h3]; rfl
end
theorem go_end {fs : List LFn} {k : Nat} (h : ¬ k < fs.length) : goF fs k (fs.drop k) = (0, 0, 0) := by
 rw [List.drop_of_length_le (by omega)]; rfl
theorem yek {fs : List LFn} (h : fs.length < 1 ∨ 4000 < fs.length) : zlv fs = (-1, -1, 3) := if_pos h
theorem checkC_go {fs : List LFn} (h : ¬ (fs.length < 1 ∨ 4000 < fs.length)) : zlv fs = goF fs 0 fs := if_neg h
theorem rgC_tg {f : LFn} {r : LReg} (h : inI r.tg f.ins.length = false) : rgC f r = false := by unfold rgC; rw [h]; simp
theorem rgC_d {f : LFn} {r : LReg} (h : inI r.d f.regs = false) : rgC f r = false := by unfold rgC; rw [h]; simp
theorem rgC_ok {f : LFn} {r : LReg} (h1 : 0 ≤ r.fr) (h2 : r.fr ≤ r.to) (h3 : r.to ≤ (f.ins.length : Int)) (h4 : inI r.tg f.ins.length = true) (h5 : inI r.d f.regs = true) : rgC f r = true := by unfold rgC; rw [h4, h5, decide_eq_true h1, decide_eq_true h2, decide_eq_true h3]; rfl
section
variable (w : World) {bp op cp bf of cf bl ol cl : Nat} (A : Option Addr) (n ca : Nat) (fs : List LFn) (hfs : FsA n w A fs) (hT : Tabs bp op cp bf of cf bl ol cl w) (hE : ∃ te pe, w.cell? ⟨2, 0, none⟩ = some (.iface te pe))
include hfs hT hE
set_option maxHeartbeats 1000000 in
theorem check_any : Calls Tryd.prog 6 #[.agg #[.slice A fs.length ca]] w fun e w' => e = .returned (res3 (zlv fs)) ∧ Below w.heap.size w w' := by
 obtain ⟨te, pe, hE⟩ := hE;have hfl := hfs.len;refine yl Tryd.func6 rfl Tryd.ntmps6 rfl ?_;have HF : Per (No) w (fun _ => True) := Per.true_;have LW := erx (No) w;have XLW := grx (No) w;have E := erx (No) w;replace HF := HF.on E;replace LW := LW.step E XLW;replace E := erx (No) w;replace HF := HF.and (Per.fsA hfs (fun _ h => h.elim));replace HF := HF.on E;replace LW := LW.step E XLW
 replace E := erx (No) w;replace HF := HF.and (Per.tabs hT (fun _ h => h.elim));replace HF := HF.on E;replace LW := LW.step E XLW;replace E := erx (No) w;replace HF := HF.and (Per.cellA hE (fun _ h => h.elim));refine srx (za rfl (jy rfl ?_));intro gb1 w2 Bb1 Eb1 Gb1;have Gb1 : _ ≤ gb1 := Nat.le_trans E.size Gb1;have GLb1 := Nat.le_trans LW.size Gb1;replace E := E.trans Eb1.no
 replace HF := HF.cons (yb Gb1);replace E := E.cons (some gb1);replace XLW := Mut.grow XLW (fun k e => Or.inr (Nat.le_trans LW.size ((yb Gb1) k e)));replace HF := HF.on E;replace LW := LW.step E XLW;have SB : ∀ q9, No q9 → Mut [(some gb1)] q9 := (Mut.skip Mut.nil_);replace HF := HF.less SB;replace XLW := fun k h => XLW k (SB k h);clear SB;replace E := erx (No) w2
 replace HF := HF.and (Per.blkN Bb1 NotIn.nil);refine avx rfl (avx rfl (anx rfl (zf (srx (za rfl (zb Tryd.underlying24 rfl sz22 (by decide) rfl (za rfl (zl Tryd.underlying22 rfl rfl (HF.on E).here.2 rfl (za rfl (vi Tryd.underlying22 rfl (za rfl (yt rfl rfl (mvx rfl (yo 14 rfl (fun h1 => ?_) (fun h1 => ?_)))))))))))))))
 ·
  replace h1 := of_decide_eq_true h1;refine za rfl (zc rfl (za rfl (zc rfl (za rfl (zc rfl (za rfl (zc rfl (za rfl (zw rfl rfl (rnx (yi rfl (srx (avx rfl (avx rfl (anx rfl (zr (zd (zp (rs := [.tmp 2, .tmp 3, .tmp 4]) (vs := [_, _, _]) rfl ⟨rfl, rfl, rfl, trivial⟩ ?_))))))))))))))))))
  exact ⟨by rw [yek (by omega)]; rfl, (LW.step E XLW).toBelow⟩
 replace h1 := of_decide_eq_false h1;refine onx rfl (zb Tryd.underlying24 rfl sz22 (by decide) rfl (onx rfl (zl Tryd.underlying22 rfl rfl (HF.on E).here.2 rfl (onx rfl (vi Tryd.underlying22 rfl (onx rfl (qq rfl rfl (za rfl (ya rfl rfl (rnx (zt rfl (fun h2 => ?_) (fun h2 => ?_))))))))))))
 ·
  refine zu 19 (.bool true) rfl (congrArg Value.bool h2) ?_;replace h2 := of_decide_eq_true h2;refine srx (avx rfl (avx rfl (anx rfl (zr (zd (zp (rs := [.tmp 2, .tmp 3, .tmp 4]) (vs := [_, _, _]) rfl ⟨rfl, rfl, rfl, trivial⟩ ?_))))));exact ⟨by rw [yek (by omega)]; rfl, (LW.step E XLW).toBelow⟩
 refine zu 19 (.bool false) rfl (congrArg Value.bool h2) ?_;replace h2 := of_decide_eq_false h2;refine zj (ze (zf (srx (za rfl (zb Tryd.underlying24 rfl sz22 (by decide) rfl (za rfl (zl Tryd.underlying22 rfl rfl (HF.on E).here.2 rfl (za rfl (vi Tryd.underlying22 rfl (mvx rfl (rnx (zx ?_))))))))))));have hcg := checkC_go (fs := fs) (by omega)
 replace HF := HF.on E;replace LW := LW.step E XLW;replace E := erx (No) w2
 refine qk (ι := Nat) (fun k => [(1, .pointer (some ⟨gb1, 0, none⟩)), (21, .slice A fs.length ca), (22, .int .i64 ((fs.length : Nat) : Int)), (23, .int .i64 ((k : Nat) : Int))]) (fun k w' => Ext (No) w2 w' ∧ (k ≤ fs.length ∧ zlv fs = goF fs k (fs.drop k))) (fun k => fs.length - k) 0 ⟨rfl, rfl, rfl, rfl, trivial⟩ ⟨Ext.refl _ _, ⟨Nat.zero_le _, hcg⟩⟩ ?_;rintro k w4 ⟨M3, ⟨hk, hgo⟩⟩
 have XM3 := grx (No) w2;replace E := E.trans M3;replace HF := HF.on E;replace LW := LW.step E XLW;replace E := erx (No) w4;refine srx (za rfl (yt rfl rfl (rnx (zf (zt rfl (fun q => ?_) (fun q => ?_))))))
 ·
  have q := of_decide_eq_true q;have hlt : k < fs.length := by omega
  obtain ⟨f, hf⟩ : ∃ f, fs[k]? = some f := ⟨_, List.getElem?_eq_getElem hlt⟩;obtain ⟨g, o, p, hA, hg, hF, hc⟩ := ((HF.on E).here.1.1.1.2).at hf;have hil := hF.ins.len;have hrl := hF.rgs.len;have hcs := hfs.strs f (List.mem_of_getElem? hf);replace HF := HF.on E;replace LW := LW.step E XLW;replace M3 := M3.step E XM3;replace E := erx (No) w4;replace HF := HF.and (Per.fnA hF (fun _ h => h.elim))
  refine zj (ze (zf (zx (srx (mvx rfl (za rfl (vd (j := k) Tryd.underlying22 sz37 (congrArg (fun z ↦ some (Value.slice z fs.length ca)) hA) rfl rfl hlt (za rfl (zxz (cs := (fnC p f).toArray) Tryd.underlying37 rfl sz37 rfl rfl (fun j v hj ↦ hc j v (by simpa using hj)) (za rfl (jb zr37 ?_)))))))))));intro gb5 w6 Bb5 Eb5 Gb5
  have Gb5 : _ ≤ gb5 := Nat.le_trans E.size Gb5;have GLb5 := Nat.le_trans LW.size Gb5;replace E := E.trans Eb5.no;replace HF := HF.cons (yb Gb5);replace E := E.cons (some gb5);replace XLW := Mut.grow XLW (fun k e => Or.inr (Nat.le_trans LW.size ((yb Gb5) k e)));replace XM3 := Mut.grow XM3 (fun k e => Or.inr (Nat.le_trans M3.size ((yb Gb5) k e)))
  refine avx rfl (qf (od sz37 rfl rfl Bb5 rfl rfl rfl ?_));intro w7 Bx Eb5;replace Bb5 : Blk w7 gb5 37 #[.string f.name, .int .i64 f.params, .int .i64 f.regs, .int .i64 f.frees, .bool f.gen, .int .i64 f.bound, .slice p.an f.names.length p.cn, .slice p.ac f.consts.length p.cc, .slice p.ai f.ins.length p.ci, .slice p.ar f.rgs.length p.cr] := Bx;replace E := E.step1 Eb5 Mut.head
  refine rnx (zf (srx (za rfl (vt Tryd.underlying37 rfl sz37 rfl Bb5 rfl (mvx rfl (za rfl (zz en12 rfl ((head_any _ p f n k (HF.on E).here.2 hcs (HF.on E).here.1.1.1.2 ⟨te, pe, (HF.on E).here.1.1.2⟩).mono ?_))))))));rintro e w8 ⟨rfl, hb⟩;refine ⟨_, rfl, ?_⟩;have Ec := Ext.of_below hb No;replace Bb5 := Bb5.extN Ec NotIn.nil;replace E := E.trans Ec.no
  refine za rfl (vw rfl (rnx ?_));by_cases h1 : kq f k = true
  ·
   refine zu 31 (.bool false) rfl ((by rw [h1]; rfl : (.bool (!(kq f k)) : Value) = _)) (zy rfl (zj (ze (zf (srx (za rfl (zb Tryd.underlying37 rfl sz34 (by decide) rfl (za rfl (zl Tryd.underlying34 rfl rfl Bb5 rfl (za rfl (vi Tryd.underlying34 rfl (mvx rfl (rnx (zx ?_))))))))))))));replace HF := HF.on E;replace LW := LW.step E XLW
   replace M3 := M3.step E XM3;replace E := erx (Mut [(some gb5)]) w8
   refine qk (ι := Nat) (fun j => [(1, .pointer (some ⟨gb1, 0, none⟩)), (5, .int .i64 ((k : Nat) : Int)), (6, .pointer (some ⟨gb5, 0, none⟩)), (21, .slice A fs.length ca), (22, .int .i64 ((fs.length : Nat) : Int)), (23, .int .i64 ((k : Nat) : Int)), (35, .int .i64 ((f.ins.length : Nat) : Int)), (36, .int .i64 ((j : Nat) : Int))]) (fun j w' => Ext (Mut [(some gb5)]) w8 w' ∧ Blk w' gb5 37 (#[.string f.name, .int .i64 f.params, .int .i64 f.regs, .int .i64 f.frees, .bool f.gen, .int .i64 f.bound, .slice p.an f.names.length p.cn, .slice p.ac f.consts.length p.cc, .slice p.ai f.ins.length p.ci, .slice p.ar f.rgs.length p.cr]) ∧ (j ≤ f.ins.length ∧ xw fs f 0 f.ins = xw fs f j (f.ins.drop j))) (fun j => f.ins.length - j) 0 ⟨rfl, rfl, rfl, rfl, rfl, rfl, rfl, rfl, trivial⟩ ⟨Ext.refl _ _, (by exact Bb5), ⟨Nat.zero_le _, rfl⟩⟩ ?_
   have LTb5 := (yj Bb5.lt);rintro j w10 ⟨M9, Bb5, ⟨hj, hba⟩⟩;have XM9 : Gro (Mut [(some gb5)]) (Mut [(some gb5)]) w8 := (Mut.grow Mut.none_ (fun k e => Or.inl (Mut.head k e)));replace E := E.trans M9;replace HF := HF.on E;replace LW := LW.step E XLW;replace M3 := M3.step E XM3;replace E := erx (Mut [(some gb5)]) w10;clear LTb5
   refine srx (za rfl (yt rfl rfl (rnx (zf (zt rfl (fun q2 => ?_) (fun q2 => ?_))))))
   ·
    have q2 := of_decide_eq_true q2;obtain ⟨i, hi⟩ : ∃ i, f.ins[j]? = some i := ⟨_, List.getElem?_eq_getElem (by omega)⟩
    refine zj (ze (zf (zx (srx (mvx rfl (anx rfl (srx (za rfl (vt Tryd.underlying24 rfl sz24 rfl (HF.on E).here.1.2 rfl (za rfl (vt Tryd.underlying37 rfl sz37 rfl Bb5 rfl (mvx rfl (za rfl (zz en13 rfl ((insR_any _ A n ca fs (HF.on E).here.1.1.1.1.2 p f (HF.on E).here.2 j i hi).mono ?_)))))))))))))));rintro e w11 ⟨rfl, hb⟩;refine ⟨_, rfl, ?_⟩
    have Ec := Ext.of_below hb No;replace Bb5 := Bb5.extN Ec NotIn.nil;replace E := E.trans Ec.no;refine za rfl (vw rfl (rnx ?_));by_cases h2 : xt fs f j i = true
    ·
     refine zu 43 (.bool false) rfl ((by rw [h2]; rfl : (.bool (!(xt fs f j i)) : Value) = _)) (zy rfl (zj (zm (ze (zi (za rfl (yg rfl rfl (zo (by omega)) (mvx rfl (yf ?_)))))))))
     exact ym (j + 1) (by show f.ins.length - (j + 1) < f.ins.length - j; omega) ⟨rfl, rfl, rfl, rfl, rfl, rfl, rfl, rfl, trivial⟩ ⟨M9.step E XM9, (by exact Bb5), ⟨by omega, by rw [hba, bad_step hi h2]⟩⟩
    ·
     have h2 := Bool.eq_false_iff.2 h2
     refine zu 43 (.bool true) rfl ((by rw [h2]; rfl : (.bool (!(xt fs f j i)) : Value) = _)) (yi rfl (srx (mvx rfl (mvx rfl (avx rfl (avx rfl (anx rfl (zr (zn (zd (zd (zn (zd (zn (zd (zd (zn (zd (zp (rs := [.tmp 2, .tmp 3, .tmp 4]) (vs := [_, _, _]) rfl ⟨rfl, rfl, rfl, trivial⟩ ?_)))))))))))))))))))
     exact ⟨by rw [hgo, go_ins hf h1 (hba.trans (bad_here hi h2))]; rfl, (LW.step E XLW).toBelow⟩
   ·
    have q2 := of_decide_eq_false q2;have hbn := hba.trans (bad_end (by omega));refine yn (zg (zg (zv (ze (srx (za rfl (zb Tryd.underlying37 rfl sz35 (by decide) rfl (za rfl (zl Tryd.underlying35 rfl rfl Bb5 rfl (za rfl (vi Tryd.underlying35 rfl (mvx rfl (rnx (zx ?_))))))))))))));replace HF := HF.on E
    replace LW := LW.step E XLW;replace M3 := M3.step E XM3;replace E := erx (Mut [(some gb5)]) w10
    refine qk (ι := Nat) (fun j => [(1, .pointer (some ⟨gb1, 0, none⟩)), (5, .int .i64 ((k : Nat) : Int)), (6, .pointer (some ⟨gb5, 0, none⟩)), (21, .slice A fs.length ca), (22, .int .i64 ((fs.length : Nat) : Int)), (23, .int .i64 ((k : Nat) : Int)), (48, .slice p.ar f.rgs.length p.cr), (49, .int .i64 ((f.rgs.length : Nat) : Int)), (50, .int .i64 ((j : Nat) : Int))]) (fun j w' => Ext (Mut [(some gb5)]) w10 w' ∧ Blk w' gb5 37 (#[.string f.name, .int .i64 f.params, .int .i64 f.regs, .int .i64 f.frees, .bool f.gen, .int .i64 f.bound, .slice p.an f.names.length p.cn, .slice p.ac f.consts.length p.cc, .slice p.ai f.ins.length p.ci, .slice p.ar f.rgs.length p.cr]) ∧ (j ≤ f.rgs.length ∧ (f.rgs.take j).all (rgC f) = true)) (fun j => f.rgs.length - j) 0 ⟨rfl, rfl, rfl, rfl, rfl, rfl, rfl, rfl, rfl, trivial⟩ ⟨Ext.refl _ _, (by exact Bb5), ⟨Nat.zero_le _, by rw [List.take_zero]; rfl⟩⟩ ?_
    have LTb5 := (yj Bb5.lt);rintro j w13 ⟨M12, Bb5, ⟨hj, hall⟩⟩;have XM12 : Gro (Mut [(some gb5)]) (Mut [(some gb5)]) w10 := (Mut.grow Mut.none_ (fun k e => Or.inl (Mut.head k e)));replace E := E.trans M12;replace HF := HF.on E;replace LW := LW.step E XLW;replace M3 := M3.step E XM3;replace E := erx (Mut [(some gb5)]) w13;clear LTb5
    refine srx (za rfl (yt rfl rfl (rnx (zf (zt rfl (fun q3 => ?_) (fun q3 => ?_))))))
    ·
     have q3 := of_decide_eq_true q3;obtain ⟨r, hr⟩ : ∃ r, f.rgs[j]? = some r := ⟨_, List.getElem?_eq_getElem (by omega)⟩;obtain ⟨gr, ro, hAr, hgr, hcr⟩ := ((HF.on E).here.2).rgs.row.at hr
     refine zj (ze (zf (zx (srx (za rfl (vd (j := j) Tryd.underlying35 sz50 (congrArg (fun z ↦ some (Value.slice z f.rgs.length p.cr)) hAr) rfl rfl (by omega) (za rfl (zxz (cs := (regV r).toArray) Tryd.underlying50 rfl sz50 rfl rfl (fun j v hj ↦ hcr j v (by simpa using hj)) (za rfl (jb zr50 ?_))))))))));intro gb14 w15 Bb14 Eb14 Gb14
     have Db14_b5 : Apart (some gb14) (some gb5) := Apart.of_lt (yj Bb5.lt) Gb14;have Db5_b14 := Db14_b5.symm;have Gb14 : _ ≤ gb14 := Nat.le_trans E.size Gb14;have GLb14 := Nat.le_trans LW.size Gb14;replace Bb5 := Bb5.extN Eb14 NotIn.nil;replace E := E.trans Eb14.no;replace E := E.cons (some gb14);replace XLW := Mut.grow XLW (fun k e => Or.inr (Nat.le_trans LW.size ((yb Gb14) k e)))
     replace XM12 := Mut.grow XM12 (fun k e => Or.inr (Nat.le_trans M12.size ((yb Gb14) k e)));refine qf (od sz50 rfl rfl Bb14 rfl rfl rfl ?_);intro w16 Bx Eb14;replace Bb14 : Blk w16 gb14 50 #[.int .i64 r.fr, .int .i64 r.to, .int .i64 r.tg, .int .i64 r.d] := Bx;replace Bb5 := Bb5.extN Eb14 (NotIn.cons Db5_b14 NotIn.nil);replace E := E.step1 Eb14 Mut.head
     refine rnx (srx (za rfl (zb Tryd.underlying50 rfl sz3 (by decide) rfl (za rfl (zl Tryd.underlying3 rfl rfl Bb14 rfl (za rfl (yt rfl rfl (mvx rfl (yo 57 rfl (fun t1 => ?_) (fun t1 => ?_))))))))))
     ·
      replace t1 := of_decide_eq_true t1
      refine za rfl (zc rfl (za rfl (zc rfl (za rfl (zc rfl (za rfl (zc rfl (za rfl (zc rfl (za rfl (zw rfl rfl (mvx rfl (za rfl (zc rfl (za rfl (zc rfl (za rfl (zc rfl (za rfl (zc rfl (za rfl (zc rfl (za rfl (zc rfl (za rfl (zw rfl rfl (mvx rfl (za rfl (zc rfl (za rfl (zc rfl (za rfl (zc rfl (za rfl (zc rfl (za rfl (zc rfl (za rfl (zc rfl (za rfl (zc rfl (za rfl (zw rfl rfl (mvx rfl (za rfl (zc rfl (za rfl (zc rfl (za rfl (zc rfl (za rfl (zc rfl (za rfl (zc rfl (za rfl (zc rfl (za rfl (zw rfl rfl (rnx (yi rfl (srx (mvx rfl (avx rfl (avx rfl (avx rfl ?_)))))))))))))))))))))))))))))))))))))))))))))))))))))))))))))))))
      refine rnx (zr (zn (zd (zd (zn (zn (zd (zd (zn (zd (zp (rs := [.tmp 2, .tmp 3, .tmp 4]) (vs := [_, _, _]) rfl ⟨rfl, rfl, rfl, trivial⟩ ?_)))))))))))
      exact ⟨by first | (rw [hgo, kl hf h1 hbn (jn hr (rgC_no (by unfold rgN; omega)))]; rfl) | (rw [hgo, kl hf h1 hbn (jn hr (rgC_tg (by simpa [yq] using t4)))]; rfl) | (rw [hgo, kl hf h1 hbn (jn hr (rgC_d (by simpa [yq] using t5)))]; rfl), (LW.step E XLW).toBelow⟩
     ·
      replace t1 := of_decide_eq_false t1
      refine onx rfl (zb Tryd.underlying50 rfl sz3 (by decide) rfl (onx rfl (zl Tryd.underlying3 rfl rfl Bb14 rfl (onx rfl (zb Tryd.underlying50 rfl sz3 (by decide) rfl (onx rfl (zl Tryd.underlying3 rfl rfl Bb14 rfl (onx rfl (qq rfl rfl (za rfl (ya rfl rfl (mvx rfl (yo 64 rfl (fun t2 => ?_) (fun t2 => ?_))))))))))))))
      ·
       replace t2 := of_decide_eq_true t2
       refine za rfl (zc rfl (za rfl (zc rfl (za rfl (zc rfl (za rfl (zc rfl (za rfl (zc rfl (za rfl (zc rfl (za rfl (zw rfl rfl (mvx rfl (za rfl (zc rfl (za rfl (zc rfl (za rfl (zc rfl (za rfl (zc rfl (za rfl (zc rfl (za rfl (zc rfl (za rfl (zc rfl (za rfl (zw rfl rfl (mvx rfl (za rfl (zc rfl (za rfl (zc rfl (za rfl (zc rfl (za rfl (zc rfl (za rfl (zc rfl (za rfl (zc rfl (za rfl (zw rfl rfl (rnx (yi rfl (srx (mvx rfl (avx rfl (avx rfl (anx rfl (zr (zn (zd (zd (zn ?_)))))))))))))))))))))))))))))))))))))))))))))))))))))))))
       refine zn (zd (zd (zn (zd (zp (rs := [.tmp 2, .tmp 3, .tmp 4]) (vs := [_, _, _]) rfl ⟨rfl, rfl, rfl, trivial⟩ ?_)))))
       exact ⟨by first | (rw [hgo, kl hf h1 hbn (jn hr (rgC_no (by unfold rgN; omega)))]; rfl) | (rw [hgo, kl hf h1 hbn (jn hr (rgC_tg (by simpa [yq] using t4)))]; rfl) | (rw [hgo, kl hf h1 hbn (jn hr (rgC_d (by simpa [yq] using t5)))]; rfl), (LW.step E XLW).toBelow⟩
      ·
       replace t2 := of_decide_eq_false t2
       refine onx rfl (zb Tryd.underlying50 rfl sz3 (by decide) rfl (onx rfl (zl Tryd.underlying3 rfl rfl Bb14 rfl (onx rfl (zb Tryd.underlying37 rfl sz34 (by decide) rfl (onx rfl (zl Tryd.underlying34 rfl rfl Bb5 rfl (onx rfl (vi Tryd.underlying34 rfl (onx rfl (qq rfl rfl (za rfl (ya rfl rfl (mvx rfl (yo 72 rfl (fun t3 => ?_) (fun t3 => ?_))))))))))))))))
       ·
        replace t3 := of_decide_eq_true t3
        refine za rfl (zc rfl (za rfl (zc rfl (za rfl (zc rfl (za rfl (zc rfl (za rfl (zc rfl (za rfl (zc rfl (za rfl (zc rfl (za rfl (zw rfl rfl (mvx rfl (za rfl (zc rfl (za rfl (zc rfl (za rfl (zc rfl (za rfl (zc rfl (za rfl (zc rfl (za rfl (zc rfl (za rfl (zw rfl rfl (rnx (yi rfl (srx (mvx rfl (avx rfl (avx rfl (anx rfl (zr (zn (zd (zd (zn (zn (zd (zd (zn (zd (zp (rs := [.tmp 2, .tmp 3, .tmp 4]) (vs := [_, _, _]) rfl ⟨rfl, rfl, rfl, trivial⟩ ?_))))))))))))))))))))))))))))))))))))))))))))))))
        exact ⟨by first | (rw [hgo, kl hf h1 hbn (jn hr (rgC_no (by unfold rgN; omega)))]; rfl) | (rw [hgo, kl hf h1 hbn (jn hr (rgC_tg (by simpa [yq] using t4)))]; rfl) | (rw [hgo, kl hf h1 hbn (jn hr (rgC_d (by simpa [yq] using t5)))]; rfl), (LW.step E XLW).toBelow⟩
       ·
        replace t3 := of_decide_eq_false t3
        refine onx rfl (zb Tryd.underlying50 rfl sz3 (by decide) rfl (onx rfl (zl Tryd.underlying3 rfl rfl Bb14 rfl (onx rfl (zb Tryd.underlying37 rfl sz34 (by decide) rfl (onx rfl (zl Tryd.underlying34 rfl rfl Bb5 rfl (onx rfl (vi Tryd.underlying34 rfl (onx rfl (zz en14 rfl ((zcv _ true r.tg (((f.ins.length : Nat)) : Int)).mono ?_))))))))))))
        rintro e w17 ⟨rfl, hb⟩;refine ⟨_, rfl, ?_⟩;have Ec := Ext.of_below hb No;replace Bb14 := Bb14.extN Ec NotIn.nil;replace Bb5 := Bb5.extN Ec NotIn.nil;replace E := E.trans Ec.no;refine onx rfl (vw rfl (za rfl (ya rfl rfl (mvx rfl (yo 81 rfl (fun t4 => ?_) (fun t4 => ?_))))))
        ·
         refine za rfl (zc rfl (za rfl (zc rfl (za rfl (zc rfl (za rfl (zc rfl (za rfl (zc rfl (za rfl (zc rfl (za rfl (zw rfl rfl (rnx (yi rfl (srx (mvx rfl (avx rfl (avx rfl (anx rfl (zr (zn (zd (zd (zn (zn (zd (zd (zn (zd (zp (rs := [.tmp 2, .tmp 3, .tmp 4]) (vs := [_, _, _]) rfl ⟨rfl, rfl, rfl, trivial⟩ ?_)))))))))))))))))))))))))))))))
         exact ⟨by first | (rw [hgo, kl hf h1 hbn (jn hr (rgC_no (by unfold rgN; omega)))]; rfl) | (rw [hgo, kl hf h1 hbn (jn hr (rgC_tg (by simpa [yq] using t4)))]; rfl) | (rw [hgo, kl hf h1 hbn (jn hr (rgC_d (by simpa [yq] using t5)))]; rfl), (LW.step E XLW).toBelow⟩
        ·
         refine onx rfl (zb Tryd.underlying50 rfl sz3 (by decide) rfl (onx rfl (zl Tryd.underlying3 rfl rfl Bb14 rfl (onx rfl (zb Tryd.underlying37 rfl sz3 (by decide) rfl (onx rfl (zl Tryd.underlying3 rfl rfl Bb5 rfl (onx rfl (zz en14 rfl ((zcv _ true r.d f.regs).mono ?_))))))))));rintro e w18 ⟨rfl, hb⟩;refine ⟨_, rfl, ?_⟩
         have Ec := Ext.of_below hb No;replace Bb14 := Bb14.extN Ec NotIn.nil;replace Bb5 := Bb5.extN Ec NotIn.nil;replace E := E.trans Ec.no;refine onx rfl (vw rfl (za rfl (ya rfl rfl (rnx (zt rfl (fun t5 => ?_) (fun t5 => ?_))))))
         ·
          refine zu 88 (.bool true) rfl (congrArg Value.bool t5) (srx (mvx rfl (avx rfl (avx rfl (anx rfl (zr (zn (zd (zd (zn (zn (zd (zd (zn (zd (zp (rs := [.tmp 2, .tmp 3, .tmp 4]) (vs := [_, _, _]) rfl ⟨rfl, rfl, rfl, trivial⟩ ?_))))))))))))))))
          exact ⟨by first | (rw [hgo, kl hf h1 hbn (jn hr (rgC_no (by unfold rgN; omega)))]; rfl) | (rw [hgo, kl hf h1 hbn (jn hr (rgC_tg (by simpa [yq] using t4)))]; rfl) | (rw [hgo, kl hf h1 hbn (jn hr (rgC_d (by simpa [yq] using t5)))]; rfl), (LW.step E XLW).toBelow⟩
         ·
          refine zu 88 (.bool false) rfl (congrArg Value.bool t5) (zj (zm (ze (zi (za rfl (yg rfl rfl (zo (by omega)) (mvx rfl (yf ?_))))))))
          exact ym (j + 1) (by show f.rgs.length - (j + 1) < f.rgs.length - j; omega) ⟨rfl, rfl, rfl, rfl, rfl, rfl, rfl, rfl, rfl, trivial⟩ ⟨M12.step E XM12, (by exact Bb5), ⟨by omega, zqq hr hall (rgC_ok (by omega) (by omega) (by omega) (by simpa [yq] using t4) (by simpa [yq] using t5))⟩⟩
    ·
     have q3 := of_decide_eq_false q3;refine yn (zg (zg (zv (zm (ze (zi (za rfl (yg rfl rfl (zo (by omega)) (mvx rfl (yf ?_))))))))))
     exact ym (k + 1) (by show fs.length - (k + 1) < fs.length - k; omega) ⟨rfl, rfl, rfl, rfl, trivial⟩ ⟨M3.step E XM3, ⟨by omega, by rw [hgo, go_step hf h1 hbn (zzk hall (by omega))]⟩⟩
  ·
   have h1 := Bool.eq_false_iff.2 h1;refine zu 31 (.bool true) rfl ((by rw [h1]; rfl : (.bool (!(kq f k)) : Value) = _)) (yi rfl (srx (mvx rfl (avx rfl (avx rfl (anx rfl (zr (zd (zn (zd (zd (zn (zd (zp (rs := [.tmp 2, .tmp 3, .tmp 4]) (vs := [_, _, _]) rfl ⟨rfl, rfl, rfl, trivial⟩ ?_))))))))))))))
   exact ⟨by rw [hgo, go_head hf h1]; rfl, (LW.step E XLW).toBelow⟩
 ·
  have q := of_decide_eq_false q;refine yn (zg (zg (zv (ze (srx (avx rfl (avx rfl (anx rfl (zr (zp (rs := [.tmp 2, .tmp 3, .tmp 4]) (vs := [_, _, _]) rfl ⟨rfl, rfl, rfl, trivial⟩ ?_))))))))));exact ⟨by rw [hgo, go_end (by omega)]; rfl, (LW.step E XLW).toBelow⟩
end
end Go.Proofs.YtmjbnhjgebjhlaaDoor
namespace Go.Proofs.YtmjbnhjgebjhlaaDoor
open Go.RowKit
set_option maxRecDepth 100000
local instance decI (x : Int) : Decidable (I64 x) := by unfold I64; infer_instance
def oneI : LIns := ⟨41, 0, 0, 0, 0, 0, []⟩
def oneF : LFn := ⟨⟨#[]⟩, 0, 1, 0, false, 0, [], [], [oneI], []⟩
def oneP (g : Nat) : Pl := ⟨none, 0, none, 0, some ⟨g, 0, none⟩, 1, none, 0⟩
theorem check_one : zlv [oneF] = (0, 0, 0) := by
 have h : kq oneF 0 = true := by rw [zlx]; rfl
 have h2 : xw [oneF] oneF 0 oneF.ins = none := by decide +kernel
 rw [checkC_go (by decide)];exact (go_step (fs := [oneF]) (k := 0) rfl h h2 rfl).trans (go_end (by decide))
theorem check_nil : zlv [] = (-1, -1, 3) := yek (by decide)
theorem one_fs {w : World} {g6 g8 : Nat} (h6 : Blk w g6 40 #[.int .i64 41, .int .i64 0, .int .i64 0, .int .i64 0, .int .i64 0, .int .i64 0, .slice none 0 0]) (h8 : Blk w g8 37 (fnC (oneP g6) oneF).toArray) : FsA w.heap.size w (some ⟨g8, 0, none⟩) [oneF] := by
 have hI : InsA w.heap.size w (some ⟨g6, 0, none⟩) [oneI] := by
  refine ⟨by decide, fun _ => ⟨g6, 0, rfl, h6.lt, fun j x hx => ?_⟩⟩;match j, hx with
  | 0, hx =>
   obtain rfl := Option.some.inj hx;refine ⟨⟨by decide, by decide, by decide, by decide, by decide, by decide⟩, none, 0, by decide, ⟨by decide, fun x h => (by cases h), fun h => absurd rfl h⟩, fun i v hv => ?_⟩;show w.cell? ⟨g6, 0 + 0 * 7 + i, none⟩ = _
   rw [show 0 + 0 * 7 + i = i by omega, h6.cell, List.getElem?_toArray];exact hv
  | j + 1, hx => cases hx
 have hF : FnA w.heap.size w (oneP g6) oneF := ⟨by decide, by decide, by decide, by decide, by decide, ⟨by decide, fun x h => (by cases h), fun h => absurd rfl h⟩, ⟨by decide, fun x h => (by cases h), fun h => absurd rfl h⟩, hI, ⟨by decide, fun x h => (by cases h), fun h => absurd rfl h⟩, Nat.le_refl _⟩;refine ⟨by decide, fun _ => ⟨g8, 0, rfl, h8.lt, fun j x hx => ?_⟩, fun f hf c hc => ?_⟩
 · match j, hx with
   | 0, hx =>
    obtain rfl := Option.some.inj hx;refine ⟨oneP g6, hF, fun i v hv => ?_⟩;show w.cell? ⟨g8, 0 + 0 * 10 + i, none⟩ = _
    rw [show 0 + 0 * 10 + i = i by omega, h8.cell, List.getElem?_toArray];exact hv
   | j + 1, hx => cases hx
 · obtain rfl := List.mem_singleton.1 hf;cases hc
theorem no_fs (w : World) : FsA w.heap.size w none [] := ⟨by decide, fun h => absurd rfl h, fun f hf => (by cases hf)⟩
theorem ints_blk {w : World} {g n : Nat} {xs : List Int} (hb : Blk w g 3 (qx xs).toArray) (hg : g < n) (hl : 8 * xs.length ≤ 140737488355000) (hi : ∀ x ∈ xs, I64 x) : IntsA n w (some ⟨g, 0, none⟩) xs :=
 ⟨hl, hi, fun _ => ⟨g, 0, rfl, hg, fun j x hx => by
  show w.cell? ⟨g, 0 + j * 1, none⟩ = _
  rw [hb.cell, List.getElem?_toArray, Nat.zero_add, Nat.mul_one];unfold qx;rw [List.getElem?_map, hx]; rfl⟩⟩
theorem i64_three : ∀ x ∈ [(2 : Int), 3, 2], I64 x := by decide
theorem i64_two : ∀ x ∈ [(3 : Int), 2], I64 x := by decide
def readI : LIns := ⟨21, 1, 2, 0, 0, 0, [3, 2]⟩
theorem yjq : qy readI = [2, 3, 2] := by decide +kernel
attribute [local irreducible] OW RS
theorem fill1x10 (a0 a1 a2 a3 a4 a5 a6 a7 a8 a9 : Value) : Instr.fill (fun i => some (i * 10, 10)) ((Array.range (1 * 10)).map ((if 1 * 10 = 0 then #[] else (Value.agg #[.string ⟨#[]⟩, .int .i64 0, .int .i64 0, .int .i64 0, .bool false, .int .i64 0, .slice none 0 0, .slice none 0 0, .slice none 0 0, .slice none 0 0]).cells)[· % (if 1 * 10 = 0 then #[] else (Value.agg #[.string ⟨#[]⟩, .int .i64 0, .int .i64 0, .int .i64 0, .bool false, .int .i64 0, .slice none 0 0, .slice none 0 0, .slice none 0 0, .slice none 0 0]).cells).size]!)) [(0, .agg #[a0, a1, a2, a3, a4, a5, a6, a7, a8, a9])] = some #[a0, a1, a2, a3, a4, a5, a6, a7, a8, a9] := by
 rw [qt];kernel_rfl
set_option maxHeartbeats 2000000 in
theorem known_any (w : World) {bp op cp bf of cf bl ol cl : Nat} (hT : Tabs bp op cp bf of cf bl ol cl w) (hE : ∃ te pe, w.cell? ⟨2, 0, none⟩ = some (.iface te pe)) : Calls Tryd.prog 5 #[] w fun e w' => e = .returned (.bool true) ∧ Below w.heap.size w w' := by
 obtain ⟨te, pe, hE⟩ := hE;refine yl Tryd.func5 rfl Tryd.ntmps5 rfl ?_;have HF : Per (No) w (fun _ => True) := Per.true_;have LW := erx (No) w;have XLW := grx (No) w;have E := erx (No) w;replace HF := HF.on E;replace LW := LW.step E XLW;replace E := erx (No) w;replace HF := HF.and (Per.tabs hT (fun _ h => h.elim));replace HF := HF.on E;replace LW := LW.step E XLW;replace E := erx (No) w
 replace HF := HF.and (Per.cellA hE (fun _ h => h.elim));refine srx (anx rfl (srx (za rfl (qa (cs := #[.int .i64 3, .int .i64 2]) Tryd.underlying38 sz3 zr3 (by decide) rfl (by rw [qt]; rfl) ?_))));intro gb1 w2 Bb1 Eb1 Gb1;have Gb1 : _ ≤ gb1 := Nat.le_trans E.size Gb1;have GLb1 := Nat.le_trans LW.size Gb1;replace E := E.trans Eb1.no;replace HF := HF.cons (yb Gb1)
 replace E := E.cons (some gb1);replace XLW := Mut.grow XLW (fun k e => Or.inr (Nat.le_trans LW.size ((yb Gb1) k e)));replace HF := HF.on E;replace LW := LW.step E XLW;have SB : ∀ q9, No q9 → Mut [(some gb1)] q9 := (Mut.skip Mut.nil_);replace HF := HF.less SB;replace XLW := fun k h => XLW k (SB k h);clear SB;replace E := erx (No) w2;replace HF := HF.and (Per.blkN Bb1 NotIn.nil)
 refine za rfl (jm (cs := #[.int .i64 21, .int .i64 1, .int .i64 2, .int .i64 0, .int .i64 0, .int .i64 0, .slice (some ⟨gb1, 0, none⟩) 2 2]) pl40 zr40 rfl rfl (za rfl (jb zr40 ?_)));intro gb3 w4 Bb3 Eb3 Gb3;have Gb3 : _ ≤ gb3 := Nat.le_trans E.size Gb3;have GLb3 := Nat.le_trans LW.size Gb3;replace E := E.trans Eb3.no;replace HF := HF.cons (yb Gb3)
 replace E := E.cons (some gb3);replace XLW := Mut.grow XLW (fun k e => Or.inr (Nat.le_trans LW.size ((yb Gb3) k e)));refine qf (od zqv rfl rfl Bb3 rfl rfl rfl ?_);intro w5 Bx Eb3;replace Bb3 : Blk w5 gb3 40 #[.int .i64 21, .int .i64 1, .int .i64 2, .int .i64 0, .int .i64 0, .int .i64 0, .slice (some ⟨gb1, 0, none⟩) 2 2] := Bx;replace E := E.step1 Eb3 Mut.head
 replace HF := HF.on E;replace LW := LW.step E XLW;have SB : ∀ q9, No q9 → Mut [(some gb3)] q9 := (Mut.skip Mut.nil_);replace HF := HF.less SB;replace XLW := fun k h => XLW k (SB k h);clear SB;replace E := erx (No) w5;replace HF := HF.and (Per.blkN Bb3 NotIn.nil)
 refine rnx (srx (za rfl (jm (cs := #[.int .i64 41, .int .i64 0, .int .i64 0, .int .i64 0, .int .i64 0, .int .i64 0, .slice none 0 0]) pl40 zr40 rfl rfl (za rfl (qa (cs := #[.int .i64 41, .int .i64 0, .int .i64 0, .int .i64 0, .int .i64 0, .int .i64 0, .slice none 0 0]) Tryd.underlying34 zqv zr40 (by decide) rfl (by rw [qt]; rfl) ?_)))));intro gb6 w7 Bb6 Eb6 Gb6
 have Gb6 : _ ≤ gb6 := Nat.le_trans E.size Gb6;have GLb6 := Nat.le_trans LW.size Gb6;replace E := E.trans Eb6.no;replace HF := HF.cons (yb Gb6);replace E := E.cons (some gb6);replace XLW := Mut.grow XLW (fun k e => Or.inr (Nat.le_trans LW.size ((yb Gb6) k e)));replace HF := HF.on E;replace LW := LW.step E XLW;have SB : ∀ q9, No q9 → Mut [(some gb6)] q9 := (Mut.skip Mut.nil_)
 replace HF := HF.less SB;replace XLW := fun k h => XLW k (SB k h);clear SB;replace E := erx (No) w7;replace HF := HF.and (Per.blkN Bb6 NotIn.nil)
 refine za rfl (jm (cs := #[.string ⟨#[]⟩, .int .i64 0, .int .i64 1, .int .i64 0, .bool false, .int .i64 0, .slice none 0 0, .slice none 0 0, .slice (some ⟨gb6, 0, none⟩) 1 1, .slice none 0 0]) pl37 zr37 rfl rfl (za rfl (qa (cs := #[.string ⟨#[]⟩, .int .i64 0, .int .i64 1, .int .i64 0, .bool false, .int .i64 0, .slice none 0 0, .slice none 0 0, .slice (some ⟨gb6, 0, none⟩) 1 1, .slice none 0 0]) Tryd.underlying22 sz37 zr37 (by decide) rfl (fill1x10 (.string ⟨#[]⟩) (.int .i64 0) (.int .i64 1) (.int .i64 0) (.bool false) (.int .i64 0) (.slice none 0 0) (.slice none 0 0) (.slice (some ⟨gb6, 0, none⟩) 1 1) (.slice none 0 0)) ?_)))
 intro gb8 w9 Bb8 Eb8 Gb8;have Gb8 : _ ≤ gb8 := Nat.le_trans E.size Gb8;have GLb8 := Nat.le_trans LW.size Gb8;replace E := E.trans Eb8.no;replace HF := HF.cons (yb Gb8);replace E := E.cons (some gb8);replace XLW := Mut.grow XLW (fun k e => Or.inr (Nat.le_trans LW.size ((yb Gb8) k e)));replace HF := HF.on E;replace LW := LW.step E XLW
 have SB : ∀ q9, No q9 → Mut [(some gb8)] q9 := (Mut.skip Mut.nil_);replace HF := HF.less SB;replace XLW := fun k h => XLW k (SB k h);clear SB;replace E := erx (No) w9;replace HF := HF.and (Per.blkN Bb8 NotIn.nil);refine za rfl (jm (cs := #[.slice (some ⟨gb8, 0, none⟩) 1 1]) pl24 zr24 rfl rfl (za rfl (jb zr24 ?_)));intro gb10 w11 Bb10 Eb10 Gb10
 have Gb10 : _ ≤ gb10 := Nat.le_trans E.size Gb10;have GLb10 := Nat.le_trans LW.size Gb10;replace E := E.trans Eb10.no;replace HF := HF.cons (yb Gb10);replace E := E.cons (some gb10);replace XLW := Mut.grow XLW (fun k e => Or.inr (Nat.le_trans LW.size ((yb Gb10) k e)));refine qf (qz sz24 rfl rfl Bb10 rfl rfl (Nat.le_of_ble_eq_true rfl) ?_);intro w12 Bx Eb10;replace Bb10 := Bx
 replace E := E.step1 Eb10 Mut.head;replace HF := HF.on E;replace LW := LW.step E XLW;have SB : ∀ q9, No q9 → Mut [(some gb10)] q9 := (Mut.skip Mut.nil_);replace HF := HF.less SB;replace XLW := fun k h => XLW k (SB k h);clear SB;replace E := erx (No) w12;replace HF := HF.and (Per.blkN Bb10 NotIn.nil)
 refine rnx (srx (za rfl (vt Tryd.underlying24 rfl sz24 rfl (HF.on E).here.2 rfl (za rfl (zz en6 rfl ((check_any _ (some ⟨gb8, 0, none⟩) _ 1 [oneF] (one_fs (HF.on E).here.1.1.2 (HF.on E).here.1.2) (HF.on E).here.1.1.1.1.1.1.2 ⟨te, pe, (HF.on E).here.1.1.1.1.1.2⟩).mono ?_))))));rintro e w13 ⟨rfl, hb⟩;refine ⟨_, rfl, ?_⟩;replace E := blx E hb
 refine yd 18 (.tuple #[.int .i64 0, .int .i64 0, .int .i64 0]) rfl ((by rw [check_one]; rfl : (res3 (zlv [oneF]) : Value) = _)) (mvx rfl (za rfl (yc rfl rfl (za rfl (yc rfl rfl (za rfl (yc rfl rfl (avx rfl (avx rfl (anx rfl (srx (za rfl (jm (cs := #[.slice none 0 0]) pl24 zr24 rfl rfl (za rfl (zz en6 rfl ((check_any _ none _ 0 [] (no_fs _) (HF.on E).here.1.1.1.1.1.1.2 ⟨te, pe, (HF.on E).here.1.1.1.1.1.2⟩).mono ?_))))))))))))))))
 rintro e w14 ⟨rfl, hb⟩;refine ⟨_, rfl, ?_⟩;replace E := blx E hb
 refine yd 24 (.tuple #[.int .i64 (-1), .int .i64 (-1), .int .i64 3]) rfl ((by rw [check_nil]; rfl : (res3 (zlv []) : Value) = _)) (mvx rfl (za rfl (yc rfl rfl (za rfl (yc rfl rfl (za rfl (yc rfl rfl (avx rfl (avx rfl (anx rfl (srx (za rfl (vt Tryd.underlying40 rfl zqv rfl (HF.on E).here.1.1.1.2 rfl (za rfl (zz en8 rfl ((yck _ readI (some ⟨gb1, 0, none⟩) 2 _ (ints_blk (xs := [3, 2]) (HF.on E).here.1.1.1.1.2 ((HF.on E).here.1.1.1.1.2).lt (by decide) i64_two) (Nat.le_refl _)).mono ?_))))))))))))))))
 rintro e w15 ⟨A1, c1, rfl, o1, hb⟩;refine ⟨_, rfl, ?_⟩;replace E := blx E hb;have hi1 := OwnsI.ints o1 (by rw [yjq]; decide) (by rw [yjq]; exact i64_three);rw [yjq] at hi1;refine yd 29 (.slice A1 [(2 : Int), 3, 2].length c1) rfl ((by rw [yjq] : (.slice A1 (qy readI).length c1 : Value) = _)) ?_;replace HF := HF.on E;replace LW := LW.step E XLW;replace E := erx (No) w15
 replace HF := HF.and (Per.ints hi1 (fun _ h => h.elim));refine za rfl (qa (cs := #[.int .i64 2, .int .i64 3, .int .i64 2]) Tryd.underlying38 sz3 zr3 (by decide) rfl (by rw [qt]; rfl) ?_);intro gb16 w17 Bb16 Eb16 Gb16;have Gb16 : _ ≤ gb16 := Nat.le_trans E.size Gb16;have GLb16 := Nat.le_trans LW.size Gb16;replace E := E.trans Eb16.no;replace HF := HF.cons (yb Gb16)
 replace E := E.cons (some gb16);replace XLW := Mut.grow XLW (fun k e => Or.inr (Nat.le_trans LW.size ((yb Gb16) k e)));replace HF := HF.on E;replace LW := LW.step E XLW;have SB : ∀ q9, No q9 → Mut [(some gb16)] q9 := (Mut.skip Mut.nil_);replace HF := HF.less SB;replace XLW := fun k h => XLW k (SB k h);clear SB;replace E := erx (No) w17;replace HF := HF.and (Per.blkN Bb16 NotIn.nil)
 refine za rfl (zz en11 rfl ((ybk _ A1 (some ⟨gb16, 0, none⟩) c1 3 _ _ [2, 3, 2] (HF.on E).here.1.2 (ints_blk (xs := [2, 3, 2]) (HF.on E).here.2 ((HF.on E).here.2).lt (by decide) i64_three)).mono ?_));rintro e w18 ⟨rfl, hb⟩;refine ⟨_, rfl, ?_⟩;replace E := blx E hb
 refine mvx rfl (onx rfl (zq rfl (onx rfl (ye rfl rfl (za rfl (zw rfl rfl (mvx rfl (onx rfl (zq rfl (onx rfl (ye rfl rfl (za rfl (zw rfl rfl (mvx rfl (onx rfl (zq rfl (onx rfl (ye rfl rfl (za rfl (zw rfl rfl (mvx rfl (onx rfl (zq rfl (onx rfl (ye rfl rfl (za rfl (zw rfl rfl (anx rfl (zr (zp (rs := [.tmp 0]) (vs := [_]) rfl ⟨rfl, trivial⟩ ?_))))))))))))))))))))))))))))))
 exact ⟨rfl, (LW.step E XLW).toBelow⟩
end Go.Proofs.YtmjbnhjgebjhlaaDoor
namespace Go.Proofs.YtmjbnhjgebjhlaaDoor
open Go.RowKit
set_option maxRecDepth 100000
theorem ykz {a b : Bool} (hi : a = false) (h : b = true → a = true) : b = false := Bool.eq_false_iff.2 fun e => by rw [h e] at hi; cases hi
abbrev OwnR (w : World) (m : Nat) (v : Value) (n : Nat) (xs : List Int) : Prop := w.ownsRow m 3 1 v n (qx xs)
def ApartV (a b : Value) : Prop := ∀ q, a.ownBlock = some q → b.ownBlock ≠ some q
theorem ApartV.symm {a b : Value} (h : ApartV a b) : ApartV b a := fun q hb ha => h q ha hb
theorem OwnR.cap {w : World} {m n c : Nat} {A : Option Addr} {xs : List Int} (h : OwnR w m (.slice A n c) n xs) (h0 : 0 < n) : ∃ g, A = some ⟨g, 0, none⟩ ∧ n ≤ c ∧ m ≤ g ∧ g < w.heap.size := by
 rcases h.2 with ⟨_, hv⟩ | ⟨g', cap, cur, hv, hb, hh, hn, hm, hsz, ht⟩
 · omega
 · injection hv with h1 h2 h3
   exact ⟨g', h1, by omega, hb, hh |> fun h => (Array.getElem?_eq_some_iff.1 h).1⟩
theorem OwnR.new {w w' : World} {m n k : Nat} {v u : Value} {xs ys : List Int} (h : OwnR w m v n xs) (h' : OwnR w' w.heap.size u k ys) : ApartV v u := fun q hq hu => by
 have h1 := vk h q hq;have h2 := gu h' q hu;omega
section
variable (m n : Nat) (L : List Int) (w0 : World)
def Acc5 : List Bool → List Value → World → Prop
 | [R4, R7, R8, R9], [v4, v7, v8, v9], w => Ext No w0 w ∧ (R4 = true → R7 = false → OwnR w m v4 0 []) ∧ (R7 = true → R9 = false → OwnR w m v7 n L) ∧
  (R8 = true → R9 = false → ∃ b, v8 = .slice (some ⟨b, 0, none⟩) 2 2 ∧ Blk w b 3 #[.int .i64 (-3), .int .i64 (-3)] ∧ (R4 = true → R7 = false → v4.ownBlock ≠ some b) ∧ (R7 = true → R9 = false → v7.ownBlock ≠ some b)) ∧
  (R9 = true → OwnR w m v9 (n + 2) (L ++ [-3, -3]))
 | _, _, _ => False
variable {m n L w0}
theorem zqk (R : List Bool) (vs : List Value) (w : World) (h : Acc5 m n L w0 R vs w) : Ext No w0 w := by
 unfold Acc5 at h;split at h
 · exact h.1
 · exact h.elim
variable {w w' : World} {R4 R7 R8 R9 : Bool} {v4 v7 v8 v9 : Value}
theorem acc5_4 (h : Acc5 m n L w0 [false, R7, R8, R9] [v4, v7, v8, v9] w) (n7 : R7 = false) (n9 : R9 = false) {g c : Nat} (hO : OwnR w' m (.slice (some ⟨g, 0, none⟩) 0 c) 0 []) (E : Ext No w w') (hg : w.heap.size ≤ g) : Acc5 m n L w0 [true, R7, R8, R9] [.slice (some ⟨g, 0, none⟩) 0 c, v7, v8, v9] w' := by
 subst n7 n9;obtain ⟨h1, _, _, h8, _⟩ := h;refine ⟨h1.trans E, fun _ _ => hO, fun h => (by cases h), fun hR _ => ?_, fun h => (by cases h)⟩;obtain ⟨b, e, hb, _, _⟩ := h8 hR rfl;refine ⟨b, e, hb.ext E (fun h => h.elim), fun _ _ hq => ?_, fun h => (by cases h)⟩;have hq : some g = some b := hq;injection hq with hq
 have := hb.lt;omega
theorem acc5_7 (hw : w0.heap.size = m) (h : Acc5 m n L w0 [R4, false, R8, R9] [v4, v7, v8, v9] w) (y4 : R4 = true) (n9 : R9 = false) {v : Value} (hO : OwnR w' m v n L) (E : Ext (Mut [v4.ownBlock]) w w') (hN : ∀ k, v.ownBlock = some k → v4.ownBlock = some k ∨ w.heap.size ≤ k) : Acc5 m n L w0 [R4, true, R8, R9] [v4, v, v8, v9] w' := by
 subst y4 n9;obtain ⟨h1, h4, _, h8, _⟩ := h;have h4 := h4 rfl rfl;refine ⟨h1.step E fun q hq => Or.inr (by rw [hw]; exact gu h4 q (ob hq)), fun _ h => (by cases h), fun _ _ => hO, fun hR _ => ?_, fun h => (by cases h)⟩;obtain ⟨b, e, hb, ha, _⟩ := h8 hR rfl;refine ⟨b, e, hb.ext E (fun hq => ha rfl rfl (ob hq)), fun _ h => (by cases h), fun _ _ hq => ?_⟩;rcases hN b hq with h | h
 · exact ha rfl rfl h
 · have := hb.lt;omega
theorem acc5_8 (h : Acc5 m n L w0 [R4, R7, false, R9] [v4, v7, v8, v9] w) (n9 : R9 = false) {b : Nat} (hb : Blk w' b 3 #[.int .i64 (-3), .int .i64 (-3)]) (E : Ext No w w') (hg : w.heap.size ≤ b) : Acc5 m n L w0 [R4, R7, true, R9] [v4, v7, .slice (some ⟨b, 0, none⟩) 2 2, v9] w' := by
 subst n9;obtain ⟨h1, h4, h7, _, _⟩ := h;refine ⟨h1.trans E, fun a c => yx (h4 a c) E (fun _ _ h => h.elim), fun a c => yx (h7 a c) E (fun _ _ h => h.elim), fun _ _ => ⟨b, rfl, hb, fun a c hq => ?_, fun a c hq => ?_⟩, fun h => (by cases h)⟩
 · have := vk (h4 a c) b hq; omega
 · have := vk (h7 a c) b hq; omega
theorem acc5_9 (hw : w0.heap.size = m) (h : Acc5 m n L w0 [R4, R7, R8, false] [v4, v7, v8, v9] w) (y7 : R7 = true) {v : Value} (hO : OwnR w' m v (n + 2) (L ++ [-3, -3])) (E : Ext (Mut [v7.ownBlock]) w w') : Acc5 m n L w0 [R4, R7, R8, true] [v4, v7, v8, v] w' := by
 subst y7;obtain ⟨h1, _, h7, _, _⟩ := h;exact ⟨h1.step E fun q hq => Or.inr (by rw [hw]; exact gu (h7 rfl rfl) q (ob hq)), fun _ h => (by cases h), fun _ h => (by cases h), fun _ h => (by cases h), fun _ => hO⟩
end
section
variable (m : Nat) (l1 l3 l6 : List Int) (w0 : World)
def zik : List Bool → List Value → World → Prop
 | [R1, R3, R6], [v1, v3, v6], w => Ext No w0 w ∧ (R1 = true → OwnR w m v1 l1.length l1) ∧ (R3 = true → OwnR w m v3 l3.length l3) ∧ (R6 = true → OwnR w m v6 l6.length l6) ∧
  (R1 = true → R3 = true → ApartV v1 v3) ∧ (R1 = true → R6 = true → ApartV v1 v6) ∧ (R3 = true → R6 = true → ApartV v3 v6)
 | _, _, _ => False
variable {m l1 l3 l6 w0}
theorem acc6_base (R : List Bool) (vs : List Value) (w : World) (h : zik m l1 l3 l6 w0 R vs w) : Ext No w0 w := by
 unfold zik at h;split at h
 · exact h.1
 · exact h.elim
variable {w w' : World} {R1 R3 R6 : Bool} {v v1 v3 v6 : Value} (hw : w0.heap.size = m) (E : Ext No w w')
include hw E
theorem acc6_1 (h : zik m l1 l3 l6 w0 [false, R3, R6] [v1, v3, v6] w) (hO : OwnR w' w.heap.size v l1.length l1) : zik m l1 l3 l6 w0 [true, R3, R6] [v, v3, v6] w' := by
 obtain ⟨h1, _, h3, h6, _, _, ap⟩ := h;have hm : m ≤ w.heap.size := by have := h1.size; omega
 exact ⟨h1.trans E, fun _ => xi hO hm, fun a => yx (h3 a) E (fun _ _ h => h.elim), fun a => yx (h6 a) E (fun _ _ h => h.elim), fun _ a => ((h3 a).new hO).symm, fun _ a => ((h6 a).new hO).symm, ap⟩
theorem acc6_3 (h : zik m l1 l3 l6 w0 [R1, false, R6] [v1, v3, v6] w) (hO : OwnR w' w.heap.size v l3.length l3) : zik m l1 l3 l6 w0 [R1, true, R6] [v1, v, v6] w' := by
 obtain ⟨h1, h2, _, h6, _, ap, _⟩ := h;have hm : m ≤ w.heap.size := by have := h1.size; omega
 exact ⟨h1.trans E, fun a => yx (h2 a) E (fun _ _ h => h.elim), fun _ => xi hO hm, fun a => yx (h6 a) E (fun _ _ h => h.elim), fun a _ => (h2 a).new hO, ap, fun _ a => ((h6 a).new hO).symm⟩
theorem acc6_6 (h : zik m l1 l3 l6 w0 [R1, R3, false] [v1, v3, v6] w) (hO : OwnR w' w.heap.size v l6.length l6) : zik m l1 l3 l6 w0 [R1, R3, true] [v1, v3, v] w' := by
 obtain ⟨h1, h2, h3, _, ap, _, _⟩ := h;have hm : m ≤ w.heap.size := by have := h1.size; omega
 exact ⟨h1.trans E, fun a => yx (h2 a) E (fun _ _ h => h.elim), fun a => yx (h3 a) E (fun _ _ h => h.elim), fun _ => xi hO hm, ap, fun a _ => (h2 a).new hO, fun a _ => (h3 a).new hO⟩
end
structure Six (w : World) (m k : Nat) (sl : Nat → Value) (ms : Nat → List Int) : Prop where
 row : ∀ j, k ≤ j → j < 6 → OwnR w m (sl j) (ms j).length (ms j)
 ap : ∀ i j, k ≤ i → k ≤ j → i < 6 → j < 6 → i ≠ j → ApartV (sl i) (sl j)
theorem Six.no {w w' : World} {m k : Nat} {sl : Nat → Value} {ms : Nat → List Int} (h : Six w m k sl ms) (E : Ext No w w') : Six w' m k sl ms := ⟨fun j h1 h2 => yx (h.row j h1 h2) E (fun _ _ h => h.elim), h.ap⟩
theorem Six.next {w w' : World} {m k : Nat} {sl : Nat → Value} {ms : Nat → List Int} (h : Six w m k sl ms) (hk : k < 6) (E : Ext (Mut [(sl k).ownBlock]) w w') : Six w' m (k + 1) sl ms :=
 ⟨fun j h1 h2 => yx (h.row j (by omega) h2) E fun q hq hm => h.ap k j (Nat.le_refl _) (by omega) hk h2 (by omega) q (ob hm) hq, fun i j h1 h2 => h.ap i j (by omega) (by omega)⟩
def updF {α : Type} (f : Nat → α) (k : Nat) (x : α) : Nat → α := fun j => if j = k then x else f j
theorem zmq {α : Type} (f : Nat → α) (k : Nat) (x : α) : updF f k x k = x := if_pos rfl
theorem zsx {α : Type} (f : Nat → α) {j k : Nat} (x : α) (h : j ≠ k) : updF f k x j = f j := if_neg h
theorem updF_twice {α : Type} (f : Nat → α) (k : Nat) (x y : α) : updF (updF f k x) k y = updF f k y := funext fun j => by unfold updF; split <;> rfl
theorem Six.put {w w' : World} {m k : Nat} {sl : Nat → Value} {ms : Nat → List Int} (h : Six w m 0 sl ms) (hk : k < 6) {xs : List Int} (hO : OwnR w' m (sl k) xs.length xs) (E : Ext (Mut [(sl k).ownBlock]) w w') : Six w' m 0 sl (updF ms k xs) :=
 ⟨fun j h1 h2 => by
  by_cases hj : j = k
  · subst hj; rw [zmq]; exact hO
  · rw [zsx _ _ hj];exact yx (h.row j h1 h2) E fun q hq hm => h.ap k j (by omega) (by omega) hk h2 (fun e => hj e.symm) q (ob hm) hq, h.ap⟩
theorem set_rep {a : Int} {xs : List Int} {i : Nat} (h : i < xs.length) : (qx (List.replicate i a ++ xs.drop i)).set i (.int .i64 a) = qx (List.replicate (i + 1) a ++ xs.drop (i + 1)) := by
 unfold qx;rw [← List.map_set, List.set_append_right _ _ (by simp), List.length_replicate, Nat.sub_self, List.drop_eq_getElem_cons h, List.set_cons_zero, List.replicate_succ', List.append_assoc];rfl
def six {α : Type} (a b c d e f : α) : Nat → α
 | 0 => a
 | 1 => b
 | 2 => c
 | 3 => d
 | 4 => e
 | _ => f
theorem six_all {α : Type} {P : α → Prop} {a b c d e f : α} (ha : P a) (hb : P b) (hc : P c) (hd : P d) (he : P e) (hf : P f) : ∀ k, P (six a b c d e f k)
 | 0 => ha
 | 1 => hb
 | 2 => hc
 | 3 => hd
 | 4 => he
 | _ + 5 => hf
theorem six_cell {a b c d e f : Value} : ∀ k, k < 6 → #[a, b, c, d, e, f][k]? = some (six a b c d e f k)
 | 0, _ => rfl
 | 1, _ => rfl
 | 2, _ => rfl
 | 3, _ => rfl
 | 4, _ => rfl
 | 5, _ => rfl
theorem six_twice {α : Type} (a b c : α) : ∀ k, k < 3 → six a b c a b c (k + 3) = six a b c a b c k
 | 0, _ => rfl
 | 1, _ => rfl
 | 2, _ => rfl
def msK (ms : Nat → List Int) (k : Nat) : Nat → List Int := fun j => if j < k then List.replicate (ms j).length (-10 - (j : Int)) else ms j
theorem msK_start (ms : Nat → List Int) (k : Nat) (a : Int) : updF (msK ms k) k (List.replicate 0 a ++ (ms k).drop 0) = msK ms k := funext fun j => by
 by_cases h : j = k
 · subst h; rw [zmq]; unfold msK; rw [if_neg (by omega)]; simp
 · rw [zsx _ _ h]
theorem msK_end (ms : Nat → List Int) (k : Nat) : updF (msK ms k) k (List.replicate (ms k).length (-10 - (k : Int)) ++ (ms k).drop (ms k).length) = msK ms (k + 1) := funext fun j => by
 by_cases h : j = k
 · subst h; rw [zmq]; unfold msK; rw [if_pos (by omega), List.drop_length, List.append_nil]
 · rw [zsx _ _ h]; unfold msK;by_cases h2 : j < k
   · rw [if_pos h2, if_pos (by omega)]
   · rw [if_neg h2, if_neg (by omega)]
theorem msK_at (ms : Nat → List Int) {k j : Nat} (h : j < k) : msK ms k j = List.replicate (ms j).length (-10 - (j : Int)) := if_pos h
theorem msK_zero (ms : Nat → List Int) : msK ms 0 = ms := funext fun j => if_neg (by omega)
theorem Six.of {w : World} {m : Nat} {a b c d e f : Value} {l1 l2 l3 l4 l5 l6 : List Int} (h1 : OwnR w m a l1.length l1) (h2 : OwnR w m b l2.length l2) (h3 : OwnR w m c l3.length l3) (h4 : OwnR w m d l4.length l4) (h5 : OwnR w m e l5.length l5) (h6 : OwnR w m f l6.length l6)
 (p12 : ApartV a b) (p13 : ApartV a c) (p23 : ApartV b c) (p45 : ApartV d e) (p46 : ApartV d f) (p56 : ApartV e f) (hx : ∀ q, (a.ownBlock = some q ∨ b.ownBlock = some q ∨ c.ownBlock = some q) → ¬ (d.ownBlock = some q ∨ e.ownBlock = some q ∨ f.ownBlock = some q)) : Six w m 0 (six a b c d e f) (six l1 l2 l3 l4 l5 l6) := by
 refine ⟨fun j _ hj => ?_, fun i j _ _ hi hj hij => ?_⟩
 · match j, hj with
   | 0, _ => exact h1
   | 1, _ => exact h2
   | 2, _ => exact h3
   | 3, _ => exact h4
   | 4, _ => exact h5
   | 5, _ => exact h6
 · have p14 : ApartV a d := fun q h k => hx q (Or.inl h) (Or.inl k);have p15 : ApartV a e := fun q h k => hx q (Or.inl h) (Or.inr (Or.inl k));have p16 : ApartV a f := fun q h k => hx q (Or.inl h) (Or.inr (Or.inr k));have p24 : ApartV b d := fun q h k => hx q (Or.inr (Or.inl h)) (Or.inl k);have p25 : ApartV b e := fun q h k => hx q (Or.inr (Or.inl h)) (Or.inr (Or.inl k))
   have p26 : ApartV b f := fun q h k => hx q (Or.inr (Or.inl h)) (Or.inr (Or.inr k));have p34 : ApartV c d := fun q h k => hx q (Or.inr (Or.inr h)) (Or.inl k);have p35 : ApartV c e := fun q h k => hx q (Or.inr (Or.inr h)) (Or.inr (Or.inl k));have p36 : ApartV c f := fun q h k => hx q (Or.inr (Or.inr h)) (Or.inr (Or.inr k));match i, hi, j, hj, hij with
   | 0, _, 0, _, h | 1, _, 1, _, h | 2, _, 2, _, h | 3, _, 3, _, h | 4, _, 4, _, h | 5, _, 5, _, h => exact absurd rfl h
   | 0, _, 1, _, _ => exact p12
   | 0, _, 2, _, _ => exact p13
   | 0, _, 3, _, _ => exact p14
   | 0, _, 4, _, _ => exact p15
   | 0, _, 5, _, _ => exact p16
   | 1, _, 2, _, _ => exact p23
   | 1, _, 3, _, _ => exact p24
   | 1, _, 4, _, _ => exact p25
   | 1, _, 5, _, _ => exact p26
   | 2, _, 3, _, _ => exact p34
   | 2, _, 4, _, _ => exact p35
   | 2, _, 5, _, _ => exact p36
   | 3, _, 4, _, _ => exact p45
   | 3, _, 5, _, _ => exact p46
   | 4, _, 5, _, _ => exact p56
   | 1, _, 0, _, _ => exact p12.symm
   | 2, _, 0, _, _ => exact p13.symm
   | 3, _, 0, _, _ => exact p14.symm
   | 4, _, 0, _, _ => exact p15.symm
   | 5, _, 0, _, _ => exact p16.symm
   | 2, _, 1, _, _ => exact p23.symm
   | 3, _, 1, _, _ => exact p24.symm
   | 4, _, 1, _, _ => exact p25.symm
   | 5, _, 1, _, _ => exact p26.symm
   | 3, _, 2, _, _ => exact p34.symm
   | 4, _, 2, _, _ => exact p35.symm
   | 5, _, 2, _, _ => exact p36.symm
   | 4, _, 3, _, _ => exact p45.symm
   | 5, _, 3, _, _ => exact p46.symm
   | 5, _, 4, _, _ => exact p56.symm
theorem OwnR.pre {w : World} {m g c k : Nat} {xs ys : List Int} (h : OwnR w m (.slice (some ⟨g, 0, none⟩) k c) k (xs ++ ys)) (h0 : 0 < k) (hl : 8 * xs.length ≤ 140737488355000) (hi : ∀ x ∈ xs, I64 x) : IntsA w.heap.size w (some ⟨g, 0, none⟩) xs := by
 obtain ⟨g', e, _, hg, hc⟩ := xh h h0;injection e with e
 injection e with e
 subst e;refine ⟨hl, hi, fun _ => ⟨g, 0, rfl, hg, fun j x hj => ?_⟩⟩;have := hc j (.int .i64 x) (by unfold qx; rw [List.map_append, List.getElem?_append_left (by rw [List.length_map]; exact (List.getElem?_eq_some_iff.1 hj).1), List.getElem?_map, hj]; rfl);rwa [Nat.zero_add, Nat.mul_one]
end Go.Proofs.YtmjbnhjgebjhlaaDoor
namespace Go.Proofs.YtmjbnhjgebjhlaaDoor
open Go.RowKit
set_option maxRecDepth 100000
attribute [local irreducible] OW RS
set_option maxHeartbeats 4000000 in
theorem keeps8_law (w : World) {bp op cp bf of cf bl ol cl : Nat} (A : Option Addr) (n c : Nat) (x : LIns) (hx : IntsA n w A x.l) (hI : InsI x) (hln : 8 * x.l.length ≤ 140737488351232) (hn : n ≤ w.heap.size) (p : Int) (hp : I64 p) (hT : Tabs bp op cp bf of cf bl ol cl w) (hE : ∃ te pe, w.cell? ⟨2, 0, none⟩ = some (.iface te pe)) : Calls Tryd.prog 4 #[.agg #[.int .i64 x.op, .int .i64 x.d, .int .i64 x.a, .int .i64 x.b, .int .i64 x.t, .int .i64 x.k, .slice A x.l.length c], .int .i64 p] w fun e w' => e = .returned (.bool true) ∧ Below w.heap.size w w' := by
 obtain ⟨te, pe, hE⟩ := hE;obtain ⟨lo, hlo⟩ : ∃ lo, lo = w.heap.size := ⟨_, rfl⟩;have hTz : ∀ z, Ext (fun q => lo ≤ q) w z → Tabs bp op cp bf of cf bl ol cl z := fun z hz => Per.tabs hT (X := fun q => lo ≤ q) (fun k hk => by rw [← hlo]; exact hk) z hz
 have hEz : ∀ z, Ext (fun q => lo ≤ q) w z → z.cell? ⟨2, 0, none⟩ = some (.iface te pe) := fun z hz => Per.cellA hE (X := fun q => lo ≤ q) (fun k hk => by rw [← hlo]; exact hk) z hz;have hxz : ∀ z, Ext (fun q => lo ≤ q) w z → IntsA n z A x.l := fun z hz => hx.low (X := fun q => lo ≤ q) ⟨hz, fun q hq => by have hq : lo ≤ q := hq; omega⟩
 refine yl Tryd.func4 rfl Tryd.ntmps4 rfl (srx (za rfl (jy rfl ?_)));rintro g2 wA B2 E1 G2;have hE1 := E1.noL lo;refine anx rfl (zf (srx (za rfl (zz en5 rfl ((known_any _ (hTz _ hE1) ⟨te, pe, hEz _ hE1⟩).mono ?_)))));rintro e w1 ⟨rfl, hb⟩;refine ⟨_, rfl, ?_⟩;have E2 := Ext.of_below hb No;have hE2 := hE1.step E2 (fun _ h => h.elim);have B2b := B2.ext E2 (fun h => h.elim)
 refine za rfl (vw rfl (rnx (zy rfl (zj (ze (srx (za rfl (ow_build0 Tryd.underlying38 sz3 zr3 ?_))))))));rintro g3 wB B3 hb Gq;have E3 := Ext.of_below hb No;have B2c := B2b.ext E3 (fun h => h.elim);have hE3 := hE2.step E3 (fun _ h => h.elim);have hs3 := hE3.size;have hs2 := hE2.size
 refine za rfl (zb Tryd.underlying40 rfl xy (by decide) rfl (za rfl (zl Tryd.underlying38 rfl rfl B2c rfl (za rfl (ow_appendEO Tryd.underlying38 inf3 rfl (by decide) rfl rfl B3 (show lo ≤ g3 by omega) (by omega) ((hxz _ hE3).reads (show n ≤ w.heap.size by omega)) oo (by unfold maxLen; omega) (by omega) ?_)))));rintro A3 c3 wC hb O3 Nq;have E4 := Ext.of_below hb No
 have B2d := B2c.ext E4 (fun h => h.elim);have hE4 := hE3.step E4 (fun _ h => h.elim);refine anx rfl (srx (za rfl (vt Tryd.underlying40 rfl zqv rfl B2d rfl (za rfl (jb zr40 ?_)))));rintro g6 wD B6 E5 G6;refine qf (od zqv rfl rfl B6 rfl rfl rfl ?_);rintro wE B6b E6;have hs4 := hE4.size;have hE5 := hE4.step E5 (fun _ h => h.elim)
 have hE6 := hE5.step E6 (fun q hq => Or.inl (show lo ≤ q by have := mut1 hq; omega));have B2e := (B2d.ext E5 (fun h => h.elim)).ext E6 (fun hm => by have := mut1 hm; have := B2d.lt; omega);have O3e := yx (yx O3 E5 (fun _ _ h => h.elim)) E6 (fun q hq hm => by have := mut1 hm; have := vk O3 q hq; omega);have hs6 := hE6.size;refine rnx (zf (cw_any mixed (ak_cut 15 rfl ?_)))
 refine aw_acc [4, 7, 8, 9] [[], [0], [0, 1], [0, 1, 2], [0, 1, 2, 3], [], [5], [0, 1, 2, 3, 4, 5, 6], [], [0, 1, 2, 3, 4, 5, 6, 7, 8], [], [10], [10, 11], [0, 1, 2, 3, 4, 5, 6, 7, 8, 9, 10, 11, 12], [0, 1, 2, 3, 4, 5, 6, 7, 8, 9, 10, 11, 12, 13]] (Acc5 wE.heap.size x.l.length x.l wE) [fun _ v => v = (.pointer (some ⟨g2, 6, none⟩)),
  fun _ v => v = (.slice A x.l.length c),
  fun _ v => v = (.int .i64 (((x.l.length : Nat)) : Int)),
  fun _ v => v = (.int .i64 ((((x.l.length : Nat)) : Int) + 2)),
  fun vs v => ∃ g, v = .slice (some ⟨g, 0, none⟩) 0 (x.l.length + 2),
  fun _ v => v = (.pointer (some ⟨g2, 6, none⟩)),
  fun _ v => v = (.slice A x.l.length c),
  fun vs v => ∃ A c, v = .slice A x.l.length c,
  fun vs v => ∃ b, v = .slice (some ⟨b, 0, none⟩) 2 2,
  fun vs v => ∃ g c, v = .slice (some ⟨g, 0, none⟩) (x.l.length + 2) c ∧ x.l.length + 2 ≤ c,
  fun _ v => v = (.pointer (some ⟨g2, 6, none⟩)),
  fun _ v => v = (.slice A x.l.length c),
  fun _ v => v = (.int .i64 (((x.l.length : Nat)) : Int)),
  fun vs v => ∃ g c, vs 9 = .slice (some ⟨g, 0, none⟩) (x.l.length + 2) c ∧ x.l.length + 2 ≤ c ∧ v = .slice (some ⟨g, 0, none⟩) x.l.length c,
  fun _ v => v = (.pointer (some ⟨g6, 6, none⟩))] (fun z => Ext No wE z) rfl ⟨fun _ _ _ _ h => h, fun _ _ _ _ h => h, fun _ _ _ _ h => h, fun _ _ _ _ h => h, fun _ _ _ _ h => h, fun _ _ _ _ h => h, fun _ _ _ _ h => h, fun _ _ _ _ h => h, fun _ _ _ _ h => h, fun _ _ _ _ h => h, fun _ _ _ _ h => h, fun _ _ _ _ h => h, fun _ _ _ _ h => h, fun vs us v h hv => by simp only [h 9 rfl] at hv; exact hv, fun _ _ _ _ h => h, trivial⟩ (zqk) (fun _ => ⟨(Ext.refl No _).drew, fun h => (by cases h), fun h => (by cases h), fun h => (by cases h), fun h => (by cases h)⟩) ?_ ?_
 · refine ⟨?_, ?_, ?_, ?_, ?_, ?_, ?_, ?_, ?_, ?_, ?_, ?_, ?_, ?_, ?_, trivial⟩
   · intro vs wq hB hs;exact zb Tryd.underlying40 rfl xy (by decide) rfl ⟨rfl, rfl⟩
   · intro vs wq hB hs;refine zh 28 (.pointer (some ⟨g2, 6, none⟩)) rfl (hs 0 rfl) ?_;exact zl Tryd.underlying38 rfl rfl (B2e.ext hB (fun h ↦ h.elim)) rfl ⟨rfl, rfl⟩
   · intro vs wq hB hs;refine zh 29 (.slice A x.l.length c) rfl (hs 1 rfl) ?_;exact vi Tryd.underlying38 rfl ⟨rfl, rfl⟩
   · intro vs wq hB hs;refine zh 30 (.int .i64 (((x.l.length : Nat)) : Int)) rfl (hs 2 rfl) ?_;exact yg rfl rfl (zo (by omega)) ⟨rfl, rfl⟩
   · intro R vs wq hG hi hd hdn hs;refine zh 31 (.int .i64 ((((x.l.length : Nat)) : Int) + 2)) rfl (hs 3 rfl) ?_;have n7 : R 7 = false := ykz hi (fun h => hdn 7 h 4 rfl);have n9 : R 9 = false := ykz hi (fun h => hdn 9 h 4 rfl);have hG : Acc5 wE.heap.size x.l.length x.l wE [R 4, R 7, R 8, R 9] [vs 4, vs 7, vs 8, vs 9] wq := hG;rw [hi] at hG
     refine ow_make0 (n := x.l.length + 2) (base := wE.heap.size) Tryd.underlying38 inf3 rfl rfl rfl (by omega) (by omega) (by omega) (zqk _ _ _ hG).size (by unfold maxLen; omega) ?_;intro g w2 hO hE hg;exact ⟨acc5_4 hG n7 n9 hO hE hg, g, rfl⟩
   · intro vs wq hB hs;exact zb Tryd.underlying40 rfl xy (by decide) rfl ⟨rfl, rfl⟩
   · intro vs wq hB hs;refine zh 33 (.pointer (some ⟨g2, 6, none⟩)) rfl (hs 5 rfl) ?_;exact zl Tryd.underlying38 rfl rfl (B2e.ext hB (fun h ↦ h.elim)) rfl ⟨rfl, rfl⟩
   · intro R vs wq hG hi hd hdn hs;refine zh 34 (.slice A x.l.length c) rfl (hs 6 rfl) ?_;have hG : Acc5 wE.heap.size x.l.length x.l wE [R 4, R 7, R 8, R 9] [vs 4, vs 7, vs 8, vs 9] wq := hG;have n9 : R 9 = false := ykz hi (fun h => hdn 9 h 7 rfl);rw [hi] at hG;obtain ⟨g, e4⟩ : ∃ g, vs 4 = .slice (some ⟨g, 0, none⟩) 0 (x.l.length + 2) := hs 4 rfl;have y4 : R 4 = true := hd 4 rfl
     have h4 := hG.2.1 y4 rfl;refine zh 32 (vs 4) rfl rfl (zfv (n' := x.l.length) (xs' := qx x.l) Tryd.underlying38 inf3 rfl (by decide) rfl h4 rfl ((hxz _ (hE6.step hG.1 (fun _ h => h.elim))).reads (Nat.le_refl _)) oo (Nat.zero_add _) rfl (by unfold maxLen; omega) (by omega) (zqk _ _ _ hG).size ?_);intro A' c' w2 hO hE hN
     exact ⟨acc5_7 rfl hG y4 n9 hO hE hN, A', c', rfl⟩
   · intro R vs wq hG hi hd hdn hs;have hG : Acc5 wE.heap.size x.l.length x.l wE [R 4, R 7, R 8, R 9] [vs 4, vs 7, vs 8, vs 9] wq := hG;have n9 : R 9 = false := ykz hi (fun h => hdn 9 h 8 rfl);rw [hi] at hG;refine qa (cs := #[.int .i64 (-3), .int .i64 (-3)]) Tryd.underlying38 sz3 zr3 (by decide) rfl (by rw [qt]; rfl) ?_;intro b w2 hb hE hg
     exact ⟨acc5_8 hG n9 hb hE hg, b, rfl⟩
   · intro R vs wq hG hi hd hdn hs;have hG : Acc5 wE.heap.size x.l.length x.l wE [R 4, R 7, R 8, R 9] [vs 4, vs 7, vs 8, vs 9] wq := hG;rw [hi] at hG;obtain ⟨A7, c7, e7⟩ : ∃ A c, vs 7 = .slice A x.l.length c := hs 7 rfl;have y7 : R 7 = true := hd 7 rfl;have y8 : R 8 = true := hd 8 rfl;have h7 := hG.2.2.1 y7 rfl;obtain ⟨b, e8, hb, _, _⟩ := hG.2.2.2.1 y8 rfl
     refine zh 35 (vs 7) rfl rfl (zh 36 _ rfl e8 (zfv (n' := x.l.length + 2) (xs' := qx (x.l ++ [-3, -3])) Tryd.underlying38 inf3 rfl (by decide) rfl h7 rfl (reads_rowN hb hb.lt rfl) (by simp [Value.oneCell']) rfl (by unfold qx; rw [List.map_append]; rfl) (by unfold maxLen; omega) (by omega) (zqk _ _ _ hG).size ?_));intro A' c' w2 hO hE hN
     obtain ⟨g, rfl, hc, _, _⟩ := OwnR.cap hO (by omega);exact ⟨acc5_9 rfl hG y7 hO hE, g, c', rfl, hc⟩
   · intro vs wq hB hs;exact zb Tryd.underlying40 rfl xy (by decide) rfl ⟨rfl, rfl⟩
   · intro vs wq hB hs;refine zh 38 (.pointer (some ⟨g2, 6, none⟩)) rfl (hs 10 rfl) ?_;exact zl Tryd.underlying38 rfl rfl (B2e.ext hB (fun h ↦ h.elim)) rfl ⟨rfl, rfl⟩
   · intro vs wq hB hs;refine zh 39 (.slice A x.l.length c) rfl (hs 11 rfl) ?_;exact vi Tryd.underlying38 rfl ⟨rfl, rfl⟩
   · intro vs wq hB hs;refine zh 40 (.int .i64 (((x.l.length : Nat)) : Int)) rfl (hs 12 rfl) ?_;obtain ⟨g, c9, e9, hc⟩ : ∃ g c, vs 9 = .slice (some ⟨g, 0, none⟩) (x.l.length + 2) c ∧ x.l.length + 2 ≤ c := hs 9 rfl;refine zh 37 _ rfl e9 ?_;exact ow_sliceH (h := x.l.length) Tryd.underlying38 sz3 rfl rfl rfl (by omega) ⟨rfl, g, c9, e9, hc, rfl⟩
   · intro vs wq hB hs;exact zb Tryd.underlying40 rfl xy (by decide) rfl ⟨rfl, rfl⟩
 intro vs w2 hG hV;obtain ⟨g5, c5, e9, hc5, e13⟩ := hV.2.2.2.2.2.2.2.2.2.2.2.2.2.1;refine je (τ := [(1, _), (2, _), (4, _), (5, _), (6, _), (41, .slice (some ⟨g5, 0, none⟩) x.l.length c5), (42, .pointer (some ⟨g6, 6, none⟩))]) ⟨rfl, rfl, rfl, rfl, rfl, congrArg some e13, congrArg some (hV.2.2.2.2.2.2.2.2.2.2.2.2.2.2.1), trivial⟩ ?_;clear hV
 refine ew_ak (ak_of_rs (by kernel_rfl) (fun _ _ d_ _ _ h => by cases d_ <;> exact h) ?_);have O5 := hG.2.2.2.2 rfl;have hF0 : Ext No wE w2 := hG.1;rw [show vs 9 = _ from e9] at O5;obtain ⟨wF, hwF⟩ : ∃ z, z = w2 := ⟨_, rfl⟩;subst hwF
 refine qf (qi (cs' := #[.int .i64 x.op, .int .i64 x.d, .int .i64 x.a, .int .i64 x.b, .int .i64 x.t, .int .i64 x.k, .slice (some ⟨g5, 0, none⟩) x.l.length c5]) xy rfl rfl (B6b.ext hF0 (fun h => h.elim)) rfl rfl (Nat.le_of_ble_eq_true rfl) rfl ?_);rintro wG B6c E7;have hEF : Ext (fun q => lo ≤ q) w wF := hE6.step hF0 (fun _ h => h.elim);have hs6b := B6b.lt;have hsF := hF0.size
 have hE7 := hEF.step E7 (fun q hq => Or.inl (show lo ≤ q by have := mut1 hq; omega));have O5g := oh O5 (B6b.ext hF0 (fun h => h.elim)) (by decide) E7;have B2g := (B2e.ext hF0 (fun h => h.elim)).ext E7 (fun hm => by have := mut1 hm; have := B2d.lt; omega)
 have O3g := yx (yx O3e hF0 (fun _ _ h => h.elim)) E7 (fun q hq hm => by have := mut1 hm; have := vk O3 q hq; omega);have hL5 : IntsA wG.heap.size wG (some ⟨g5, 0, none⟩) x.l := OwnR.pre O5g (by omega) hx.len hx.in_;have hln3 : 8 * (x.l.length + 3) ≤ 140737488355000 := by omega
 have hrw := rw_len (i := x);have hgl := goes_len x p;have hLz : ∀ z, Ext No wG z → IntsA wG.heap.size z (some ⟨g5, 0, none⟩) x.l := fun z hz => hL5.low (X := No) ⟨hz, fun _ h => h.elim⟩;refine rnx (zf (cw_any mixed ?_))
 refine aw_acc [1, 3, 6] [[], [0], [], [0, 1, 2], [], [], [0, 1, 2, 3, 4, 5], [0, 1, 2, 3, 4, 5, 6], [0, 1, 2, 3, 4, 5, 6, 7], [0, 1, 2, 3, 4, 5, 6, 7, 8]] (zik wG.heap.size (qy x) (qh x) (qp x p) wG) [fun _ v => v = (.agg #[.int .i64 x.op, .int .i64 x.d, .int .i64 x.a, .int .i64 x.b, .int .i64 x.t, .int .i64 x.k, .slice (some ⟨g5, 0, none⟩) x.l.length c5]),
  fun vs v => ∃ A c, v = .slice A (qy x).length c,
  fun _ v => v = (.agg #[.int .i64 x.op, .int .i64 x.d, .int .i64 x.a, .int .i64 x.b, .int .i64 x.t, .int .i64 x.k, .slice (some ⟨g5, 0, none⟩) x.l.length c5]),
  fun vs v => ∃ A c, v = .slice A (qh x).length c,
  fun _ v => v = (.agg #[.int .i64 x.op, .int .i64 x.d, .int .i64 x.a, .int .i64 x.b, .int .i64 x.t, .int .i64 x.k, .slice (some ⟨g5, 0, none⟩) x.l.length c5]),
  fun _ v => v = (.int .i64 p),
  fun vs v => ∃ A c, v = .slice A (qp x p).length c,
  fun vs v => v = vs 1 ∧ ∃ A c, v = .slice A (qy x).length c,
  fun vs v => v = vs 3 ∧ ∃ A c, v = .slice A (qh x).length c,
  fun vs v => v = vs 6 ∧ ∃ A c, v = .slice A (qp x p).length c] (fun z => Ext No wG z) rfl ⟨fun _ _ _ _ h => h, fun _ _ _ _ h => h, fun _ _ _ _ h => h, fun _ _ _ _ h => h, fun _ _ _ _ h => h, fun _ _ _ _ h => h, fun _ _ _ _ h => h, fun vs us v h hv => by simp only [h 1 rfl] at hv; exact hv, fun vs us v h hv => by simp only [h 3 rfl] at hv; exact hv, fun vs us v h hv => by simp only [h 6 rfl] at hv; exact hv, trivial⟩ (acc6_base) (fun _ => ⟨(Ext.refl No _).drew, fun h => (by cases h), fun h => (by cases h), fun h => (by cases h), fun h => (by cases h), fun h => (by cases h), fun h => (by cases h)⟩) ?_ ?_
 · refine ⟨?_, ?_, ?_, ?_, ?_, ?_, ?_, ?_, ?_, ?_, trivial⟩
   · intro vs wq hB hs;exact vt Tryd.underlying40 rfl zqv rfl (B6c.ext hB (fun h ↦ h.elim)) rfl ⟨rfl, rfl⟩
   · intro R vs wq hG hi hd hdn hs;refine zh 43 (.agg #[.int .i64 x.op, .int .i64 x.d, .int .i64 x.a, .int .i64 x.b, .int .i64 x.t, .int .i64 x.k, .slice (some ⟨g5, 0, none⟩) x.l.length c5]) rfl (hs 0 rfl) ?_;have hG : zik wG.heap.size (qy x) (qh x) (qp x p) wG [R 1, R 3, R 6] [vs 1, vs 3, vs 6] wq := hG;rw [hi] at hG
     refine zz en8 rfl ((yck wq x (some ⟨g5, 0, none⟩) c5 wG.heap.size (hLz _ hG.1) hG.1.size).mono ?_);rintro e w2 ⟨A, c, rfl, hO, hb⟩;exact ⟨_, rfl, acc6_1 rfl (Ext.of_below hb No) hG hO, A, c, rfl⟩
   · intro vs wq hB hs;exact vt Tryd.underlying40 rfl zqv rfl (B6c.ext hB (fun h ↦ h.elim)) rfl ⟨rfl, rfl⟩
   · intro R vs wq hG hi hd hdn hs;refine zh 45 (.agg #[.int .i64 x.op, .int .i64 x.d, .int .i64 x.a, .int .i64 x.b, .int .i64 x.t, .int .i64 x.k, .slice (some ⟨g5, 0, none⟩) x.l.length c5]) rfl (hs 2 rfl) ?_;have hG : zik wG.heap.size (qy x) (qh x) (qp x p) wG [R 1, R 3, R 6] [vs 1, vs 3, vs 6] wq := hG;rw [hi] at hG
     refine zz en9 rfl ((writes_any wq x (some ⟨g5, 0, none⟩) c5 wG.heap.size (hLz _ hG.1) hG.1.size).mono ?_);rintro e w2 ⟨A, c, rfl, hO, hb⟩;exact ⟨_, rfl, acc6_3 rfl (Ext.of_below hb No) hG hO, A, c, rfl⟩
   · intro vs wq hB hs;exact vt Tryd.underlying40 rfl zqv rfl (B6c.ext hB (fun h ↦ h.elim)) rfl ⟨rfl, rfl⟩
   · intro vs wq hB hs;exact zq rfl ⟨rfl, rfl⟩
   · intro R vs wq hG hi hd hdn hs;refine zh 47 (.agg #[.int .i64 x.op, .int .i64 x.d, .int .i64 x.a, .int .i64 x.b, .int .i64 x.t, .int .i64 x.k, .slice (some ⟨g5, 0, none⟩) x.l.length c5]) rfl (hs 4 rfl) (zh 48 (.int .i64 p) rfl (hs 5 rfl) ?_);have hG : zik wG.heap.size (qy x) (qh x) (qp x p) wG [R 1, R 3, R 6] [vs 1, vs 3, vs 6] wq := hG;rw [hi] at hG
     refine zz en10 rfl ((goes_any wq x (some ⟨g5, 0, none⟩) c5 p hp).mono ?_);rintro e w2 ⟨A, c, rfl, hO, hb⟩;exact ⟨_, rfl, acc6_6 rfl (Ext.of_below hb No) hG hO, A, c, rfl⟩
   · intro vs wq hB hs;exact vq rfl ⟨rfl, rfl, hs 1 rfl⟩
   · intro vs wq hB hs;exact vq rfl ⟨rfl, rfl, hs 3 rfl⟩
   · intro vs wq hB hs;exact vq rfl ⟨rfl, rfl, hs 6 rfl⟩
 intro vs w3 hG hV;obtain ⟨f7, A1a, c1a, e7⟩ := hV.2.2.2.2.2.2.2.1;obtain ⟨f8, A1b, c1b, e8⟩ := hV.2.2.2.2.2.2.2.2.1;obtain ⟨f9, A1c, c1c, e9⟩ := hV.2.2.2.2.2.2.2.2.2.1
 refine je (τ := [(1, _), (2, _), (4, _), (5, _), (6, _), (7, .slice A1a (qy x).length c1a), (8, .slice A1b (qh x).length c1b), (9, .slice A1c (qp x p).length c1c)]) ⟨rfl, rfl, rfl, rfl, rfl, congrArg some e7, congrArg some e8, congrArg some e9, trivial⟩ ?_;clear hV
 obtain ⟨hX1, hr1, hr3, hr6, ha13, ha16, ha36⟩ := (show zik wG.heap.size (qy x) (qh x) (qp x p) wG [true, true, true] [vs 1, vs 3, vs 6] _ from hG);have hr1 := hr1 rfl;have hr3 := hr3 rfl;have hr6 := hr6 rfl;have ha13 := ha13 rfl rfl;have ha16 := ha16 rfl rfl;have ha36 := ha36 rfl rfl;rw [← f7, e7] at hr1 ha13 ha16;rw [← f8, e8] at hr3 ha13 ha36;rw [← f9, e9] at hr6 ha16 ha36
 clear hG f7 e7 f8 e8 f9 e9;obtain ⟨wH, hwH⟩ : ∃ z, z = w3 := ⟨_, rfl⟩;subst hwH;have B6h := B6c.ext hX1 (fun h => h.elim);refine ze (zf (cw_any mixed ?_))
 refine aw_acc [1, 3, 6] [[], [0], [], [0, 1, 2], [], [], [0, 1, 2, 3, 4, 5], [0, 1, 2, 3, 4, 5, 6], [0, 1, 2, 3, 4, 5, 6, 7], [0, 1, 2, 3, 4, 5, 6, 7, 8]] (zik wH.heap.size (qy x) (qh x) (qp x p) wH) [fun _ v => v = (.agg #[.int .i64 x.op, .int .i64 x.d, .int .i64 x.a, .int .i64 x.b, .int .i64 x.t, .int .i64 x.k, .slice (some ⟨g5, 0, none⟩) x.l.length c5]),
  fun vs v => ∃ A c, v = .slice A (qy x).length c,
  fun _ v => v = (.agg #[.int .i64 x.op, .int .i64 x.d, .int .i64 x.a, .int .i64 x.b, .int .i64 x.t, .int .i64 x.k, .slice (some ⟨g5, 0, none⟩) x.l.length c5]),
  fun vs v => ∃ A c, v = .slice A (qh x).length c,
  fun _ v => v = (.agg #[.int .i64 x.op, .int .i64 x.d, .int .i64 x.a, .int .i64 x.b, .int .i64 x.t, .int .i64 x.k, .slice (some ⟨g5, 0, none⟩) x.l.length c5]),
  fun _ v => v = (.int .i64 p),
  fun vs v => ∃ A c, v = .slice A (qp x p).length c,
  fun vs v => v = vs 1 ∧ ∃ A c, v = .slice A (qy x).length c,
  fun vs v => v = vs 3 ∧ ∃ A c, v = .slice A (qh x).length c,
  fun vs v => v = vs 6 ∧ ∃ A c, v = .slice A (qp x p).length c] (fun z => Ext No wH z) rfl ⟨fun _ _ _ _ h => h, fun _ _ _ _ h => h, fun _ _ _ _ h => h, fun _ _ _ _ h => h, fun _ _ _ _ h => h, fun _ _ _ _ h => h, fun _ _ _ _ h => h, fun vs us v h hv => by simp only [h 1 rfl] at hv; exact hv, fun vs us v h hv => by simp only [h 3 rfl] at hv; exact hv, fun vs us v h hv => by simp only [h 6 rfl] at hv; exact hv, trivial⟩ (acc6_base) (fun _ => ⟨(Ext.refl No _).drew, fun h => (by cases h), fun h => (by cases h), fun h => (by cases h), fun h => (by cases h), fun h => (by cases h), fun h => (by cases h)⟩) ?_ ?_
 · refine ⟨?_, ?_, ?_, ?_, ?_, ?_, ?_, ?_, ?_, ?_, trivial⟩
   · intro vs wq hB hs;exact vt Tryd.underlying40 rfl zqv rfl (B6h.ext hB (fun h ↦ h.elim)) rfl ⟨rfl, rfl⟩
   · intro R vs wq hG hi hd hdn hs;refine zh 50 (.agg #[.int .i64 x.op, .int .i64 x.d, .int .i64 x.a, .int .i64 x.b, .int .i64 x.t, .int .i64 x.k, .slice (some ⟨g5, 0, none⟩) x.l.length c5]) rfl (hs 0 rfl) ?_;have hG : zik wH.heap.size (qy x) (qh x) (qp x p) wH [R 1, R 3, R 6] [vs 1, vs 3, vs 6] wq := hG;rw [hi] at hG
     refine zz en8 rfl ((yck wq x (some ⟨g5, 0, none⟩) c5 wG.heap.size (hLz _ (hX1.trans hG.1)) (hX1.trans hG.1).size).mono ?_);rintro e w2 ⟨A, c, rfl, hO, hb⟩;exact ⟨_, rfl, acc6_1 rfl (Ext.of_below hb No) hG hO, A, c, rfl⟩
   · intro vs wq hB hs;exact vt Tryd.underlying40 rfl zqv rfl (B6h.ext hB (fun h ↦ h.elim)) rfl ⟨rfl, rfl⟩
   · intro R vs wq hG hi hd hdn hs;refine zh 52 (.agg #[.int .i64 x.op, .int .i64 x.d, .int .i64 x.a, .int .i64 x.b, .int .i64 x.t, .int .i64 x.k, .slice (some ⟨g5, 0, none⟩) x.l.length c5]) rfl (hs 2 rfl) ?_;have hG : zik wH.heap.size (qy x) (qh x) (qp x p) wH [R 1, R 3, R 6] [vs 1, vs 3, vs 6] wq := hG;rw [hi] at hG
     refine zz en9 rfl ((writes_any wq x (some ⟨g5, 0, none⟩) c5 wG.heap.size (hLz _ (hX1.trans hG.1)) (hX1.trans hG.1).size).mono ?_);rintro e w2 ⟨A, c, rfl, hO, hb⟩;exact ⟨_, rfl, acc6_3 rfl (Ext.of_below hb No) hG hO, A, c, rfl⟩
   · intro vs wq hB hs;exact vt Tryd.underlying40 rfl zqv rfl (B6h.ext hB (fun h ↦ h.elim)) rfl ⟨rfl, rfl⟩
   · intro vs wq hB hs;exact zq rfl ⟨rfl, rfl⟩
   · intro R vs wq hG hi hd hdn hs;refine zh 54 (.agg #[.int .i64 x.op, .int .i64 x.d, .int .i64 x.a, .int .i64 x.b, .int .i64 x.t, .int .i64 x.k, .slice (some ⟨g5, 0, none⟩) x.l.length c5]) rfl (hs 4 rfl) (zh 55 (.int .i64 p) rfl (hs 5 rfl) ?_);have hG : zik wH.heap.size (qy x) (qh x) (qp x p) wH [R 1, R 3, R 6] [vs 1, vs 3, vs 6] wq := hG;rw [hi] at hG
     refine zz en10 rfl ((goes_any wq x (some ⟨g5, 0, none⟩) c5 p hp).mono ?_);rintro e w2 ⟨A, c, rfl, hO, hb⟩;exact ⟨_, rfl, acc6_6 rfl (Ext.of_below hb No) hG hO, A, c, rfl⟩
   · intro vs wq hB hs;exact vq rfl ⟨rfl, rfl, hs 1 rfl⟩
   · intro vs wq hB hs;exact vq rfl ⟨rfl, rfl, hs 3 rfl⟩
   · intro vs wq hB hs;exact vq rfl ⟨rfl, rfl, hs 6 rfl⟩
 intro vs w4 hG hV;obtain ⟨f7, A2a, c2a, e7⟩ := hV.2.2.2.2.2.2.2.1;obtain ⟨f8, A2b, c2b, e8⟩ := hV.2.2.2.2.2.2.2.2.1;obtain ⟨f9, A2c, c2c, e9⟩ := hV.2.2.2.2.2.2.2.2.2.1
 refine je (τ := [(2, _), (4, _), (5, _), (6, _), (7, _), (8, _), (9, _), (10, .slice A2a (qy x).length c2a), (11, .slice A2b (qh x).length c2b), (12, .slice A2c (qp x p).length c2c)]) ⟨rfl, rfl, rfl, rfl, rfl, rfl, rfl, congrArg some e7, congrArg some e8, congrArg some e9, trivial⟩ ?_;clear hV
 obtain ⟨hX2, hq1, hq3, hq6, hb13, hb16, hb36⟩ := (show zik wH.heap.size (qy x) (qh x) (qp x p) wH [true, true, true] [vs 1, vs 3, vs 6] _ from hG);have hq1 := hq1 rfl;have hq3 := hq3 rfl;have hq6 := hq6 rfl;have hb13 := hb13 rfl rfl;have hb16 := hb16 rfl rfl;have hb36 := hb36 rfl rfl;rw [← f7, e7] at hq1 hb13 hb16;rw [← f8, e8] at hq3 hb13 hb36;rw [← f9, e9] at hq6 hb16 hb36
 clear hG f7 e7 f8 e8 f9 e9;obtain ⟨wI, hwI⟩ : ∃ z, z = w4 := ⟨_, rfl⟩;subst hwI;obtain ⟨m2, hm2⟩ : ∃ m, m = wG.heap.size := ⟨_, rfl⟩;rw [← hm2] at hr1 hr3 hr6;have hmH : m2 ≤ wH.heap.size := by rw [hm2]; exact hX1.size
 have hSI := Six.of (yx hr1 hX2 (fun _ _ h => h.elim)) (yx hr3 hX2 (fun _ _ h => h.elim)) (yx hr6 hX2 (fun _ _ h => h.elim)) (xi hq1 hmH) (xi hq3 hmH) (xi hq6 hmH) ha13 ha16 ha36 hb13 hb16 hb36 (fun q h k => by
  have h1 : q < wH.heap.size := by rcases h with h | h | h <;> first | exact vk hr1 q h | exact vk hr3 q h | exact vk hr6 q h
  have h2 : wH.heap.size ≤ q := by rcases k with k | k | k <;> first | exact gu hq1 q k | exact gu hq3 q k | exact gu hq6 q k
  omega)
 refine ze (srx (mvx rfl (mvx rfl (mvx rfl (mvx rfl (mvx rfl (mvx rfl (za rfl (qa (cs := #[.slice A1a (qy x).length c1a, .slice A1b (qh x).length c1b, .slice A1c (qp x p).length c1c, .slice A2a (qy x).length c2a, .slice A2b (qh x).length c2b, .slice A2c (qp x p).length c2c]) Tryd.underlying44 xy zr38 (by decide) rfl (by rw [qt]; rfl) ?_)))))))))
 rintro gl wJ BL E8 GL;have hSJ := hSI.no E8;obtain ⟨sl, hsl⟩ : ∃ sl : Nat → Value, sl = six (.slice A1a (qy x).length c1a) (.slice A1b (qh x).length c1b) (.slice A1c (qp x p).length c1c) (.slice A2a (qy x).length c2a) (.slice A2b (qh x).length c2b) (.slice A2c (qp x p).length c2c) := ⟨_, rfl⟩
 obtain ⟨ms, hms⟩ : ∃ ms : Nat → List Int, ms = six (qy x) (qh x) (qp x p) (qy x) (qh x) (qp x p) := ⟨_, rfl⟩;rw [← hsl, ← hms] at hSJ
 have hcl : ∀ k, k < 6 → #[Value.slice A1a (qy x).length c1a, .slice A1b (qh x).length c1b, .slice A1c (qp x p).length c1c, .slice A2a (qy x).length c2a, .slice A2b (qh x).length c2b, .slice A2c (qp x p).length c2c][k]? = some (sl k) := fun k hk => by rw [hsl]; exact six_cell k hk
 have hml : ∀ k, 8 * (ms k).length ≤ 140737488351260 := fun k => by rw [hms]; exact six_all (P := fun l : List Int => 8 * l.length ≤ 140737488351260) (by omega) (by omega) (by omega) (by omega) (by omega) (by omega) k
 have hmi : ∀ k, ∀ y ∈ ms k, I64 y := fun k => by rw [hms]; exact six_all (P := fun l : List Int => ∀ y ∈ l, I64 y) (reads_i64 hI hx) (yfq hI hx) (goes_i64 hI hp) (reads_i64 hI hx) (yfq hI hx) (goes_i64 hI hp) k
 have hm3 : ∀ k, k < 3 → ms (k + 3) = ms k := fun k hk => by rw [hms]; exact six_twice _ _ _ k hk
 have hshape : ∀ {z : World} {k j : Nat} {ls : Nat → List Int}, Six z m2 k sl ls → k ≤ j → j < 6 → ∃ A c, sl j = .slice A (ls j).length c := fun h h1 h2 => vf (h.row _ h1 h2)
 generalize #[Value.slice A1a (qy x).length c1a, .slice A1b (qh x).length c1b, .slice A1c (qp x p).length c1c, .slice A2a (qy x).length c2a, .slice A2b (qh x).length c2b, .slice A2c (qp x p).length c2c] = cells at BL hcl
 have hIJ : Ext No wG wJ := (hX1.trans hX2).trans E8;have hE8 : Ext (fun q => lo ≤ q) w wJ := hE7.step hIJ (fun _ h => h.elim);have B2j := B2g.ext hIJ (fun h => h.elim);have B6j := B6c.ext hIJ (fun h => h.elim);have O3j := yx O3g hIJ (fun _ _ h => h.elim);have O5j := yx O5g hIJ (fun _ _ h => h.elim);have hb2 := B2g.lt;have hb6 := B6c.lt
 refine anx rfl (zf (srx (anx rfl (zx (qk (ι := Nat) (fun k => [(2, .pointer (some ⟨g2, 0, none⟩)), (5, .slice A3 x.l.length c3), (6, .pointer (some ⟨g6, 0, none⟩)), (13, .slice (some ⟨gl, 0, none⟩) 6 6), (14, .int .i64 ((k : Nat) : Int))]) (fun k w' => k ≤ 3 ∧ Ext No wJ w') (fun k => 3 - k) 0 ⟨rfl, rfl, rfl, rfl, rfl, trivial⟩ (⟨Nat.zero_le _, Ext.refl _ _⟩) ?_)))))
 rintro k w6 ⟨hk3, hEk⟩;refine zf (srx (mvx rfl (za rfl (yt rfl rfl (rnx (zt rfl (fun hk => ?_) (fun hk => ?_)))))))
 ·
  have hk := of_decide_eq_true hk;have hk' : k < 3 := by omega
  have hSk := hSJ.no hEk;have BLk := BL.ext hEk (fun h => h.elim);obtain ⟨Ak, ck, hsk⟩ := hshape hSk (Nat.zero_le k) (by omega);obtain ⟨Bk, dk, htk⟩ := hshape hSk (Nat.zero_le (k + 3)) (by omega);have hr1 := hSk.row k (Nat.zero_le _) (by omega);have hr2 := hSk.row (k + 3) (Nat.zero_le _) (by omega);rw [hm3 k hk'] at hr2 htk;rw [hsk] at hr1;rw [htk] at hr2
  have hi1 := OwnsI.ints hr1 (by have := hml k; omega) (hmi k);have hi2 := OwnsI.ints hr2 (by have := hml k; omega) (hmi k);have hc1 := (BLk.cell k).trans (hcl k (by omega));have hc2 := (BLk.cell (k + 3)).trans (hcl (k + 3) (by omega));rw [hsk] at hc1;rw [htk] at hc2;refine zj (ze (zf (zx (zf ?_))))
  refine vu (No) Mut.none_ [] [] (oz [Fx.of (.slice (some ⟨gl, 0, none⟩) 6 6),
   Fx.of (.int .i64 ((k : Nat) : Int)),
   Fx.of (.pointer (some ⟨gl, 0 + k, none⟩)),
   Fx.of (.slice Ak (ms k).length ck),
   Fx.of (.slice (some ⟨gl, 0, none⟩) 6 6),
   Fx.of (.int .i64 ((k : Nat) : Int)),
   Fx.of (.int .i64 (((k : Nat) : Int) + 3)),
   Fx.of (.pointer (some ⟨gl, 0 + (k + 3), none⟩)),
   Fx.of (.slice Bk (ms k).length dk),
   Fx.of (.bool true),
   Fx.of (.bool false)]) mixed rfl trivial (fun _ h => by cases h) ?_ ?_
  · refine ⟨?_, ?_, ?_, ?_, ?_, ?_, ?_, ?_, ?_, ?_, ?_, trivial⟩
    · intro vs X wq K;exact zq rfl ⟨Below.refl _ _, Left.of rfl⟩
    · intro vs X wq K;exact zq rfl ⟨Below.refl _ _, Left.of rfl⟩
    · intro vs X wq K;obtain ⟨_, e0, k0⟩ := K.dep 0 rfl rfl rfl;refine zh 68 (.slice (some ⟨gl, 0, none⟩) 6 6) rfl e0 ?_;obtain ⟨_, e1, k1⟩ := K.dep 1 rfl rfl rfl;refine zh 69 (.int .i64 ((k : Nat) : Int)) rfl e1 ?_;exact va (j := k) Tryd.underlying44 xy rfl rfl rfl (by omega) ⟨Below.refl _ _, Left.of rfl⟩
    · intro vs X wq K;have LE := K.1;obtain ⟨_, e2, k2⟩ := K.dep 2 rfl rfl rfl;refine zh 70 (.pointer (some ⟨gl, 0 + k, none⟩)) rfl e2 ?_;exact yk Tryd.underlying38 rfl rfl (by rw [Nat.zero_add]; exact cell_no LE hc1) ⟨Below.refl _ _, Left.of rfl⟩
    · intro vs X wq K;exact zq rfl ⟨Below.refl _ _, Left.of rfl⟩
    · intro vs X wq K;exact zq rfl ⟨Below.refl _ _, Left.of rfl⟩
    · intro vs X wq K;obtain ⟨_, e5, k5⟩ := K.dep 5 rfl rfl rfl;refine zh 73 (.int .i64 ((k : Nat) : Int)) rfl e5 ?_;exact yg rfl rfl (zo (by omega)) ⟨Below.refl _ _, Left.of rfl⟩
    · intro vs X wq K;obtain ⟨_, e4, k4⟩ := K.dep 4 rfl rfl rfl;refine zh 72 (.slice (some ⟨gl, 0, none⟩) 6 6) rfl e4 ?_;obtain ⟨_, e6, k6⟩ := K.dep 6 rfl rfl rfl;refine zh 74 (.int .i64 (((k : Nat) : Int) + 3)) rfl e6 ?_;exact va (j := k + 3) Tryd.underlying44 xy rfl rfl (by omega) (by omega) ⟨Below.refl _ _, Left.of rfl⟩
    · intro vs X wq K;have LE := K.1;obtain ⟨_, e7, k7⟩ := K.dep 7 rfl rfl rfl;refine zh 75 (.pointer (some ⟨gl, 0 + (k + 3), none⟩)) rfl e7 ?_;exact yk Tryd.underlying38 rfl rfl (by rw [Nat.zero_add]; exact cell_no LE hc2) ⟨Below.refl _ _, Left.of rfl⟩
    · intro vs X wq K;have LE := K.1;obtain ⟨_, e3, k3⟩ := K.dep 3 rfl rfl rfl;refine zh 71 (.slice Ak (ms k).length ck) rfl e3 ?_;obtain ⟨_, e8, k8⟩ := K.dep 8 rfl rfl rfl
      refine zh 76 (.slice Bk (ms k).length dk) rfl e8 (zz en11 rfl ((ybk _ Ak Bk ck dk _ _ (ms k) (hi1.low (X := No) ⟨(Ext.refl No _).drew.trans LE, fun _ h ↦ h.elim⟩) (hi2.low (X := No) ⟨(Ext.refl No _).drew.trans LE, fun _ h ↦ h.elim⟩)).mono ?_));rintro e w2 ⟨rfl, hb⟩;exact ⟨_, rfl, hb, Left.of rfl⟩
    · intro vs X wq K;obtain ⟨_, e9, k9⟩ := K.dep 9 rfl rfl rfl;refine zh 77 (.bool true) rfl e9 ?_;exact vw rfl ⟨Below.refl _ _, Left.of rfl⟩
  intro vs w7 LE AO AL AF AA;have hbd : Below (w6).heap.size (w6) w7 := (((Ext.refl No (w6)).drew).trans LE).toBelow;obtain ⟨_, e10, k10⟩ := AL.2.2.2.2.2.2.2.2.2.2.1;refine je (τ := [(2, _), (5, _), (6, _), (13, _), (14, _), (78, .bool false)]) ⟨rfl, rfl, rfl, rfl, rfl, congrArg some e10, trivial⟩ ?_;clear AL AF AA AO
  refine ze (zy rfl (zj (zm (ze (zi (mvx rfl (za rfl (yg rfl rfl (zo (by omega)) (avx rfl (yf ?_))))))))));exact ym (k + 1) (by show 3 - (k + 1) < 3 - k; omega) ⟨rfl, rfl, rfl, rfl, rfl, trivial⟩ (⟨by omega, hEk.trans (Ext.of_below hbd No)⟩)
 ·
  obtain ⟨wK, hwK⟩ : ∃ z, z = w6 := ⟨_, rfl⟩;subst hwK;have hSK := hSJ.no hEk;have BLK := BL.ext hEk (fun h => h.elim);have hEJK := hIJ.trans hEk;have hsK := hEJK.size;have B2k := B2g.ext hEJK (fun h => h.elim);have B6k := B6c.ext hEJK (fun h => h.elim);have O3k := yx O3g hEJK (fun _ _ h => h.elim);have O5k := yx O5g hEJK (fun _ _ h => h.elim)
  have hE9 : Ext (fun q => lo ≤ q) w wK := hE7.step hEJK (fun _ h => h.elim);have hlom : lo ≤ m2 := by have := hE7.size; omega
  refine yn (zg (zg (zv (ze (zf (srx (anx rfl (zx (qk (ι := Nat) (fun k => [(2, .pointer (some ⟨g2, 0, none⟩)), (5, .slice A3 x.l.length c3), (6, .pointer (some ⟨g6, 0, none⟩)), (13, .slice (some ⟨gl, 0, none⟩) 6 6), (15, .int .i64 ((k : Nat) : Int))]) (fun k w' => k ≤ 6 ∧ Ext (fun q => m2 ≤ q) wK w' ∧ Six w' m2 0 sl (msK ms k) ∧ Blk w' gl 38 cells) (fun k => 6 - k) 0 ⟨rfl, rfl, rfl, rfl, rfl, trivial⟩ (⟨Nat.zero_le _, Ext.refl _ _, by rw [msK_zero]; exact hSK, BLK⟩) ?_)))))))))
  rintro k w9 ⟨hk6, hEk2, hSk2, BLk2⟩;refine zf (srx (mvx rfl (mvx rfl (za rfl (vi Tryd.underlying44 rfl (yd 81 (.int .i64 6) rfl (by kernel_rfl : (.int .i64 (6 : Nat) : Value) = _) (za rfl (yt rfl rfl (rnx (zt rfl (fun hk2 => ?_) (fun hk2 => ?_)))))))))))
  ·
   have hk2 := of_decide_eq_true hk2;have hk2' : k < 6 := by omega
   refine zj (ze (zf (zx (srx (anx rfl (zx (qk (ι := Nat) (fun i => [(2, .pointer (some ⟨g2, 0, none⟩)), (5, .slice A3 x.l.length c3), (6, .pointer (some ⟨g6, 0, none⟩)), (13, .slice (some ⟨gl, 0, none⟩) 6 6), (15, .int .i64 ((k : Nat) : Int)), (16, .int .i64 ((i : Nat) : Int))]) (fun i w' => i ≤ (ms k).length ∧ Ext (fun q => m2 ≤ q) wK w' ∧ Six w' m2 0 sl (updF (msK ms k) k (List.replicate i (-10 - (k : Int)) ++ (ms k).drop i)) ∧ Blk w' gl 38 cells) (fun i => (ms k).length - i) 0 ⟨rfl, rfl, rfl, rfl, rfl, rfl, trivial⟩ (⟨Nat.zero_le _, hEk2, by rw [msK_start]; exact hSk2, BLk2⟩) ?_)))))))
   rintro i w11 ⟨hil, hEi, hSi, BLi⟩;have hri := hSi.row k (Nat.zero_le _) hk2';rw [zmq] at hri;have hrl : (List.replicate i (-10 - (k : Int)) ++ (ms k).drop i).length = (ms k).length := by rw [List.length_append, List.length_replicate, List.length_drop]; omega
   rw [hrl] at hri;obtain ⟨Ak, ck, hsk⟩ := vf hri;have hck := (BLi.cell k).trans (hcl k hk2');rw [hsk] at hck;have hkl := hml k
   refine zf (srx (mvx rfl (mvx rfl (mvx rfl (za rfl (va (j := k) Tryd.underlying44 xy rfl rfl rfl (by omega) (za rfl (yk Tryd.underlying38 rfl rfl (by rw [Nat.zero_add]; exact hck) (za rfl (vi Tryd.underlying38 rfl (za rfl (yt rfl rfl (rnx (zt rfl (fun hi2 => ?_) (fun hi2 => ?_)))))))))))))))
   ·
    have hi2 := of_decide_eq_true hi2;have hil2 : i < (ms k).length := by omega
    rw [hsk] at hri;obtain ⟨gk, rfl, _, hgk, hgk2⟩ := OwnR.cap hri (by omega)
    refine zj (ze (zf (zx (zi (mvx rfl (mvx rfl (za rfl (va (j := k) Tryd.underlying44 xy rfl rfl rfl (by omega) (za rfl (yk Tryd.underlying38 rfl rfl (by rw [Nat.zero_add]; exact hck) (mvx rfl (mvx rfl (za rfl (yw rfl rfl (zo (by omega)) (za rfl (va (j := i) Tryd.underlying38 sz3 rfl rfl rfl hil2 (qf (ow_storeOS (o := 0 + i) (xs' := qx (List.replicate (i + 1) (-10 - (k : Int)) ++ (ms k).drop (i + 1))) sz3 rfl rfl hri (by omega) rfl rfl (by rw [Nat.zero_add]; exact set_rep hil2) ?_))))))))))))))))))
    rintro wM OM EM;have hSn := hSi.put hk2' (xs := List.replicate (i + 1) (-10 - (k : Int)) ++ (ms k).drop (i + 1)) (by rw [hsk, show (List.replicate (i + 1) (-10 - (k : Int)) ++ (ms k).drop (i + 1)).length = (ms k).length by rw [List.length_append, List.length_replicate, List.length_drop]; omega]; exact OM) (by rw [hsk]; exact EM)
    refine yf (zm (ze (zi (mvx rfl (za rfl (yg rfl rfl (zo (by omega)) (avx rfl (yf ?_))))))))
    exact ym (i + 1) (by show (ms k).length - (i + 1) < (ms k).length - i; omega) ⟨rfl, rfl, rfl, rfl, rfl, rfl, trivial⟩ (⟨by omega, hEi.step EM (fun q hq => Or.inl (show m2 ≤ q by have := mut1 hq; omega)), by rw [show updF (msK ms k) k _ = _ from (updF_twice _ k _ _).symm]; exact hSn, yfx BLi hri (by decide) EM⟩)
   ·
    have hi2 := of_decide_eq_false hi2;have hil3 : i = (ms k).length := by omega
    subst hil3;refine yn (zg (zg (zv (zm (ze (zi (mvx rfl (za rfl (yg rfl rfl (zo (by omega)) (avx rfl (yf ?_)))))))))));exact ym (k + 1) (by show 6 - (k + 1) < 6 - k; omega) ⟨rfl, rfl, rfl, rfl, rfl, trivial⟩ (⟨by omega, hEi, by rw [← msK_end]; exact hSi, BLi⟩)
  ·
   have hk2 := of_decide_eq_false hk2;obtain rfl : k = 6 := by omega
   obtain ⟨wN, hwN⟩ : ∃ z, z = w9 := ⟨_, rfl⟩;subst hwN
   refine yn (zg (zg (zv (ze (zf (srx (anx rfl (zx (qk (ι := Nat) (fun k => [(2, .pointer (some ⟨g2, 0, none⟩)), (5, .slice A3 x.l.length c3), (6, .pointer (some ⟨g6, 0, none⟩)), (13, .slice (some ⟨gl, 0, none⟩) 6 6), (17, .int .i64 ((k : Nat) : Int))]) (fun k w' => k ≤ 6 ∧ Ext (fun q => m2 ≤ q) wK w' ∧ Six w' m2 k sl (msK ms 6) ∧ Blk w' gl 38 cells) (fun k => 6 - k) 0 ⟨rfl, rfl, rfl, rfl, rfl, trivial⟩ (⟨Nat.zero_le _, hEk2, hSk2, BLk2⟩) ?_)))))))))
   rintro k w13 ⟨hk63, hEk3, hSk3, BLk3⟩;refine zf (srx (mvx rfl (mvx rfl (za rfl (vi Tryd.underlying44 rfl (yd 104 (.int .i64 6) rfl (by kernel_rfl : (.int .i64 (6 : Nat) : Value) = _) (za rfl (yt rfl rfl (rnx (zt rfl (fun hk3 => ?_) (fun hk3 => ?_)))))))))))
   ·
    have hk3 := of_decide_eq_true hk3;have hk3' : k < 6 := by omega
    have hrk := hSk3.row k (Nat.le_refl _) hk3';rw [msK_at ms hk3', List.length_replicate] at hrk;obtain ⟨Ak, ck, hsk⟩ := vf hrk;have hck := (BLk3.cell k).trans (hcl k hk3');rw [hsk] at hck hrk;have hkl := hml k
    refine zj (ze (zf (zx (srx (mvx rfl (mvx rfl (za rfl (va (j := k) Tryd.underlying44 xy rfl rfl rfl (by omega) (za rfl (yk Tryd.underlying38 rfl rfl (by rw [Nat.zero_add]; exact hck) (za rfl (qa (cs := #[.int .i64 (-50), .int .i64 (-50), .int .i64 (-50)]) Tryd.underlying38 sz3 zr3 (by decide) rfl (by rw [qt]; rfl) ?_))))))))))))
    rintro gx wO Bx EO Gx;have hrO := yx hrk EO (fun _ _ h => h.elim);have hEO := hEk3.step EO (fun _ h => h.elim);have hmO : m2 ≤ wO.heap.size := by have := hEO.size; omega
    refine za rfl (zfv (n' := (ms k).length + 3) (xs' := qx (List.replicate (ms k).length (-10 - (k : Int)) ++ [-50, -50, -50])) Tryd.underlying38 inf3 rfl (by decide) rfl hrO rfl (reads_rowN Bx Bx.lt rfl) (by simp [Value.oneCell']) rfl (by unfold qx; rw [List.map_append]; rfl) (by unfold maxLen; omega) (by omega) hmO ?_);rintro A9 c9 wP OP EP NP
    have hSP := (hSk3.no EO).next hk3' (by rw [hsk]; exact EP);have hEP := hEO.step EP (fun q hq => Or.inl (gu hrO q (ob hq)));have BLP := yfx (BLk3.ext EO (fun h => h.elim)) hrO (by decide) EP;obtain ⟨g9, rfl, _, _, _⟩ := OwnR.cap OP (by omega)
    refine anx rfl (srx (anx rfl (zx (qk (ι := Nat) (fun i => [(2, .pointer (some ⟨g2, 0, none⟩)), (5, .slice A3 x.l.length c3), (6, .pointer (some ⟨g6, 0, none⟩)), (13, .slice (some ⟨gl, 0, none⟩) 6 6), (17, .int .i64 ((k : Nat) : Int)), (18, .slice (some ⟨g9, 0, none⟩) ((ms k).length + 3) c9), (19, .int .i64 ((i : Nat) : Int))]) (fun i w' => i ≤ (ms k).length ∧ Ext No wP w') (fun i => (ms k).length - i) 0 ⟨rfl, rfl, rfl, rfl, rfl, rfl, rfl, trivial⟩ (⟨Nat.zero_le _, Ext.refl _ _⟩) ?_))))
    rintro i w15 ⟨hi4, hEi4⟩;refine zf (srx (mvx rfl (za rfl (yg rfl rfl (zo (by omega)) (mvx rfl (za rfl (vi Tryd.underlying38 rfl (za rfl (yt rfl rfl (rnx (zt rfl (fun hi5 => ?_) (fun hi5 => ?_))))))))))))
    ·
     have hi5 := of_decide_eq_true hi5;have hi5' : i < (ms k).length := by omega
     obtain ⟨g9', e9, _, _, hc9⟩ := xh (yx OP hEi4 (fun _ _ h => h.elim)) (by omega);injection e9 with e9
     injection e9 with e9
     subst e9;have hc9 := hc9 i (.int .i64 (-10 - (k : Int))) (by unfold qx; rw [List.map_append, List.getElem?_append_left (by rw [List.length_map, List.length_replicate]; exact hi5'), List.map_replicate, List.getElem?_replicate, if_pos hi5'])
     refine zj (ze (zf (zx (srx (mvx rfl (mvx rfl (za rfl (va (j := i) Tryd.underlying38 sz3 rfl rfl rfl (by omega) (za rfl (yk Tryd.underlying3 rfl rfl (by rw [Nat.zero_add]; exact hc9) (mvx rfl (za rfl (yw rfl rfl (zo (by omega)) (za rfl (qn rfl rfl (rnx (zu 127 (.bool false) rfl ((by rw [bne_self_eq_false] : (.bool ((-10 - ((k : Nat) : Int)) != ((-10) - ((k : Nat) : Int))) : Value) = _)) (zy rfl (zj (zm (ze (zi (mvx rfl (za rfl (yg rfl rfl (zo (by omega)) (avx rfl (yf ?_)))))))))))))))))))))))))))
     exact ym (i + 1) (by show (ms k).length - (i + 1) < (ms k).length - i; omega) ⟨rfl, rfl, rfl, rfl, rfl, rfl, rfl, trivial⟩ (⟨by omega, hEi4⟩)
    ·
     refine yn (zg (zg (zv (zm (ze (zi (mvx rfl (za rfl (yg rfl rfl (zo (by omega)) (avx rfl (yf ?_)))))))))));exact ym (k + 1) (by show 6 - (k + 1) < 6 - k; omega) ⟨rfl, rfl, rfl, rfl, rfl, trivial⟩ (⟨by omega, hEP.step hEi4 (fun _ h => h.elim), hSP.no hEi4, BLP.ext hEi4 (fun h => h.elim)⟩)
   ·
    have hmb : ∀ q, m2 ≤ q → wG.heap.size ≤ q := fun q hq => by omega
    have B2n := B2k.ext hEk3 (fun hq => by have := hmb _ hq; omega);have B6n := B6k.ext hEk3 (fun hq => by have := hmb _ hq; omega);have O3n := yx O3k hEk3 (fun q hq hm => by have := vk O3g q hq; have := hmb _ hm; omega);have O5n := yx O5k hEk3 (fun q hq hm => by have := vk O5g q hq; have := hmb _ hm; omega)
    have hE10 : Ext (fun q => lo ≤ q) w w13 := hE9.step hEk3 (fun q hq => Or.inl (show lo ≤ q by have hq : m2 ≤ q := hq; omega));have hL5n : IntsA _ _ (some ⟨g5, 0, none⟩) x.l := OwnR.pre O5n (by omega) hx.len hx.in_;have hL3n : IntsA _ _ A3 x.l := OwnsI.ints O3n hx.len hx.in_
    refine yn (zg (zg (zv (ze (srx (za rfl (zb Tryd.underlying40 rfl xy (by decide) rfl (za rfl (zl Tryd.underlying38 rfl rfl B6n rfl (za rfl (zb Tryd.underlying40 rfl xy (by decide) rfl (za rfl (zl Tryd.underlying38 rfl rfl B2n rfl (za rfl (vi Tryd.underlying38 rfl (za rfl (yg rfl rfl (zo (by omega)) (za rfl (ow_sliceH (h := x.l.length + 2) Tryd.underlying38 sz3 rfl rfl (by omega) hc5 (anx rfl (srx (za rfl (zb Tryd.underlying40 rfl xy (by decide) rfl (za rfl (zl Tryd.underlying38 rfl rfl B6n rfl (mvx rfl (za rfl (zz en11 rfl ((ybk _ (some ⟨g5, 0, none⟩) A3 c5 c3 _ _ x.l hL5n hL3n).mono ?_)))))))))))))))))))))))))))))
    rintro e w16 ⟨rfl, hb⟩;refine ⟨_, rfl, ?_⟩;have E11 := Ext.of_below hb No;have hE11 := hE10.step E11 (fun _ h => h.elim);have B2o := B2n.ext E11 (fun h => h.elim);have O5o := yx O5n E11 (fun _ _ h => h.elim);obtain ⟨g5', e5, _, _, hc5n⟩ := xh O5o (by omega);injection e5 with e5
    injection e5 with e5
    subst e5;have hca := hc5n x.l.length (.int .i64 (-3)) (by unfold qx; rw [List.map_append, List.getElem?_append_right (by rw [List.length_map]; exact Nat.le_refl _), List.length_map, Nat.sub_self]; rfl)
    have hcb := hc5n (x.l.length + 1) (.int .i64 (-3)) (by unfold qx; rw [List.map_append, List.getElem?_append_right (by rw [List.length_map]; omega), List.length_map, Nat.add_sub_cancel_left]; rfl)
    refine mvx rfl (onx rfl (zq rfl (onx rfl (zb Tryd.underlying40 rfl xy (by decide) rfl (onx rfl (zl Tryd.underlying38 rfl rfl B2o rfl (onx rfl (vi Tryd.underlying38 rfl (onx rfl (va (j := x.l.length) Tryd.underlying38 sz3 rfl rfl rfl (by omega) (onx rfl (yk Tryd.underlying3 rfl rfl (by rw [Nat.zero_add]; exact hca) (onx rfl (ye rfl rfl (za rfl (zw rfl rfl (mvx rfl (onx rfl (zq rfl (onx rfl (zb Tryd.underlying40 rfl xy (by decide) rfl (onx rfl (zl Tryd.underlying38 rfl rfl B2o rfl (onx rfl (vi Tryd.underlying38 rfl (onx rfl (yg rfl rfl (zo (by omega)) (onx rfl (va (j := x.l.length + 1) Tryd.underlying38 sz3 rfl rfl (by omega) (by omega) (onx rfl (yk Tryd.underlying3 rfl rfl (by rw [Nat.zero_add]; exact hcb) (onx rfl (ye rfl rfl (za rfl (zw rfl rfl (anx rfl (zr (zp (rs := [.tmp 4]) (vs := [_]) rfl ⟨rfl, trivial⟩ ?_))))))))))))))))))))))))))))))))))))))
    exact ⟨rfl, hE11.below (fun q hq => by rw [← hlo]; exact hq)⟩
end Go.Proofs.YtmjbnhjgebjhlaaDoor
