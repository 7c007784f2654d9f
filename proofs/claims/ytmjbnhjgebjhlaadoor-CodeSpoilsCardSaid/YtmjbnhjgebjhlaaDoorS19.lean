/- Texts of this claim. -/
import Derived.Test.YtmjbnhjgebjhlaaDoorS18
import Derived.Lib.ItoaNum
import Derived.Lib.SmallJoins
namespace Go.Proofs.YtmjbnhjgebjhlaaDoor
open Go.RowKit
set_option maxRecDepth 100000
def shown (ds : List Nat) (k : Nat) : List Value := (List.range k).map fun j => .int .u8 (48 + nth ds (ds.length - 1 - j))
section
variable (i : Int) (A : Option Addr) (c : Nat) (w : World) (hi : i.natAbs < B18 ^ 30) (hx : Nums8 w A (tens i))
include hi hx
end
end Go.Proofs.YtmjbnhjgebjhlaaDoor
namespace Go.Proofs.YtmjbnhjgebjhlaaDoor
def padk (k l : Nat) : List UInt8 := List.replicate (k - Lib.nDigits l) 48 ++ Lib.decDigits l
def texted (i : Int) (k : Nat) : List UInt8 := (if i < 0 then [45] else []) ++ (if k = 0 then [] else Lib.decDigits (i.natAbs / B18 ^ ((limbs i).length - k)))
/-! ### the number that digits spell -/
theorem val_app (b : Nat) : ∀ (x y : List Nat), val b (x ++ y) = val b x + b ^ x.length * val b y
 | [], y => by simp [val]
 | a :: x, y => by
  rw [List.cons_append, val, val, val_app b x y, List.length_cons, Nat.pow_succ, Nat.mul_add, ← Nat.add_assoc, Nat.mul_comm (b ^ x.length) b, Nat.mul_assoc]
theorem zqq (x y : List UInt8) : yy (x ++ y) = yy x * 10 ^ y.length + yy y := by
 unfold yy;rw [List.reverse_append, List.map_append, val_app, List.length_map, List.length_reverse, Nat.mul_comm, Nat.add_comm]
theorem num10_nil : yy [] = 0 := rfl
theorem num10_zero (r : List UInt8) : yy (48 :: r) = yy r := by
 rw [show (48 : UInt8) :: r = [48] ++ r from rfl, zqq, show yy [48] = 0 from rfl, Nat.zero_mul, Nat.zero_add]
theorem num10_lt {r : List UInt8} (h : r.all qz = true) : yy r < 10 ^ r.length := by
 have h1 := val_lt (b := 10) (l := r.reverse.map dv) (dv_small (by rw [List.all_reverse]; exact h));simpa [yy] using h1
def gf : List UInt8 → List UInt8
 | [] => []
 | b :: r => if b = 48 then gf r else b :: r
theorem om : ∀ r, yy (gf r) = yy r
 | [] => rfl
 | b :: r => by
  rw [gf]; split
  · rename_i h; rw [h, num10_zero, om r]
  · rfl
theorem strip_drop : ∀ r : List UInt8, ∃ k, k ≤ r.length ∧ gf r = r.drop k ∧ ∀ j, j < k → r[j]? = some 48
 | [] => ⟨0, Nat.le_refl _, rfl, fun j h => by omega⟩
 | b :: r => by
  by_cases h : b = 48
  · obtain ⟨k, h1, h2, h3⟩ := strip_drop r;refine ⟨k + 1, by simp; omega, by rw [gf, if_pos h, h2]; rfl, fun j hj => ?_⟩;cases j with
    | zero => rw [h]; rfl
    | succ j => simpa using h3 j (by omega)
  · exact ⟨0, Nat.zero_le _, by rw [gf, if_neg h]; rfl, fun j h => by omega⟩
theorem strip_head (r : List UInt8) : (gf r).head? ≠ some 48 := by
 induction r with
 | nil => simp [gf]
 | cons b r ih =>
  rw [gf]; split
  · exact ih
  · rename_i h; simpa using h
theorem zev {r : List UInt8} (h : r.all qz = true) : (gf r).all qz = true := by
 obtain ⟨k, _, e, _⟩ := strip_drop r;rw [e, List.all_eq_true];intro x hx;exact List.all_eq_true.1 h x (List.mem_of_mem_drop hx)
theorem head_num {b : UInt8} {r : List UInt8} (h : (b :: r).all qz = true) (hb : b ≠ 48) : 10 ^ r.length ≤ yy (b :: r) := by
 rw [show b :: r = [b] ++ r from rfl, zqq];have h1 : qz b = true := by rw [List.all_cons, Bool.and_eq_true] at h; exact h.1
 have h2 : 1 ≤ yy [b] := by
  have h3 : yy [b] = dv b := by simp [yy, val]
  rw [h3];unfold qz at h1;simp at h1
  have h4 : b.toNat ≠ 48 := fun e => hb (UInt8.toNat_inj.1 e);unfold dv; omega
 calc 10 ^ r.length = 1 * 10 ^ r.length := (Nat.one_mul _).symm
  _ ≤ yy [b] * 10 ^ r.length := Nat.mul_le_mul_right _ h2
  _ ≤ _ := Nat.le_add_right _ _
theorem B18_len {n : Nat} (h : n = 18 * 30) : B18 ^ 30 = 10 ^ n := by rw [h, B18_pow]
theorem zok {r : List UInt8} (h : r.all qz = true) : (gf r).length ≤ 540 ↔ yy r < B18 ^ 30 := by
 obtain ⟨n, hn⟩ : ∃ n, n = 540 := ⟨_, rfl⟩;rw [← om r, B18_len (n := n) hn, ← hn];have ha := zev h;have hh := strip_head r;generalize gf r = s at ha hh
 constructor
 · intro h1;exact Nat.lt_of_lt_of_le (num10_lt ha) (Nat.pow_le_pow_right (by decide) h1)
 · intro h1;cases s with
   | nil => simp
   | cons b s =>
    have h2 := head_num ha (by simpa using hh);rcases Nat.lt_or_ge s.length n with h3 | h3
    · simp; omega
    · have := Nat.pow_le_pow_right (n := 10) (by decide) h3;exact absurd (Nat.lt_of_lt_of_le h1 (Nat.le_trans this h2)) (Nat.lt_irrefl _)
theorem zrv {s : List UInt8} (hs : s.all qz = true) {e k : Nat} {xs : List Nat} (hk : xs.length = k) (he : s.length = e + 18 * k) (hv : val B18 xs = yy (s.drop e)) :
 val B18 (xs ++ [yy ((s.take e).drop (e - 18))]) = yy (s.drop (e - 18)) := by
 have _ := hs;have e1 : s.drop (e - 18) = (s.take e).drop (e - 18) ++ s.drop e := by
  conv => lhs; rw [← List.take_append_drop e s]
  rw [List.drop_append_of_le_length (by rw [List.length_take]; omega)]
 rw [e1, zqq, val_app, hv, hk, List.length_drop, he, show e + 18 * k - e = 18 * k by omega, ← B18_pow];simp only [val]
 rw [Nat.mul_zero, Nat.add_zero, Nat.mul_comm (B18 ^ k), Nat.add_comm]
theorem jv {s : List UInt8} (hs : s.all qz = true) (e : Nat) : yy ((s.take e).drop (e - 18)) < B18 := by
 have h1 : ((s.take e).drop (e - 18)).all qz = true := by
  rw [List.all_eq_true]; intro x hx;exact List.all_eq_true.1 hs x (List.mem_of_mem_take (List.mem_of_mem_drop hx))
 have h2 := num10_lt h1;refine Nat.lt_of_lt_of_le h2 ?_;have h3 : ((s.take e).drop (e - 18)).length ≤ 18 := by rw [List.length_drop, List.length_take]; omega
 have h4 := Nat.pow_le_pow_right (n := 10) (by decide) h3;have h5 : (10 : Nat) ^ 18 = B18 := by decide
 omega
end Go.Proofs.YtmjbnhjgebjhlaaDoor
namespace Go.Proofs.YtmjbnhjgebjhlaaDoor
open Go.RowKit
set_option maxRecDepth 100000
def Tab (w : World) : Prop := ∀ b, Below w.heap.size w b → Lib.TabIs Tryd.prog b "internal/strconv.uint64pow10" .u64 Lib.pow10Tab
theorem Tab.below {w w' : World} (h : Tab w) (hb : Below w.heap.size w w') : Tab w' := fun b hb' => h b (hb.trans (hb'.mono hb.size))
theorem ve (l : List UInt8) : (⟨l.toArray⟩ : ByteArray).size = l.length := by simp [ByteArray.size]
theorem zvv (a : List UInt8) (l h : Nat) : (⟨a.toArray⟩ : ByteArray).extract l h = ⟨((a.take h).drop l).toArray⟩ := by
 apply ByteArray.ext
 rw [ByteArray.data_extract];apply Array.ext'
 simp [List.extract, List.drop_take]
section
variable (i : Int) (A : Option Addr) (c : Nat) (w : World) (hi : i.natAbs < B18 ^ 30) (hx : Nums w A (limbs i)) (ht : Tab w)
include hi hx ht
end
theorem num10_cons (b : UInt8) (r : List UInt8) : yy (b :: r) = dv b * 10 ^ r.length + yy r := by
 rw [show b :: r = [b] ++ r from rfl, zqq];congr 2
theorem uintM : ∀ (r : List UInt8) (acc : Nat), r.all qz = true → acc * 10 ^ r.length + yy r < B18 → Lib.parseUintM (2 ^ 64 - 1) acc r = .ok (acc * 10 ^ r.length + yy r)
 | [], acc, _, _ => by rw [Lib.parseUintM]; simp [num10_nil]
 | b :: r, acc, hd, hl => by
  rw [List.all_cons, Bool.and_eq_true] at hd;have h1 := hd.1;unfold qz at h1;simp at h1
  have e : acc * 10 ^ (b :: r).length + yy (b :: r) = (acc * 10 + dv b) * 10 ^ r.length + yy r := by
   rw [num10_cons, List.length_cons, Nat.pow_succ, Nat.add_mul, Nat.mul_assoc, Nat.mul_comm 10, Nat.add_assoc]
  rw [e] at hl ⊢;have h2 : acc * 10 + dv b ≤ (acc * 10 + dv b) * 10 ^ r.length := Nat.le_mul_of_pos_right _ (Nat.pow_pos (by decide));have h3 : acc * 10 + dv b < B18 := by omega
  unfold B18 at h3;have h4 : dv b = b.toNat - 48 := rfl;rw [Lib.parseUintM, if_pos h1, if_neg (by omega), if_neg (by rw [← h4]; omega), ← h4];exact uintM r _ hd.2 hl
theorem uintB {r : List UInt8} (h0 : r ≠ []) (hd : r.all qz = true) (hl : yy r < B18) : Lib.parseUintB 64 r = .ok (yy r) := by
 rw [Lib.parseUintB, if_neg h0, uintM r 0 hd (by rw [Nat.zero_mul, Nat.zero_add]; exact hl), Nat.zero_mul, Nat.zero_add]
theorem parseU (r : List UInt8) (w : World) (h0 : r ≠ []) (hd : r.all    qz = true) (hl :    yy r < B18) (hs : r.length ≤ 18) :
 Calls Tryd.prog 23 #[.string ⟨r.toArray⟩, .int .i64 10, .int .i64 64] w fun e w' => e = .returned (.tuple #[.int .u64 ((   yy r : Nat) : Int), .nilIface]) ∧ Below w.heap.size w w' :=
 (Tryd.strconv_ParseUint_10_at64_ok ⟨r.toArray⟩ (by rw [     ve]; omega) (   yy r) (uintB h0 hd hl) w).mono fun _ _ ⟨a, b⟩ =>
  ⟨a, by rcases b with rfl | rfl; exact Below.refl _ _; exact Joins.below_bytesWorld _ _ _ _ (Nat.le_refl _)⟩
theorem strip_cons {b : UInt8} {r : List UInt8} (h : b ≠ 48) : gf (b :: r) = b :: r := by rw [gf, if_neg h]
theorem strip_zero (r : List UInt8) : gf (48 :: r) = gf r := by rw [gf, if_pos rfl]
theorem yfq (l : List UInt8) (j : Nat) : (⟨l.toArray⟩ : ByteArray)[j]? = l[j]? := by rw [ba_get]
theorem all_get {p : UInt8 → Bool} {l : List UInt8} {k : Nat} {b : UInt8} (hb : l[k]? = some b) (h : (l.take k).all p = true) (hp : p b = true) : (l.take (k + 1)).all p = true := by
 rw [List.take_add_one, List.all_append, h, hb];simpa using hp
theorem ymv {l : List UInt8} {k : Nat} {b : UInt8} (hb : l[k]? = some b) (h : qz b = false) : l.all qz = false := by
 rw [Bool.eq_false_iff];intro ha;rw [List.all_eq_true.1 ha b (List.mem_of_getElem? hb)] at h;cases h
theorem yok (l : List UInt8) : (⟨l.toArray⟩ : ByteArray).toList = l := by
 rw [ByteArray.toList_eq]
theorem zyv {u : List UInt8} {e : Nat} (h0 : 0 < e) (he : e ≤ u.length) : (u.take e).drop (e - 18) ≠ [] := by
 intro h;have := congrArg List.length h;rw [List.length_drop, List.length_take] at this;simp at this
 omega
theorem zpv {u : List UInt8} (hs : u.all qz = true) (e : Nat) : ((u.take e).drop (e - 18)).all qz = true := by
 rw [List.all_eq_true]; intro x hx;exact List.all_eq_true.1 hs x (List.mem_of_mem_take (List.mem_of_mem_drop hx))
theorem zpk (u : List UInt8) (e : Nat) : ((u.take e).drop (e - 18)).length ≤ 18 := by rw [List.length_drop, List.length_take]; omega
section
variable (bs r : List UInt8) (w : World)
theorem wparse_neg (hr : r ≠ []) (hbs : bs = 45 :: r) (hs : bs.length ≤ 140737488355328) : Calls Tryd.prog 20 #[.string ⟨bs.toArray⟩] w (kk w (jz true r) (jk r)) := by
 have hat0 : (⟨bs.toArray⟩ : ByteArray)[0]? = some 45 := by rw [yfq, hbs]; rfl
 have hbl : bs.length = r.length + 1 := by rw [hbs]; rfl
 have hpos : (0 : Int) < ((⟨bs.toArray⟩ : ByteArray).size : Int) := by rw [ve]; omega
 refine yk Tryd.func20 rfl Tryd.ntmps20 rfl ?_;have HF : Per (No) w (fun _ => True) := Per.true_;have LW := erx (No) w;have XLW := grx (No) w;have E := erx (No) w;refine srx (za rfl (va zr61 ?_));intro gb1 w2 Bb1 Eb1 Gb1;have Gb1 : _ ≤ gb1 := Nat.le_trans E.size Gb1;have GLb1 := Nat.le_trans LW.size Gb1;replace E := E.trans Eb1.no;replace HF := HF.cons (yf Gb1)
 replace E := E.cons (some gb1);replace XLW := Mut.grow XLW (fun k e => Or.inr (Nat.le_trans LW.size ((yf Gb1) k e)))
 refine anx rfl (srx (mvx rfl (za rfl (qc Tryd.underlying9 rfl (za rfl (qo rfl rfl (mvx rfl (yc 13 (.bool true) rfl (by rw [decide_eq_true hpos]) (onx rfl (zn rfl (onx rfl (gl (j := 0) Tryd.underlying9 rfl rfl rfl hat0 (onx rfl (ye rfl rfl (za rfl (zw rfl rfl (anx rfl (zf (srx (mvx rfl (rnx (ym rfl (zj (mvx rfl (za rfl (vg (l := 1) (h := bs.length) Tryd.underlying9 rfl ⟨_, rfl⟩ (ve bs).symm (by omega) (by rw [ve]; omega) (yc 20 (.string ⟨r.toArray⟩) rfl ((by rw [zvv, List.take_length, hbs]; rfl : (.string ((⟨bs.toArray⟩ : ByteArray).extract 1 bs.length) : Value) = _)) (anx rfl (zf (srx (mvx rfl (za rfl (oh rfl rfl (rnx (zv 4 (.bool true) rfl ((by rfl : (.bool true : Value) = _)) ?_)))))))))))))))))))))))))))))))))))
 have hne0 : (⟨r.toArray⟩ : ByteArray).toList ≠ (⟨#[]⟩ : ByteArray).toList := by rw [yok, show (⟨#[]⟩ : ByteArray).toList = [] from yok []]; exact hr
 refine zv 22 (.bool false) rfl (by rw [beq_eq_false_iff_ne.2 hne0]) (zx rfl (zk (ze (zf (srx (mvx rfl (za rfl (qc Tryd.underlying9 rfl (mvx rfl (rnx (zy (zv 25 (.int .i64 ((r.length : Nat) : Int)) rfl (by rw [ve]) (zv 26 (.int .i64 ((0 : Nat) : Int)) rfl ((by rfl : (.int .i64 0 : Value) = _)) ?_)))))))))))));replace HF := HF.on E
 replace LW := LW.step E XLW;replace E := erx (Mut [(some gb1)]) w2
 refine qq (ι := Nat) (fun k => [(0, .string ⟨r.toArray⟩), (2, .pointer (some ⟨gb1, 0, none⟩)), (3, .int .i64 0), (4, .bool true), (25, .int .i64 ((r.length : Nat) : Int)), (26, .int .i64 (k : Int))]) (fun k w' => Ext (Mut [(some gb1)]) w2 w' ∧ Blk w' gb1 61 (#[.bool false, .slice none 0 0]) ∧ (k ≤ r.length ∧ (r.take k).all qz = true)) (fun k => r.length - k) 0 ⟨rfl, rfl, rfl, rfl, rfl, rfl, trivial⟩ ⟨Ext.refl _ _, (by exact Bb1), ⟨Nat.zero_le _, rfl⟩⟩ ?_
 have LTb1 := (yj Bb1.lt);rintro k w4 ⟨M3, Bb1, ⟨hk, hall⟩⟩;have XM3 : Gro (Mut [(some gb1)]) (Mut [(some gb1)]) w2 := (Mut.grow Mut.none_ (fun k e => Or.inl (Mut.head k e)));replace E := E.trans M3;replace HF := HF.on E;replace LW := LW.step E XLW;replace E := erx (Mut [(some gb1)]) w4;clear LTb1
 refine srx (za rfl (yv rfl rfl (rnx (zf (zt rfl (fun q => ?_) (fun q => ?_))))))
 ·
  have q := of_decide_eq_true q;have hk1 : k < r.length := by omega
  obtain ⟨b, hb9⟩ : ∃ b, r[k]? = some b := ⟨_, List.getElem?_eq_getElem hk1⟩;have hat : (⟨r.toArray⟩ : ByteArray)[k]? = some b := by rw [yfq]; exact hb9
  refine zk (ze (zf (zy (srx (mvx rfl (anx rfl (srx (mvx rfl (mvx rfl (za rfl (gl (j := k) Tryd.underlying9 rfl rfl rfl hat (za rfl (yv rfl rfl (mvx rfl (yp 33 rfl (fun h => ?_) (fun h => ?_))))))))))))))))
  ·
   have h := of_decide_eq_true h;obtain ⟨e1, e2⟩ := zwv (neg := true) (ymv hb9 (by unfold qz; simp; omega))
   refine za rfl (zc rfl (za rfl (zc rfl (za rfl (zc rfl (za rfl (zc rfl (za rfl (zw rfl rfl (rnx (ym rfl (srx (za rfl (vq (cs := #[.bool false, .slice none 0 0]) pl61 zr61 rfl rfl (yu (qu xh rfl rfl Bb1 rfl rfl (Nat.le_of_ble_eq_true rfl) ?_))))))))))))))));intro w5 Bx Eb1;replace Bb1 := Bx;replace E := E.step1 Eb1 Mut.head
   refine anx rfl (zr (zp (zd (zd (zp (zd (zq (rs := [.cell 2 61, .tmp 3]) (vs := [_, _]) rfl ⟨⟨_, rfl, jq Tryd.underlying61 rfl xh Bb1 rfl⟩, rfl, trivial⟩ ?_)))))));exact by rw [e1, e2]; exact jb (LW.step E XLW).toBelow
  ·
   have h := of_decide_eq_false h;refine onx rfl (zn rfl (onx rfl (zn rfl (onx rfl (gl (j := k) Tryd.underlying9 rfl rfl rfl hat (onx rfl (qo rfl rfl (za rfl (yb rfl rfl (rnx (zt rfl (fun h2 => ?_) (fun h2 => ?_))))))))))))
   ·
    have h2 := of_decide_eq_true h2;obtain ⟨e1, e2⟩ := zwv (neg := true) (ymv hb9 (by unfold qz; simp; omega));refine srx (za rfl (vq (cs := #[.bool false, .slice none 0 0]) pl61 zr61 rfl rfl (yu (qu xh rfl rfl Bb1 rfl rfl (Nat.le_of_ble_eq_true rfl) ?_))));intro w6 Bx Eb1;replace Bb1 := Bx;replace E := E.step1 Eb1 Mut.head
    refine anx rfl (zr (zp (zd (zd (zp (zd (zq (rs := [.cell 2 61, .tmp 3]) (vs := [_, _]) rfl ⟨⟨_, rfl, jq Tryd.underlying61 rfl xh Bb1 rfl⟩, rfl, trivial⟩ ?_)))))));exact by rw [e1, e2]; exact jb (LW.step E XLW).toBelow
   ·
    have h2 := of_decide_eq_false h2;have hdig : qz b = true := dig_of (by omega) (by omega);refine zk (zm (ze (zj (za rfl (yh rfl rfl (zo (by omega)) (mvx rfl (yd (yr 26 (.int .i64 ((k + 1 : Nat) : Int)) rfl ((by rfl : (.int .i64 ((k : Int) + 1) : Value) = _)) ?_))))))))
    exact yn (k + 1) (by show r.length - (k + 1) < r.length - k; omega) ⟨rfl, rfl, rfl, rfl, rfl, rfl, trivial⟩ ⟨M3.step E XM3, (by exact Bb1), by omega, all_get hb9 hall hdig⟩
 ·
  have q := of_decide_eq_false q;obtain rfl : k = r.length := by omega
  rw [List.take_length] at hall;refine yo (zh (zh (zu (ze (zf (zy ?_))))));replace HF := HF.on E;replace LW := LW.step E XLW;replace M3 := M3.step E XM3;replace E := erx (Mut [(some gb1)]) w4
  refine qq (ι := List UInt8) (fun u => [(0, .string ⟨u.toArray⟩), (2, .pointer (some ⟨gb1, 0, none⟩)), (3, .int .i64 0), (4, .bool true)]) (fun u w' => Ext (Mut [(some gb1)]) w4 w' ∧ Blk w' gb1 61 (#[.bool false, .slice none 0 0]) ∧ (gf u = gf r ∧ u.length ≤ r.length)) (fun u => u.length) r ⟨rfl, rfl, rfl, rfl, trivial⟩ ⟨Ext.refl _ _, (by exact Bb1), ⟨rfl, Nat.le_refl _⟩⟩ ?_
  have LTb1 := (yj Bb1.lt);rintro u w8 ⟨M7, Bb1, ⟨hu1, hu2⟩⟩;have XM7 : Gro (Mut [(some gb1)]) (Mut [(some gb1)]) w4 := (Mut.grow Mut.none_ (fun k e => Or.inl (Mut.head k e)));replace E := E.trans M7;replace HF := HF.on E;replace LW := LW.step E XLW;replace M3 := M3.step E XM3;replace E := erx (Mut [(some gb1)]) w8;clear LTb1
  refine zf (srx (mvx rfl (za rfl (qc Tryd.underlying9 rfl (za rfl (qo rfl rfl (mvx rfl (yc 44 (.bool (decide ((0 : Int) < ((u.length : Nat) : Int)))) rfl (by rw [ve]) (yp 44 rfl (fun h => ?_) (fun h => ?_))))))))))
  ·
   have h := of_decide_eq_true h;obtain ⟨b, u2, hbu⟩ : ∃ b u2, u = b :: u2 := by cases u with | nil => simp at h | cons b u2 => exact ⟨b, u2, rfl⟩
   have hat : (⟨u.toArray⟩ : ByteArray)[0]? = some b := by rw [yfq, hbu]; rfl
   refine onx rfl (zn rfl (onx rfl (gl (j := 0) Tryd.underlying9 rfl rfl rfl hat (onx rfl (ye rfl rfl (za rfl (zw rfl rfl (rnx (zt rfl (fun h2 => ?_) (fun h2 => ?_))))))))))
   ·
    have h2 : b = 48 := UInt8.toNat_inj.1 (by have h7 := of_decide_eq_true h2; have h8 : (48 : UInt8).toNat = 48 := rfl; omega);have hul : u.length = u2.length + 1 := by rw [hbu]; rfl
    refine zk (ze (zy (zj (mvx rfl (za rfl (vg (l := 1) (h := u.length) Tryd.underlying9 rfl ⟨_, rfl⟩ (ve u).symm (by omega) (by rw [ve]; omega) (yc 50 (.string ⟨u2.toArray⟩) rfl ((by rw [zvv, List.take_length, hbu]; rfl : (.string ((⟨u.toArray⟩ : ByteArray).extract 1 u.length) : Value) = _)) (avx rfl (yd (zm ?_))))))))))
    exact yn u2 (by show u2.length < u.length; omega) ⟨rfl, rfl, rfl, rfl, trivial⟩ ⟨M7.step E XM7, (by exact Bb1), by rw [← hu1, hbu, h2, strip_zero], by omega⟩
   ·
    have h2 : b ≠ 48 := fun e => by rw [e] at h2; exact absurd h2 (by decide)
    refine yo (zh (zh (zu (ze (zf (srx (mvx rfl (za rfl (qc Tryd.underlying9 rfl (za rfl (qo rfl rfl (rnx ?_))))))))))));have hstr : gf r = u := by rw [← hu1]; exact by rw [hbu, strip_cons h2]
    have hal9 := zev hall;rw [hstr] at hal9;have hln9 := zok hall;rw [hstr] at hln9;have hnum : yy u = yy r := by rw [← hstr, om]
    refine zv 53 (.bool (decide ((540 : Int) < ((u.length : Nat) : Int)))) rfl (by rw [ve]) (zt rfl (fun h3 => ?_) (fun h3 => ?_))
    ·
     have h3 := of_decide_eq_true h3;have e1 : jk r = 2 := by unfold jk; rw [if_pos ⟨hr, hall⟩, if_neg (by omega)]
     have e2 : jz true r = 0 := by unfold jz; rw [if_neg (by rintro ⟨_, _, h⟩; omega)]
     refine srx (za rfl (vq (cs := #[.bool false, .slice none 0 0]) pl61 zr61 rfl rfl (yu (qu xh rfl rfl Bb1 rfl rfl (Nat.le_of_ble_eq_true rfl) ?_))));intro w9 Bx Eb1;replace Bb1 := Bx;replace E := E.step1 Eb1 Mut.head
     refine anx rfl (zr (zd (zq (rs := [.cell 2 61, .tmp 3]) (vs := [_, _]) rfl ⟨⟨_, rfl, jq Tryd.underlying61 rfl xh Bb1 rfl⟩, rfl, trivial⟩ ?_)));exact by rw [e1, e2]; exact jb (LW.step E XLW).toBelow
    ·
     have h3 := of_decide_eq_false h3;have e1 : jk r = 0 := by unfold jk; rw [if_pos ⟨hr, hall⟩, if_pos (by omega)]
     have e2 : jz true r = sgn true (yy r) := by unfold jz; rw [if_pos ⟨hr, hall, by omega⟩]
     refine zk (ze (srx (anx rfl (zf (srx (mvx rfl (za rfl (qc Tryd.underlying9 rfl (anx rfl (zy ?_))))))))));have Ol : World.ownsRow w8 w.heap.size 30 1 (.slice none 0 0) 0 ([]) := xc;have Dl_b1 : Apart ((Value.slice none 0 0).ownBlock) (some gb1) := fun _ e => by cases e
     have Db1_l := Dl_b1.symm;replace HF := HF.cons (gn);replace E := E.cons ((Value.slice none 0 0).ownBlock);replace XLW := Mut.grow XLW (fun k e => Or.inr (Nat.le_trans LW.size ((gn) k e)));replace XM3 := Mut.grow XM3 (fun k e => Or.inr (Nat.le_trans M3.size ((gn) k e)));replace XM7 := Mut.grow XM7 (fun k e => Or.inr (Nat.le_trans M7.size ((gn) k e)))
     refine zv 7 (.int .i64 ((u.length : Int) - 18 * ((0 : Nat) : Int))) rfl (by rw [ve]; simp) ?_;replace HF := HF.on E;replace LW := LW.step E XLW;replace M3 := M3.step E XM3;replace M7 := M7.step E XM7;replace E := erx (Mut [((Value.slice none 0 0).ownBlock), (some gb1)]) w8
     refine qq (ι := Nat × List Nat × Option Addr × Nat) (fun (k, xs, A1, c1) => [(0, .string ⟨u.toArray⟩), (2, .pointer (some ⟨gb1, 0, none⟩)), (3, .int .i64 0), (4, .bool true), (6, .slice A1 k c1), (7, .int .i64 ((u.length : Int) - 18 * (k : Int)))]) (fun (k, xs, A1, c1) w' => Ext (Mut [((Value.slice none 0 0).ownBlock), (some gb1)]) w8 w' ∧ World.ownsRow w' w.heap.size 30 1 (.slice A1 k c1) k (xs.map fun x : Nat => Value.int .u64 (x : Int)) ∧ Blk w' gb1 61 (#[.bool false, .slice none 0 0]) ∧ (∀ q9, ((Value.slice A1 k c1).ownBlock) = some q9 → ((Value.slice none 0 0).ownBlock) = some q9 ∨ w8.heap.size ≤ q9) ∧ (xs.length = k ∧ small B18 xs ∧ val B18 xs = yy (u.drop (u.length - 18 * k)) ∧ 18 * k ≤ u.length + 17)) (fun (k, xs, A1, c1) => u.length + 18 - 18 * k) (0, [], none, 0) ⟨rfl, rfl, rfl, rfl, rfl, rfl, trivial⟩ ⟨Ext.refl _ _, (by exact Ol), (by exact Bb1), (fun _ e => Or.inl e), ⟨rfl, zov, by rw [Nat.mul_zero, Nat.sub_zero, List.drop_length]; rfl, by omega⟩⟩ ?_
     have LTl := (vi Ol);have LTb1 := (yj Bb1.lt);clear Ol;rintro ⟨k, xs, A1, c1⟩ w11 ⟨M10, Ol, Bb1, KlM10, ⟨hk, hsm, hval, hkl⟩⟩;replace Dl_b1 : Apart ((Value.slice A1 k c1).ownBlock) (some gb1) := Dl_b1.turn KlM10 LTb1;replace Db1_l := Dl_b1.symm
     have XM10 : Gro (Mut [((Value.slice A1 k c1).ownBlock), (some gb1)]) (Mut [((Value.slice none 0 0).ownBlock), (some gb1)]) w8 := (Mut.grow (Mut.grow Mut.none_ (fun k e => Or.inl ((Mut.tail Mut.head) k e))) (fun k e => (KlM10 k e).elim (fun e => Or.inl (Mut.head k e)) Or.inr));replace E := E.trans M10;replace HF := HF.turn E XM10;have ZLW := LW.size
     have XT := fun q9 (h : (Mut [((Value.slice A1 k c1).ownBlock), (some gb1)]) q9) => (XM10 q9 h).elim (XLW q9) (fun h => Or.inr (Nat.le_trans LW.size h));replace LW := LW.step E XLW;replace XLW := XT;have ZM3 := M3.size;have XT := fun q9 (h : (Mut [((Value.slice A1 k c1).ownBlock), (some gb1)]) q9) => (XM10 q9 h).elim (XM3 q9) (fun h => Or.inr (Nat.le_trans M3.size h))
     replace M3 := M3.step E XM3;replace XM3 := XT;have ZM7 := M7.size;have XT := fun q9 (h : (Mut [((Value.slice A1 k c1).ownBlock), (some gb1)]) q9) => (XM10 q9 h).elim (XM7 q9) (fun h => Or.inr (Nat.le_trans M7.size h));replace M7 := M7.step E XM7;replace XM7 := XT;clear ZLW;clear ZM3;clear ZM7;replace E := erx (Mut [((Value.slice A1 k c1).ownBlock), (some gb1)]) w11;clear LTl;clear LTb1
     refine zf (srx (mvx rfl (za rfl (qo rfl rfl (rnx (zt rfl (fun q => ?_) (fun q => ?_)))))))
     ·
      have q := of_decide_eq_true q;obtain ⟨e, he⟩ : ∃ e : Nat, e = u.length - 18 * k := ⟨_, rfl⟩;have he0 : 0 < e := by omega
      have hel : e ≤ u.length := by omega
      refine zk (ze (zf (zy (srx (mvx rfl (mvx rfl (za rfl (yx rfl rfl (zo (by omega)) (za rfl (ow_max rfl rfl (yc 65 (.int .i64 ((e - 18 : Nat) : Int)) rfl ((by congr 1; split <;> omega : (.int .i64 (if (u.length : Int) - 18 * (k : Int) - 18 > 0 then (u.length : Int) - 18 * (k : Int) - 18 else 0) : Value) = _)) (mvx rfl (yc 66 (.int .i64 ((e : Nat) : Int)) rfl ((by rw [show (u.length : Int) - 18 * (k : Int) = ((e : Nat) : Int) by omega] : (.int .i64 ((u.length : Int) - 18 * (k : Int)) : Value) = _)) (za rfl (vg (l := e - 18) (h := e) Tryd.underlying9 rfl ⟨_, rfl⟩ ⟨_, rfl⟩ (Nat.sub_le _ _) (by rw [ve]; exact hel) (yc 67 (.string ⟨((u.take e).drop (e - 18)).toArray⟩) rfl ((by rw [zvv] : (.string ((⟨u.toArray⟩ : ByteArray).extract (e - 18) e) : Value) = _)) (za rfl (ya en23 rfl ((parseU _ _ (zyv he0 hel) (zpv hal9 e) (jv hal9 e) (zpk u e)).mono ?_)))))))))))))))))))
      rintro e w12 ⟨rfl, hb⟩;refine ⟨_, rfl, ?_⟩;have Ec := Ext.of_below hb No;replace Ol := jd Ol Ec NotIn.nil;replace Bb1 := Bb1.extN Ec NotIn.nil;replace E := E.trans Ec.no
      refine mvx rfl (za rfl (zz rfl rfl (za rfl (zz rfl rfl (avx rfl (anx rfl (zj (mvx rfl (mvx rfl (za rfl (qn (cs := #[.int .u64 ((yy ((u.take e).drop (e - 18)) : Nat) : Int)]) Tryd.underlying59 sz30 zr30 (by decide) rfl (by rw [vw]; rfl) ?_)))))))))));intro gb13 w14 Bb13 Eb13 Gb13
      have Db13_l : Apart (some gb13) ((Value.slice A1 k c1).ownBlock) := Apart.of_lt (vi Ol) Gb13;have Dl_b13 := Db13_l.symm;have Db13_b1 : Apart (some gb13) (some gb1) := Apart.of_lt (yj Bb1.lt) Gb13;have Db1_b13 := Db13_b1.symm;have Gb13 : _ ≤ gb13 := Nat.le_trans E.size Gb13;have GLb13 := Nat.le_trans LW.size Gb13;replace Ol := jd Ol Eb13 NotIn.nil
      replace Bb1 := Bb1.extN Eb13 NotIn.nil;replace E := E.trans Eb13.no;replace HF := HF.cons (yf Gb13);replace E := E.cons (some gb13);replace XLW := Mut.grow XLW (fun k e => Or.inr (Nat.le_trans LW.size ((yf Gb13) k e)));replace XM3 := Mut.grow XM3 (fun k e => Or.inr (Nat.le_trans M3.size ((yf Gb13) k e)))
      replace XM7 := Mut.grow XM7 (fun k e => Or.inr (Nat.le_trans M7.size ((yf Gb13) k e)));replace XM10 := Mut.grow XM10 (fun k e => Or.inr (Nat.le_trans M10.size ((yf Gb13) k e)));replace HF := HF.on E;replace LW := LW.step E XLW;replace M3 := M3.step E XM3;replace M7 := M7.step E XM7;replace M10 := M10.step E XM10
      have SB : ∀ q9, Mut [((Value.slice A1 k c1).ownBlock), (some gb1)] q9 → Mut [(some gb13), ((Value.slice A1 k c1).ownBlock), (some gb1)] q9 := (Mut.skip (Mut.keep (Mut.keep Mut.nil_)));replace HF := HF.less SB;replace XLW := fun k h => XLW k (SB k h);replace XM3 := fun k h => XM3 k (SB k h);replace XM7 := fun k h => XM7 k (SB k h);replace XM10 := fun k h => XM10 k (SB k h);clear SB
      replace E := erx (Mut [((Value.slice A1 k c1).ownBlock), (some gb1)]) w14;replace HF := HF.and (Per.blkN Bb13 (NotIn.cons Db13_l (NotIn.cons Db13_b1 NotIn.nil)))
      refine za rfl (ji (news := [.int .u64 ((yy ((u.take e).drop (e - 18)) : Nat) : Int)]) Tryd.underlying59 inf30 rfl (by decide) rfl Ol rfl (xl (HF.on E).here.2 ((HF.on E).here.2).lt rfl) (by simp [Value.oneCell']) (by unfold maxLen; omega) (by omega) (by exact Nat.le_trans LW.size E.size) ?_);intro v0 w15 On En KN;obtain ⟨A2, c2, rfl⟩ := vu On
      replace KN : ∀ q9, ((Value.slice A2 (k + 1) c2).ownBlock) = some q9 → ((Value.slice A1 k c1).ownBlock) = some q9 ∨ w14.heap.size ≤ q9 := KN;have LTb1 := (yj Bb1.lt);replace Bb1 := Bb1.extN En (NotIn.cons Db1_l NotIn.nil);replace Dl_b1 : Apart ((Value.slice A2 (k + 1) c2).ownBlock) (some gb1) := Dl_b1.turn KN LTb1;replace Db1_l := Dl_b1.symm;clear LTb1
      have HY : Gro (Mut [((Value.slice A2 (k + 1) c2).ownBlock), (some gb1)]) (Mut [((Value.slice A1 k c1).ownBlock), (some gb1)]) w14 := (Mut.grow (Mut.grow Mut.none_ (fun k e => Or.inl ((Mut.tail Mut.head) k e))) (fun k e => (KN k e).elim (fun e => Or.inl (Mut.head k e)) (fun h => Or.inr (Nat.le_trans E.size h))))
      replace KlM10 : ∀ q9, ((Value.slice A2 (k + 1) c2).ownBlock) = some q9 → ((Value.slice none 0 0).ownBlock) = some q9 ∨ w8.heap.size ≤ q9 := fun k e => (KN k e).elim (KlM10 k) (fun h => Or.inr (Nat.le_trans M10.size (Nat.le_trans E.size h)));replace E := E.step1 En Mut.head
      have XT := fun q9 (h : (Mut [((Value.slice A2 (k + 1) c2).ownBlock), (some gb1)]) q9) => (HY q9 h).elim (XLW q9) (fun h => Or.inr (Nat.le_trans LW.size h));have XT := fun q9 (h : (Mut [((Value.slice A2 (k + 1) c2).ownBlock), (some gb1)]) q9) => (HY q9 h).elim (XM3 q9) (fun h => Or.inr (Nat.le_trans M3.size h))
      have XT := fun q9 (h : (Mut [((Value.slice A2 (k + 1) c2).ownBlock), (some gb1)]) q9) => (HY q9 h).elim (XM7 q9) (fun h => Or.inr (Nat.le_trans M7.size h));have XT := fun q9 (h : (Mut [((Value.slice A2 (k + 1) c2).ownBlock), (some gb1)]) q9) => (HY q9 h).elim (XM10 q9) (fun h => Or.inr (Nat.le_trans M10.size h));replace M10 := M10.step E XM10;replace XM10 := XT
      replace E := erx (Mut [((Value.slice A2 (k + 1) c2).ownBlock), (some gb1)]) w15;clear HY;replace Ol : World.ownsRow w15 w.heap.size 30 1 (.slice A2 (k + 1) c2) (k + 1) ((xs ++ [yy ((u.take e).drop (e - 18))]).map fun x : Nat => Value.int .u64 (x : Int)) := by
       have e : ((xs.map fun x : Nat => Value.int .u64 (x : Int)) : List Value) ++ ([.int .u64 ((yy ((u.take e).drop (e - 18)) : Nat) : Int)] : List Value) = (xs ++ [yy ((u.take e).drop (e - 18))]).map fun x : Nat => Value.int .u64 (x : Int) := by simp
       rw [← e];exact On
      clear On KN En
      refine avx rfl (yd (zm (ze (zj (mvx rfl (za rfl (yx rfl rfl (zo (by omega)) (avx rfl (yd (yr 7 (.int .i64 ((u.length : Int) - 18 * ((k + 1 : Nat) : Int))) rfl ((by rw [show (u.length : Int) - 18 * (k : Int) - 18 = (u.length : Int) - 18 * ((k + 1 : Nat) : Int) by omega] : (.int .i64 (((u.length : Int) - 18 * (k : Int)) - 18) : Value) = _)) ?_))))))))))
      exact yn (k + 1, xs ++ [yy ((u.take e).drop (e - 18))], A2, c2) (by show u.length + 18 - 18 * (k + 1) < u.length + 18 - 18 * k; omega) ⟨rfl, rfl, rfl, rfl, rfl, rfl, trivial⟩ ⟨M10.step E XM10, (by exact Ol), (by exact Bb1), KlM10, by rw [List.length_append, hk]; rfl, zgv hsm (jv hal9 e), by rw [zrv hal9 hk (by omega : u.length = e + 18 * k) (by rw [hval, he]), show u.length - 18 * (k + 1) = e - 18 by omega], by omega⟩
     ·
      have q := of_decide_eq_false q;have hv9 : val B18 xs = yy r := by rw [hval, show u.length - 18 * k = 0 by omega, List.drop_zero, hnum]
      have Ol9 := Ol;have hown : Own w11 w.heap.size A1 c1 xs := ⟨by rw [hk]; exact Ol9, fun x hx => Nat.lt_trans (hsm x hx) (by decide)⟩;have hform : ∀ w', Nums w' A1 xs → Calls Tryd.prog 24 #[.bool true, .slice A1 k c1] w' (yix w' (sgn true (yy r))) := fun w' h => by
       have h9 := zzv true A1 c1 xs w' h hsm (by omega);rwa [hk, hv9] at h9
      replace HF := HF.on E;replace LW := LW.step E XLW;have SB : ∀ q9, Mut [(some gb1)] q9 → Mut [((Value.slice A1 k c1).ownBlock), (some gb1)] q9 := (Mut.skip (Mut.keep Mut.nil_));replace HF := HF.less SB;replace XLW := fun k h => XLW k (SB k h);clear SB;replace E := erx (Mut [(some gb1)]) w11;replace HF := HF.and (Per.ownsN Ol (NotIn.cons Dl_b1 NotIn.nil));clear Ol;replace HF := HF.on E
      replace LW := LW.step E XLW;replace E := erx (Mut [(some gb1)]) w11;replace HF := HF.and (Per.ownN hown (NotIn.cons (kw hown Bb1 (by decide)) NotIn.nil));refine yo (zh (zh (zu (ze (srx (mvx rfl (mvx rfl (za rfl (ya en24 rfl ((hform _ ((HF.on E).here.2).nums).mono ?_))))))))));rintro e w16 ⟨A2, c2, rfl, o2, hb⟩;refine ⟨_, rfl, ?_⟩
      have SC := Nat.le_trans LW.size E.size;have Ec := Ext.of_below hb No;replace Bb1 := Bb1.extN Ec NotIn.nil;replace E := E.trans Ec.no;have S2 := SC;replace HF := HF.on E;replace LW := LW.step E XLW;replace E := erx (Mut [(some gb1)]) w16;replace HF := HF.and (Per.ownN o2 (NotIn.cons (kw o2 Bb1 (by decide)) NotIn.nil))
      refine yu (qu xh rfl rfl Bb1 rfl rfl (Nat.le_of_ble_eq_true rfl) ?_);intro w17 Bx Eb1;replace Bb1 := Bx;replace E := E.step1 Eb1 Mut.head;replace HF := HF.on E;replace LW := LW.step E XLW;have SB : ∀ q9, No q9 → Mut [(some gb1)] q9 := (Mut.skip Mut.nil_);replace HF := HF.less SB;replace XLW := fun k h => XLW k (SB k h);clear SB;replace E := erx (No) w17
      replace HF := HF.and (Per.blkN Bb1 NotIn.nil);refine anx rfl (zr (zq (rs := [.cell 2 61, .tmp 3]) (vs := [_, _]) rfl ⟨⟨_, rfl, jq Tryd.underlying61 rfl xh (HF.on E).here.2 rfl⟩, rfl, trivial⟩ ?_));exact by rw [e1, e2]; exact ⟨A2, c2, rfl, ((HF.on E).here.1.2).mono S2, (LW.step E XLW).toBelow⟩
  ·
   have h := of_decide_eq_false h;have hu0 : u = [] := by cases u with | nil => rfl | cons b u2 => simp at h
   refine za rfl (zc rfl (za rfl (zc rfl (za rfl (zc rfl (za rfl (yb rfl rfl (rnx (zx rfl (yo (zh (zh (zu (ze (zf (srx (mvx rfl (za rfl (qc Tryd.underlying9 rfl (za rfl (qo rfl rfl (rnx ?_))))))))))))))))))))));have hstr : gf r = u := by rw [← hu1]; exact by rw [hu0]; rfl
   have hal9 := zev hall;rw [hstr] at hal9;have hln9 := zok hall;rw [hstr] at hln9;have hnum : yy u = yy r := by rw [← hstr, om]
   refine zv 53 (.bool (decide ((540 : Int) < ((u.length : Nat) : Int)))) rfl (by rw [ve]) (zt rfl (fun h3 => ?_) (fun h3 => ?_))
   ·
    have h3 := of_decide_eq_true h3;have e1 : jk r = 2 := by unfold jk; rw [if_pos ⟨hr, hall⟩, if_neg (by omega)]
    have e2 : jz true r = 0 := by unfold jz; rw [if_neg (by rintro ⟨_, _, h⟩; omega)]
    refine srx (za rfl (vq (cs := #[.bool false, .slice none 0 0]) pl61 zr61 rfl rfl (yu (qu xh rfl rfl Bb1 rfl rfl (Nat.le_of_ble_eq_true rfl) ?_))));intro w18 Bx Eb1;replace Bb1 := Bx;replace E := E.step1 Eb1 Mut.head
    refine anx rfl (zr (zd (zq (rs := [.cell 2 61, .tmp 3]) (vs := [_, _]) rfl ⟨⟨_, rfl, jq Tryd.underlying61 rfl xh Bb1 rfl⟩, rfl, trivial⟩ ?_)));exact by rw [e1, e2]; exact jb (LW.step E XLW).toBelow
   ·
    have h3 := of_decide_eq_false h3;have e1 : jk r = 0 := by unfold jk; rw [if_pos ⟨hr, hall⟩, if_pos (by omega)]
    have e2 : jz true r = sgn true (yy r) := by unfold jz; rw [if_pos ⟨hr, hall, by omega⟩]
    refine zk (ze (srx (anx rfl (zf (srx (mvx rfl (za rfl (qc Tryd.underlying9 rfl (anx rfl (zy ?_))))))))));have Ol : World.ownsRow w8 w.heap.size 30 1 (.slice none 0 0) 0 ([]) := xc;have Dl_b1 : Apart ((Value.slice none 0 0).ownBlock) (some gb1) := fun _ e => by cases e
    have Db1_l := Dl_b1.symm;replace HF := HF.cons (gn);replace E := E.cons ((Value.slice none 0 0).ownBlock);replace XLW := Mut.grow XLW (fun k e => Or.inr (Nat.le_trans LW.size ((gn) k e)));replace XM3 := Mut.grow XM3 (fun k e => Or.inr (Nat.le_trans M3.size ((gn) k e)));replace XM7 := Mut.grow XM7 (fun k e => Or.inr (Nat.le_trans M7.size ((gn) k e)))
    refine zv 7 (.int .i64 ((u.length : Int) - 18 * ((0 : Nat) : Int))) rfl (by rw [ve]; simp) ?_;replace HF := HF.on E;replace LW := LW.step E XLW;replace M3 := M3.step E XM3;replace M7 := M7.step E XM7;replace E := erx (Mut [((Value.slice none 0 0).ownBlock), (some gb1)]) w8
    refine qq (ι := Nat × List Nat × Option Addr × Nat) (fun (k, xs, A1, c1) => [(0, .string ⟨u.toArray⟩), (2, .pointer (some ⟨gb1, 0, none⟩)), (3, .int .i64 0), (4, .bool true), (6, .slice A1 k c1), (7, .int .i64 ((u.length : Int) - 18 * (k : Int)))]) (fun (k, xs, A1, c1) w' => Ext (Mut [((Value.slice none 0 0).ownBlock), (some gb1)]) w8 w' ∧ World.ownsRow w' w.heap.size 30 1 (.slice A1 k c1) k (xs.map fun x : Nat => Value.int .u64 (x : Int)) ∧ Blk w' gb1 61 (#[.bool false, .slice none 0 0]) ∧ (∀ q9, ((Value.slice A1 k c1).ownBlock) = some q9 → ((Value.slice none 0 0).ownBlock) = some q9 ∨ w8.heap.size ≤ q9) ∧ (xs.length = k ∧ small B18 xs ∧ val B18 xs = yy (u.drop (u.length - 18 * k)) ∧ 18 * k ≤ u.length + 17)) (fun (k, xs, A1, c1) => u.length + 18 - 18 * k) (0, [], none, 0) ⟨rfl, rfl, rfl, rfl, rfl, rfl, trivial⟩ ⟨Ext.refl _ _, (by exact Ol), (by exact Bb1), (fun _ e => Or.inl e), ⟨rfl, zov, by rw [Nat.mul_zero, Nat.sub_zero, List.drop_length]; rfl, by omega⟩⟩ ?_
    have LTl := (vi Ol);have LTb1 := (yj Bb1.lt);clear Ol;rintro ⟨k, xs, A1, c1⟩ w20 ⟨M19, Ol, Bb1, KlM19, ⟨hk, hsm, hval, hkl⟩⟩;replace Dl_b1 : Apart ((Value.slice A1 k c1).ownBlock) (some gb1) := Dl_b1.turn KlM19 LTb1;replace Db1_l := Dl_b1.symm
    have XM19 : Gro (Mut [((Value.slice A1 k c1).ownBlock), (some gb1)]) (Mut [((Value.slice none 0 0).ownBlock), (some gb1)]) w8 := (Mut.grow (Mut.grow Mut.none_ (fun k e => Or.inl ((Mut.tail Mut.head) k e))) (fun k e => (KlM19 k e).elim (fun e => Or.inl (Mut.head k e)) Or.inr));replace E := E.trans M19;replace HF := HF.turn E XM19;have ZLW := LW.size
    have XT := fun q9 (h : (Mut [((Value.slice A1 k c1).ownBlock), (some gb1)]) q9) => (XM19 q9 h).elim (XLW q9) (fun h => Or.inr (Nat.le_trans LW.size h));replace LW := LW.step E XLW;replace XLW := XT;have ZM3 := M3.size;have XT := fun q9 (h : (Mut [((Value.slice A1 k c1).ownBlock), (some gb1)]) q9) => (XM19 q9 h).elim (XM3 q9) (fun h => Or.inr (Nat.le_trans M3.size h))
    replace M3 := M3.step E XM3;replace XM3 := XT;have ZM7 := M7.size;have XT := fun q9 (h : (Mut [((Value.slice A1 k c1).ownBlock), (some gb1)]) q9) => (XM19 q9 h).elim (XM7 q9) (fun h => Or.inr (Nat.le_trans M7.size h));replace M7 := M7.step E XM7;replace XM7 := XT;clear ZLW;clear ZM3;clear ZM7;replace E := erx (Mut [((Value.slice A1 k c1).ownBlock), (some gb1)]) w20;clear LTl;clear LTb1
    refine zf (srx (mvx rfl (za rfl (qo rfl rfl (rnx (zt rfl (fun q => ?_) (fun q => ?_)))))))
    ·
     have q := of_decide_eq_true q;obtain ⟨e, he⟩ : ∃ e : Nat, e = u.length - 18 * k := ⟨_, rfl⟩;have he0 : 0 < e := by omega
     have hel : e ≤ u.length := by omega
     refine zk (ze (zf (zy (srx (mvx rfl (mvx rfl (za rfl (yx rfl rfl (zo (by omega)) (za rfl (ow_max rfl rfl (yc 65 (.int .i64 ((e - 18 : Nat) : Int)) rfl ((by congr 1; split <;> omega : (.int .i64 (if (u.length : Int) - 18 * (k : Int) - 18 > 0 then (u.length : Int) - 18 * (k : Int) - 18 else 0) : Value) = _)) (mvx rfl (yc 66 (.int .i64 ((e : Nat) : Int)) rfl ((by rw [show (u.length : Int) - 18 * (k : Int) = ((e : Nat) : Int) by omega] : (.int .i64 ((u.length : Int) - 18 * (k : Int)) : Value) = _)) (za rfl (vg (l := e - 18) (h := e) Tryd.underlying9 rfl ⟨_, rfl⟩ ⟨_, rfl⟩ (Nat.sub_le _ _) (by rw [ve]; exact hel) (yc 67 (.string ⟨((u.take e).drop (e - 18)).toArray⟩) rfl ((by rw [zvv] : (.string ((⟨u.toArray⟩ : ByteArray).extract (e - 18) e) : Value) = _)) (za rfl (ya en23 rfl ((parseU _ _ (zyv he0 hel) (zpv hal9 e) (jv hal9 e) (zpk u e)).mono ?_)))))))))))))))))))
     rintro e w21 ⟨rfl, hb⟩;refine ⟨_, rfl, ?_⟩;have Ec := Ext.of_below hb No;replace Ol := jd Ol Ec NotIn.nil;replace Bb1 := Bb1.extN Ec NotIn.nil;replace E := E.trans Ec.no
     refine mvx rfl (za rfl (zz rfl rfl (za rfl (zz rfl rfl (avx rfl (anx rfl (zj (mvx rfl (mvx rfl (za rfl (qn (cs := #[.int .u64 ((yy ((u.take e).drop (e - 18)) : Nat) : Int)]) Tryd.underlying59 sz30 zr30 (by decide) rfl (by rw [vw]; rfl) ?_)))))))))));intro gb22 w23 Bb22 Eb22 Gb22
     have Db22_l : Apart (some gb22) ((Value.slice A1 k c1).ownBlock) := Apart.of_lt (vi Ol) Gb22;have Dl_b22 := Db22_l.symm;have Db22_b1 : Apart (some gb22) (some gb1) := Apart.of_lt (yj Bb1.lt) Gb22;have Db1_b22 := Db22_b1.symm;have Gb22 : _ ≤ gb22 := Nat.le_trans E.size Gb22;have GLb22 := Nat.le_trans LW.size Gb22;replace Ol := jd Ol Eb22 NotIn.nil
     replace Bb1 := Bb1.extN Eb22 NotIn.nil;replace E := E.trans Eb22.no;replace HF := HF.cons (yf Gb22);replace E := E.cons (some gb22);replace XLW := Mut.grow XLW (fun k e => Or.inr (Nat.le_trans LW.size ((yf Gb22) k e)));replace XM3 := Mut.grow XM3 (fun k e => Or.inr (Nat.le_trans M3.size ((yf Gb22) k e)))
     replace XM7 := Mut.grow XM7 (fun k e => Or.inr (Nat.le_trans M7.size ((yf Gb22) k e)));replace XM19 := Mut.grow XM19 (fun k e => Or.inr (Nat.le_trans M19.size ((yf Gb22) k e)));replace HF := HF.on E;replace LW := LW.step E XLW;replace M3 := M3.step E XM3;replace M7 := M7.step E XM7;replace M19 := M19.step E XM19
     have SB : ∀ q9, Mut [((Value.slice A1 k c1).ownBlock), (some gb1)] q9 → Mut [(some gb22), ((Value.slice A1 k c1).ownBlock), (some gb1)] q9 := (Mut.skip (Mut.keep (Mut.keep Mut.nil_)));replace HF := HF.less SB;replace XLW := fun k h => XLW k (SB k h);replace XM3 := fun k h => XM3 k (SB k h);replace XM7 := fun k h => XM7 k (SB k h);replace XM19 := fun k h => XM19 k (SB k h);clear SB
     replace E := erx (Mut [((Value.slice A1 k c1).ownBlock), (some gb1)]) w23;replace HF := HF.and (Per.blkN Bb22 (NotIn.cons Db22_l (NotIn.cons Db22_b1 NotIn.nil)))
     refine za rfl (ji (news := [.int .u64 ((yy ((u.take e).drop (e - 18)) : Nat) : Int)]) Tryd.underlying59 inf30 rfl (by decide) rfl Ol rfl (xl (HF.on E).here.2 ((HF.on E).here.2).lt rfl) (by simp [Value.oneCell']) (by unfold maxLen; omega) (by omega) (by exact Nat.le_trans LW.size E.size) ?_);intro v0 w24 On En KN;obtain ⟨A2, c2, rfl⟩ := vu On
     replace KN : ∀ q9, ((Value.slice A2 (k + 1) c2).ownBlock) = some q9 → ((Value.slice A1 k c1).ownBlock) = some q9 ∨ w23.heap.size ≤ q9 := KN;have LTb1 := (yj Bb1.lt);replace Bb1 := Bb1.extN En (NotIn.cons Db1_l NotIn.nil);replace Dl_b1 : Apart ((Value.slice A2 (k + 1) c2).ownBlock) (some gb1) := Dl_b1.turn KN LTb1;replace Db1_l := Dl_b1.symm;clear LTb1
     have HY : Gro (Mut [((Value.slice A2 (k + 1) c2).ownBlock), (some gb1)]) (Mut [((Value.slice A1 k c1).ownBlock), (some gb1)]) w23 := (Mut.grow (Mut.grow Mut.none_ (fun k e => Or.inl ((Mut.tail Mut.head) k e))) (fun k e => (KN k e).elim (fun e => Or.inl (Mut.head k e)) (fun h => Or.inr (Nat.le_trans E.size h))))
     replace KlM19 : ∀ q9, ((Value.slice A2 (k + 1) c2).ownBlock) = some q9 → ((Value.slice none 0 0).ownBlock) = some q9 ∨ w8.heap.size ≤ q9 := fun k e => (KN k e).elim (KlM19 k) (fun h => Or.inr (Nat.le_trans M19.size (Nat.le_trans E.size h)));replace E := E.step1 En Mut.head
     have XT := fun q9 (h : (Mut [((Value.slice A2 (k + 1) c2).ownBlock), (some gb1)]) q9) => (HY q9 h).elim (XLW q9) (fun h => Or.inr (Nat.le_trans LW.size h));have XT := fun q9 (h : (Mut [((Value.slice A2 (k + 1) c2).ownBlock), (some gb1)]) q9) => (HY q9 h).elim (XM3 q9) (fun h => Or.inr (Nat.le_trans M3.size h))
     have XT := fun q9 (h : (Mut [((Value.slice A2 (k + 1) c2).ownBlock), (some gb1)]) q9) => (HY q9 h).elim (XM7 q9) (fun h => Or.inr (Nat.le_trans M7.size h));have XT := fun q9 (h : (Mut [((Value.slice A2 (k + 1) c2).ownBlock), (some gb1)]) q9) => (HY q9 h).elim (XM19 q9) (fun h => Or.inr (Nat.le_trans M19.size h));replace M19 := M19.step E XM19;replace XM19 := XT
     replace E := erx (Mut [((Value.slice A2 (k + 1) c2).ownBlock), (some gb1)]) w24;clear HY;replace Ol : World.ownsRow w24 w.heap.size 30 1 (.slice A2 (k + 1) c2) (k + 1) ((xs ++ [yy ((u.take e).drop (e - 18))]).map fun x : Nat => Value.int .u64 (x : Int)) := by
      have e : ((xs.map fun x : Nat => Value.int .u64 (x : Int)) : List Value) ++ ([.int .u64 ((yy ((u.take e).drop (e - 18)) : Nat) : Int)] : List Value) = (xs ++ [yy ((u.take e).drop (e - 18))]).map fun x : Nat => Value.int .u64 (x : Int) := by simp
      rw [← e];exact On
     clear On KN En
     refine avx rfl (yd (zm (ze (zj (mvx rfl (za rfl (yx rfl rfl (zo (by omega)) (avx rfl (yd (yr 7 (.int .i64 ((u.length : Int) - 18 * ((k + 1 : Nat) : Int))) rfl ((by rw [show (u.length : Int) - 18 * (k : Int) - 18 = (u.length : Int) - 18 * ((k + 1 : Nat) : Int) by omega] : (.int .i64 (((u.length : Int) - 18 * (k : Int)) - 18) : Value) = _)) ?_))))))))))
     exact yn (k + 1, xs ++ [yy ((u.take e).drop (e - 18))], A2, c2) (by show u.length + 18 - 18 * (k + 1) < u.length + 18 - 18 * k; omega) ⟨rfl, rfl, rfl, rfl, rfl, rfl, trivial⟩ ⟨M19.step E XM19, (by exact Ol), (by exact Bb1), KlM19, by rw [List.length_append, hk]; rfl, zgv hsm (jv hal9 e), by rw [zrv hal9 hk (by omega : u.length = e + 18 * k) (by rw [hval, he]), show u.length - 18 * (k + 1) = e - 18 by omega], by omega⟩
    ·
     have q := of_decide_eq_false q;have hv9 : val B18 xs = yy r := by rw [hval, show u.length - 18 * k = 0 by omega, List.drop_zero, hnum]
     have Ol9 := Ol;have hown : Own w20 w.heap.size A1 c1 xs := ⟨by rw [hk]; exact Ol9, fun x hx => Nat.lt_trans (hsm x hx) (by decide)⟩;have hform : ∀ w', Nums w' A1 xs → Calls Tryd.prog 24 #[.bool true, .slice A1 k c1] w' (yix w' (sgn true (yy r))) := fun w' h => by
      have h9 := zzv true A1 c1 xs w' h hsm (by omega);rwa [hk, hv9] at h9
     replace HF := HF.on E;replace LW := LW.step E XLW;have SB : ∀ q9, Mut [(some gb1)] q9 → Mut [((Value.slice A1 k c1).ownBlock), (some gb1)] q9 := (Mut.skip (Mut.keep Mut.nil_));replace HF := HF.less SB;replace XLW := fun k h => XLW k (SB k h);clear SB;replace E := erx (Mut [(some gb1)]) w20;replace HF := HF.and (Per.ownsN Ol (NotIn.cons Dl_b1 NotIn.nil));clear Ol;replace HF := HF.on E
     replace LW := LW.step E XLW;replace E := erx (Mut [(some gb1)]) w20;replace HF := HF.and (Per.ownN hown (NotIn.cons (kw hown Bb1 (by decide)) NotIn.nil));refine yo (zh (zh (zu (ze (srx (mvx rfl (mvx rfl (za rfl (ya en24 rfl ((hform _ ((HF.on E).here.2).nums).mono ?_))))))))));rintro e w25 ⟨A2, c2, rfl, o2, hb⟩;refine ⟨_, rfl, ?_⟩
     have SC := Nat.le_trans LW.size E.size;have Ec := Ext.of_below hb No;replace Bb1 := Bb1.extN Ec NotIn.nil;replace E := E.trans Ec.no;have S2 := SC;replace HF := HF.on E;replace LW := LW.step E XLW;replace E := erx (Mut [(some gb1)]) w25;replace HF := HF.and (Per.ownN o2 (NotIn.cons (kw o2 Bb1 (by decide)) NotIn.nil))
     refine yu (qu xh rfl rfl Bb1 rfl rfl (Nat.le_of_ble_eq_true rfl) ?_);intro w26 Bx Eb1;replace Bb1 := Bx;replace E := E.step1 Eb1 Mut.head;replace HF := HF.on E;replace LW := LW.step E XLW;have SB : ∀ q9, No q9 → Mut [(some gb1)] q9 := (Mut.skip Mut.nil_);replace HF := HF.less SB;replace XLW := fun k h => XLW k (SB k h);clear SB;replace E := erx (No) w26
     replace HF := HF.and (Per.blkN Bb1 NotIn.nil);refine anx rfl (zr (zq (rs := [.cell 2 61, .tmp 3]) (vs := [_, _]) rfl ⟨⟨_, rfl, jq Tryd.underlying61 rfl xh (HF.on E).here.2 rfl⟩, rfl, trivial⟩ ?_));exact by rw [e1, e2]; exact ⟨A2, c2, rfl, ((HF.on E).here.1.2).mono S2, (LW.step E XLW).toBelow⟩
theorem wparse_pos (hr : r ≠ []) (h45 : r.head? ≠ some 45) (hs : r.length ≤ 140737488355328) : Calls Tryd.prog 20 #[.string ⟨r.toArray⟩] w (kk w (jz false r) (jk r)) := by
 obtain ⟨b0, hb0⟩ : ∃ b, r.head? = some b := by cases r with | nil => exact absurd rfl hr | cons b _ => exact ⟨b, rfl⟩
 have hat0 : (⟨r.toArray⟩ : ByteArray)[0]? = some b0 := by rw [yfq]; cases r with | nil => cases hb0 | cons b _ => simpa using hb0
 have hne : b0.toNat ≠ 45 := fun e => h45 (by rw [hb0, show b0 = 45 from UInt8.toNat_inj.1 e]);have hpos : (0 : Int) < ((⟨r.toArray⟩ : ByteArray).size : Int) := by rw [ve]; have h2 := List.length_pos_iff.2 hr; omega
 refine yk Tryd.func20 rfl Tryd.ntmps20 rfl ?_;have HF : Per (No) w (fun _ => True) := Per.true_;have LW := erx (No) w;have XLW := grx (No) w;have E := erx (No) w;refine srx (za rfl (va zr61 ?_));intro gb1 w2 Bb1 Eb1 Gb1;have Gb1 : _ ≤ gb1 := Nat.le_trans E.size Gb1;have GLb1 := Nat.le_trans LW.size Gb1;replace E := E.trans Eb1.no;replace HF := HF.cons (yf Gb1)
 replace E := E.cons (some gb1);replace XLW := Mut.grow XLW (fun k e => Or.inr (Nat.le_trans LW.size ((yf Gb1) k e)))
 refine anx rfl (srx (mvx rfl (za rfl (qc Tryd.underlying9 rfl (za rfl (qo rfl rfl (mvx rfl (yc 13 (.bool true) rfl (by rw [decide_eq_true hpos]) (onx rfl (zn rfl (onx rfl (gl (j := 0) Tryd.underlying9 rfl rfl rfl hat0 (onx rfl (ye rfl rfl (za rfl (zw rfl rfl (anx rfl (zf (srx (mvx rfl (rnx (zv 4 (.bool false) rfl ((by rw [beq_eq_false_iff_ne.2 (by omega)] : (.bool (((b0.toNat : Nat) : Int) == 45) : Value) = _)) (zv 18 (.bool false) rfl ((by rw [beq_eq_false_iff_ne.2 (by omega)] : (.bool (((b0.toNat : Nat) : Int) == 45) : Value) = _)) (zx rfl (zk (ze (zf (srx (mvx rfl (za rfl (oh rfl rfl (rnx ?_))))))))))))))))))))))))))))))))
 have hne0 : (⟨r.toArray⟩ : ByteArray).toList ≠ (⟨#[]⟩ : ByteArray).toList := by rw [yok, show (⟨#[]⟩ : ByteArray).toList = [] from yok []]; exact hr
 refine zv 22 (.bool false) rfl (by rw [beq_eq_false_iff_ne.2 hne0]) (zx rfl (zk (ze (zf (srx (mvx rfl (za rfl (qc Tryd.underlying9 rfl (mvx rfl (rnx (zy (zv 25 (.int .i64 ((r.length : Nat) : Int)) rfl (by rw [ve]) (zv 26 (.int .i64 ((0 : Nat) : Int)) rfl ((by rfl : (.int .i64 0 : Value) = _)) ?_)))))))))))));replace HF := HF.on E
 replace LW := LW.step E XLW;replace E := erx (Mut [(some gb1)]) w2
 refine qq (ι := Nat) (fun k => [(0, .string ⟨r.toArray⟩), (2, .pointer (some ⟨gb1, 0, none⟩)), (3, .int .i64 0), (4, .bool false), (25, .int .i64 ((r.length : Nat) : Int)), (26, .int .i64 (k : Int))]) (fun k w' => Ext (Mut [(some gb1)]) w2 w' ∧ Blk w' gb1 61 (#[.bool false, .slice none 0 0]) ∧ (k ≤ r.length ∧ (r.take k).all qz = true)) (fun k => r.length - k) 0 ⟨rfl, rfl, rfl, rfl, rfl, rfl, trivial⟩ ⟨Ext.refl _ _, (by exact Bb1), ⟨Nat.zero_le _, rfl⟩⟩ ?_
 have LTb1 := (yj Bb1.lt);rintro k w4 ⟨M3, Bb1, ⟨hk, hall⟩⟩;have XM3 : Gro (Mut [(some gb1)]) (Mut [(some gb1)]) w2 := (Mut.grow Mut.none_ (fun k e => Or.inl (Mut.head k e)));replace E := E.trans M3;replace HF := HF.on E;replace LW := LW.step E XLW;replace E := erx (Mut [(some gb1)]) w4;clear LTb1
 refine srx (za rfl (yv rfl rfl (rnx (zf (zt rfl (fun q => ?_) (fun q => ?_))))))
 ·
  have q := of_decide_eq_true q;have hk1 : k < r.length := by omega
  obtain ⟨b, hb9⟩ : ∃ b, r[k]? = some b := ⟨_, List.getElem?_eq_getElem hk1⟩;have hat : (⟨r.toArray⟩ : ByteArray)[k]? = some b := by rw [yfq]; exact hb9
  refine zk (ze (zf (zy (srx (mvx rfl (anx rfl (srx (mvx rfl (mvx rfl (za rfl (gl (j := k) Tryd.underlying9 rfl rfl rfl hat (za rfl (yv rfl rfl (mvx rfl (yp 33 rfl (fun h => ?_) (fun h => ?_))))))))))))))))
  ·
   have h := of_decide_eq_true h;obtain ⟨e1, e2⟩ := zwv (neg := false) (ymv hb9 (by unfold qz; simp; omega))
   refine za rfl (zc rfl (za rfl (zc rfl (za rfl (zc rfl (za rfl (zc rfl (za rfl (zw rfl rfl (rnx (ym rfl (srx (za rfl (vq (cs := #[.bool false, .slice none 0 0]) pl61 zr61 rfl rfl (yu (qu xh rfl rfl Bb1 rfl rfl (Nat.le_of_ble_eq_true rfl) ?_))))))))))))))));intro w5 Bx Eb1;replace Bb1 := Bx;replace E := E.step1 Eb1 Mut.head
   refine anx rfl (zr (zp (zd (zd (zp (zd (zq (rs := [.cell 2 61, .tmp 3]) (vs := [_, _]) rfl ⟨⟨_, rfl, jq Tryd.underlying61 rfl xh Bb1 rfl⟩, rfl, trivial⟩ ?_)))))));exact by rw [e1, e2]; exact jb (LW.step E XLW).toBelow
  ·
   have h := of_decide_eq_false h;refine onx rfl (zn rfl (onx rfl (zn rfl (onx rfl (gl (j := k) Tryd.underlying9 rfl rfl rfl hat (onx rfl (qo rfl rfl (za rfl (yb rfl rfl (rnx (zt rfl (fun h2 => ?_) (fun h2 => ?_))))))))))))
   ·
    have h2 := of_decide_eq_true h2;obtain ⟨e1, e2⟩ := zwv (neg := false) (ymv hb9 (by unfold qz; simp; omega));refine srx (za rfl (vq (cs := #[.bool false, .slice none 0 0]) pl61 zr61 rfl rfl (yu (qu xh rfl rfl Bb1 rfl rfl (Nat.le_of_ble_eq_true rfl) ?_))));intro w6 Bx Eb1;replace Bb1 := Bx;replace E := E.step1 Eb1 Mut.head
    refine anx rfl (zr (zp (zd (zd (zp (zd (zq (rs := [.cell 2 61, .tmp 3]) (vs := [_, _]) rfl ⟨⟨_, rfl, jq Tryd.underlying61 rfl xh Bb1 rfl⟩, rfl, trivial⟩ ?_)))))));exact by rw [e1, e2]; exact jb (LW.step E XLW).toBelow
   ·
    have h2 := of_decide_eq_false h2;have hdig : qz b = true := dig_of (by omega) (by omega);refine zk (zm (ze (zj (za rfl (yh rfl rfl (zo (by omega)) (mvx rfl (yd (yr 26 (.int .i64 ((k + 1 : Nat) : Int)) rfl ((by rfl : (.int .i64 ((k : Int) + 1) : Value) = _)) ?_))))))))
    exact yn (k + 1) (by show r.length - (k + 1) < r.length - k; omega) ⟨rfl, rfl, rfl, rfl, rfl, rfl, trivial⟩ ⟨M3.step E XM3, (by exact Bb1), by omega, all_get hb9 hall hdig⟩
 ·
  have q := of_decide_eq_false q;obtain rfl : k = r.length := by omega
  rw [List.take_length] at hall;refine yo (zh (zh (zu (ze (zf (zy ?_))))));replace HF := HF.on E;replace LW := LW.step E XLW;replace M3 := M3.step E XM3;replace E := erx (Mut [(some gb1)]) w4
  refine qq (ι := List UInt8) (fun u => [(0, .string ⟨u.toArray⟩), (2, .pointer (some ⟨gb1, 0, none⟩)), (3, .int .i64 0), (4, .bool false)]) (fun u w' => Ext (Mut [(some gb1)]) w4 w' ∧ Blk w' gb1 61 (#[.bool false, .slice none 0 0]) ∧ (gf u = gf r ∧ u.length ≤ r.length)) (fun u => u.length) r ⟨rfl, rfl, rfl, rfl, trivial⟩ ⟨Ext.refl _ _, (by exact Bb1), ⟨rfl, Nat.le_refl _⟩⟩ ?_
  have LTb1 := (yj Bb1.lt);rintro u w8 ⟨M7, Bb1, ⟨hu1, hu2⟩⟩;have XM7 : Gro (Mut [(some gb1)]) (Mut [(some gb1)]) w4 := (Mut.grow Mut.none_ (fun k e => Or.inl (Mut.head k e)));replace E := E.trans M7;replace HF := HF.on E;replace LW := LW.step E XLW;replace M3 := M3.step E XM3;replace E := erx (Mut [(some gb1)]) w8;clear LTb1
  refine zf (srx (mvx rfl (za rfl (qc Tryd.underlying9 rfl (za rfl (qo rfl rfl (mvx rfl (yc 44 (.bool (decide ((0 : Int) < ((u.length : Nat) : Int)))) rfl (by rw [ve]) (yp 44 rfl (fun h => ?_) (fun h => ?_))))))))))
  ·
   have h := of_decide_eq_true h;obtain ⟨b, u2, hbu⟩ : ∃ b u2, u = b :: u2 := by cases u with | nil => simp at h | cons b u2 => exact ⟨b, u2, rfl⟩
   have hat : (⟨u.toArray⟩ : ByteArray)[0]? = some b := by rw [yfq, hbu]; rfl
   refine onx rfl (zn rfl (onx rfl (gl (j := 0) Tryd.underlying9 rfl rfl rfl hat (onx rfl (ye rfl rfl (za rfl (zw rfl rfl (rnx (zt rfl (fun h2 => ?_) (fun h2 => ?_))))))))))
   ·
    have h2 : b = 48 := UInt8.toNat_inj.1 (by have h7 := of_decide_eq_true h2; have h8 : (48 : UInt8).toNat = 48 := rfl; omega);have hul : u.length = u2.length + 1 := by rw [hbu]; rfl
    refine zk (ze (zy (zj (mvx rfl (za rfl (vg (l := 1) (h := u.length) Tryd.underlying9 rfl ⟨_, rfl⟩ (ve u).symm (by omega) (by rw [ve]; omega) (yc 50 (.string ⟨u2.toArray⟩) rfl ((by rw [zvv, List.take_length, hbu]; rfl : (.string ((⟨u.toArray⟩ : ByteArray).extract 1 u.length) : Value) = _)) (avx rfl (yd (zm ?_))))))))))
    exact yn u2 (by show u2.length < u.length; omega) ⟨rfl, rfl, rfl, rfl, trivial⟩ ⟨M7.step E XM7, (by exact Bb1), by rw [← hu1, hbu, h2, strip_zero], by omega⟩
   ·
    have h2 : b ≠ 48 := fun e => by rw [e] at h2; exact absurd h2 (by decide)
    refine yo (zh (zh (zu (ze (zf (srx (mvx rfl (za rfl (qc Tryd.underlying9 rfl (za rfl (qo rfl rfl (rnx ?_))))))))))));have hstr : gf r = u := by rw [← hu1]; exact by rw [hbu, strip_cons h2]
    have hal9 := zev hall;rw [hstr] at hal9;have hln9 := zok hall;rw [hstr] at hln9;have hnum : yy u = yy r := by rw [← hstr, om]
    refine zv 53 (.bool (decide ((540 : Int) < ((u.length : Nat) : Int)))) rfl (by rw [ve]) (zt rfl (fun h3 => ?_) (fun h3 => ?_))
    ·
     have h3 := of_decide_eq_true h3;have e1 : jk r = 2 := by unfold jk; rw [if_pos ⟨hr, hall⟩, if_neg (by omega)]
     have e2 : jz false r = 0 := by unfold jz; rw [if_neg (by rintro ⟨_, _, h⟩; omega)]
     refine srx (za rfl (vq (cs := #[.bool false, .slice none 0 0]) pl61 zr61 rfl rfl (yu (qu xh rfl rfl Bb1 rfl rfl (Nat.le_of_ble_eq_true rfl) ?_))));intro w9 Bx Eb1;replace Bb1 := Bx;replace E := E.step1 Eb1 Mut.head
     refine anx rfl (zr (zd (zq (rs := [.cell 2 61, .tmp 3]) (vs := [_, _]) rfl ⟨⟨_, rfl, jq Tryd.underlying61 rfl xh Bb1 rfl⟩, rfl, trivial⟩ ?_)));exact by rw [e1, e2]; exact jb (LW.step E XLW).toBelow
    ·
     have h3 := of_decide_eq_false h3;have e1 : jk r = 0 := by unfold jk; rw [if_pos ⟨hr, hall⟩, if_pos (by omega)]
     have e2 : jz false r = sgn false (yy r) := by unfold jz; rw [if_pos ⟨hr, hall, by omega⟩]
     refine zk (ze (srx (anx rfl (zf (srx (mvx rfl (za rfl (qc Tryd.underlying9 rfl (anx rfl (zy ?_))))))))));have Ol : World.ownsRow w8 w.heap.size 30 1 (.slice none 0 0) 0 ([]) := xc;have Dl_b1 : Apart ((Value.slice none 0 0).ownBlock) (some gb1) := fun _ e => by cases e
     have Db1_l := Dl_b1.symm;replace HF := HF.cons (gn);replace E := E.cons ((Value.slice none 0 0).ownBlock);replace XLW := Mut.grow XLW (fun k e => Or.inr (Nat.le_trans LW.size ((gn) k e)));replace XM3 := Mut.grow XM3 (fun k e => Or.inr (Nat.le_trans M3.size ((gn) k e)));replace XM7 := Mut.grow XM7 (fun k e => Or.inr (Nat.le_trans M7.size ((gn) k e)))
     refine zv 7 (.int .i64 ((u.length : Int) - 18 * ((0 : Nat) : Int))) rfl (by rw [ve]; simp) ?_;replace HF := HF.on E;replace LW := LW.step E XLW;replace M3 := M3.step E XM3;replace M7 := M7.step E XM7;replace E := erx (Mut [((Value.slice none 0 0).ownBlock), (some gb1)]) w8
     refine qq (ι := Nat × List Nat × Option Addr × Nat) (fun (k, xs, A1, c1) => [(0, .string ⟨u.toArray⟩), (2, .pointer (some ⟨gb1, 0, none⟩)), (3, .int .i64 0), (4, .bool false), (6, .slice A1 k c1), (7, .int .i64 ((u.length : Int) - 18 * (k : Int)))]) (fun (k, xs, A1, c1) w' => Ext (Mut [((Value.slice none 0 0).ownBlock), (some gb1)]) w8 w' ∧ World.ownsRow w' w.heap.size 30 1 (.slice A1 k c1) k (xs.map fun x : Nat => Value.int .u64 (x : Int)) ∧ Blk w' gb1 61 (#[.bool false, .slice none 0 0]) ∧ (∀ q9, ((Value.slice A1 k c1).ownBlock) = some q9 → ((Value.slice none 0 0).ownBlock) = some q9 ∨ w8.heap.size ≤ q9) ∧ (xs.length = k ∧ small B18 xs ∧ val B18 xs = yy (u.drop (u.length - 18 * k)) ∧ 18 * k ≤ u.length + 17)) (fun (k, xs, A1, c1) => u.length + 18 - 18 * k) (0, [], none, 0) ⟨rfl, rfl, rfl, rfl, rfl, rfl, trivial⟩ ⟨Ext.refl _ _, (by exact Ol), (by exact Bb1), (fun _ e => Or.inl e), ⟨rfl, zov, by rw [Nat.mul_zero, Nat.sub_zero, List.drop_length]; rfl, by omega⟩⟩ ?_
     have LTl := (vi Ol);have LTb1 := (yj Bb1.lt);clear Ol;rintro ⟨k, xs, A1, c1⟩ w11 ⟨M10, Ol, Bb1, KlM10, ⟨hk, hsm, hval, hkl⟩⟩;replace Dl_b1 : Apart ((Value.slice A1 k c1).ownBlock) (some gb1) := Dl_b1.turn KlM10 LTb1;replace Db1_l := Dl_b1.symm
     have XM10 : Gro (Mut [((Value.slice A1 k c1).ownBlock), (some gb1)]) (Mut [((Value.slice none 0 0).ownBlock), (some gb1)]) w8 := (Mut.grow (Mut.grow Mut.none_ (fun k e => Or.inl ((Mut.tail Mut.head) k e))) (fun k e => (KlM10 k e).elim (fun e => Or.inl (Mut.head k e)) Or.inr));replace E := E.trans M10;replace HF := HF.turn E XM10;have ZLW := LW.size
     have XT := fun q9 (h : (Mut [((Value.slice A1 k c1).ownBlock), (some gb1)]) q9) => (XM10 q9 h).elim (XLW q9) (fun h => Or.inr (Nat.le_trans LW.size h));replace LW := LW.step E XLW;replace XLW := XT;have ZM3 := M3.size;have XT := fun q9 (h : (Mut [((Value.slice A1 k c1).ownBlock), (some gb1)]) q9) => (XM10 q9 h).elim (XM3 q9) (fun h => Or.inr (Nat.le_trans M3.size h))
     replace M3 := M3.step E XM3;replace XM3 := XT;have ZM7 := M7.size;have XT := fun q9 (h : (Mut [((Value.slice A1 k c1).ownBlock), (some gb1)]) q9) => (XM10 q9 h).elim (XM7 q9) (fun h => Or.inr (Nat.le_trans M7.size h));replace M7 := M7.step E XM7;replace XM7 := XT;clear ZLW;clear ZM3;clear ZM7;replace E := erx (Mut [((Value.slice A1 k c1).ownBlock), (some gb1)]) w11;clear LTl;clear LTb1
     refine zf (srx (mvx rfl (za rfl (qo rfl rfl (rnx (zt rfl (fun q => ?_) (fun q => ?_)))))))
     ·
      have q := of_decide_eq_true q;obtain ⟨e, he⟩ : ∃ e : Nat, e = u.length - 18 * k := ⟨_, rfl⟩;have he0 : 0 < e := by omega
      have hel : e ≤ u.length := by omega
      refine zk (ze (zf (zy (srx (mvx rfl (mvx rfl (za rfl (yx rfl rfl (zo (by omega)) (za rfl (ow_max rfl rfl (yc 65 (.int .i64 ((e - 18 : Nat) : Int)) rfl ((by congr 1; split <;> omega : (.int .i64 (if (u.length : Int) - 18 * (k : Int) - 18 > 0 then (u.length : Int) - 18 * (k : Int) - 18 else 0) : Value) = _)) (mvx rfl (yc 66 (.int .i64 ((e : Nat) : Int)) rfl ((by rw [show (u.length : Int) - 18 * (k : Int) = ((e : Nat) : Int) by omega] : (.int .i64 ((u.length : Int) - 18 * (k : Int)) : Value) = _)) (za rfl (vg (l := e - 18) (h := e) Tryd.underlying9 rfl ⟨_, rfl⟩ ⟨_, rfl⟩ (Nat.sub_le _ _) (by rw [ve]; exact hel) (yc 67 (.string ⟨((u.take e).drop (e - 18)).toArray⟩) rfl ((by rw [zvv] : (.string ((⟨u.toArray⟩ : ByteArray).extract (e - 18) e) : Value) = _)) (za rfl (ya en23 rfl ((parseU _ _ (zyv he0 hel) (zpv hal9 e) (jv hal9 e) (zpk u e)).mono ?_)))))))))))))))))))
      rintro e w12 ⟨rfl, hb⟩;refine ⟨_, rfl, ?_⟩;have Ec := Ext.of_below hb No;replace Ol := jd Ol Ec NotIn.nil;replace Bb1 := Bb1.extN Ec NotIn.nil;replace E := E.trans Ec.no
      refine mvx rfl (za rfl (zz rfl rfl (za rfl (zz rfl rfl (avx rfl (anx rfl (zj (mvx rfl (mvx rfl (za rfl (qn (cs := #[.int .u64 ((yy ((u.take e).drop (e - 18)) : Nat) : Int)]) Tryd.underlying59 sz30 zr30 (by decide) rfl (by rw [vw]; rfl) ?_)))))))))));intro gb13 w14 Bb13 Eb13 Gb13
      have Db13_l : Apart (some gb13) ((Value.slice A1 k c1).ownBlock) := Apart.of_lt (vi Ol) Gb13;have Dl_b13 := Db13_l.symm;have Db13_b1 : Apart (some gb13) (some gb1) := Apart.of_lt (yj Bb1.lt) Gb13;have Db1_b13 := Db13_b1.symm;have Gb13 : _ ≤ gb13 := Nat.le_trans E.size Gb13;have GLb13 := Nat.le_trans LW.size Gb13;replace Ol := jd Ol Eb13 NotIn.nil
      replace Bb1 := Bb1.extN Eb13 NotIn.nil;replace E := E.trans Eb13.no;replace HF := HF.cons (yf Gb13);replace E := E.cons (some gb13);replace XLW := Mut.grow XLW (fun k e => Or.inr (Nat.le_trans LW.size ((yf Gb13) k e)));replace XM3 := Mut.grow XM3 (fun k e => Or.inr (Nat.le_trans M3.size ((yf Gb13) k e)))
      replace XM7 := Mut.grow XM7 (fun k e => Or.inr (Nat.le_trans M7.size ((yf Gb13) k e)));replace XM10 := Mut.grow XM10 (fun k e => Or.inr (Nat.le_trans M10.size ((yf Gb13) k e)));replace HF := HF.on E;replace LW := LW.step E XLW;replace M3 := M3.step E XM3;replace M7 := M7.step E XM7;replace M10 := M10.step E XM10
      have SB : ∀ q9, Mut [((Value.slice A1 k c1).ownBlock), (some gb1)] q9 → Mut [(some gb13), ((Value.slice A1 k c1).ownBlock), (some gb1)] q9 := (Mut.skip (Mut.keep (Mut.keep Mut.nil_)));replace HF := HF.less SB;replace XLW := fun k h => XLW k (SB k h);replace XM3 := fun k h => XM3 k (SB k h);replace XM7 := fun k h => XM7 k (SB k h);replace XM10 := fun k h => XM10 k (SB k h);clear SB
      replace E := erx (Mut [((Value.slice A1 k c1).ownBlock), (some gb1)]) w14;replace HF := HF.and (Per.blkN Bb13 (NotIn.cons Db13_l (NotIn.cons Db13_b1 NotIn.nil)))
      refine za rfl (ji (news := [.int .u64 ((yy ((u.take e).drop (e - 18)) : Nat) : Int)]) Tryd.underlying59 inf30 rfl (by decide) rfl Ol rfl (xl (HF.on E).here.2 ((HF.on E).here.2).lt rfl) (by simp [Value.oneCell']) (by unfold maxLen; omega) (by omega) (by exact Nat.le_trans LW.size E.size) ?_);intro v0 w15 On En KN;obtain ⟨A2, c2, rfl⟩ := vu On
      replace KN : ∀ q9, ((Value.slice A2 (k + 1) c2).ownBlock) = some q9 → ((Value.slice A1 k c1).ownBlock) = some q9 ∨ w14.heap.size ≤ q9 := KN;have LTb1 := (yj Bb1.lt);replace Bb1 := Bb1.extN En (NotIn.cons Db1_l NotIn.nil);replace Dl_b1 : Apart ((Value.slice A2 (k + 1) c2).ownBlock) (some gb1) := Dl_b1.turn KN LTb1;replace Db1_l := Dl_b1.symm;clear LTb1
      have HY : Gro (Mut [((Value.slice A2 (k + 1) c2).ownBlock), (some gb1)]) (Mut [((Value.slice A1 k c1).ownBlock), (some gb1)]) w14 := (Mut.grow (Mut.grow Mut.none_ (fun k e => Or.inl ((Mut.tail Mut.head) k e))) (fun k e => (KN k e).elim (fun e => Or.inl (Mut.head k e)) (fun h => Or.inr (Nat.le_trans E.size h))))
      replace KlM10 : ∀ q9, ((Value.slice A2 (k + 1) c2).ownBlock) = some q9 → ((Value.slice none 0 0).ownBlock) = some q9 ∨ w8.heap.size ≤ q9 := fun k e => (KN k e).elim (KlM10 k) (fun h => Or.inr (Nat.le_trans M10.size (Nat.le_trans E.size h)));replace E := E.step1 En Mut.head
      have XT := fun q9 (h : (Mut [((Value.slice A2 (k + 1) c2).ownBlock), (some gb1)]) q9) => (HY q9 h).elim (XLW q9) (fun h => Or.inr (Nat.le_trans LW.size h));have XT := fun q9 (h : (Mut [((Value.slice A2 (k + 1) c2).ownBlock), (some gb1)]) q9) => (HY q9 h).elim (XM3 q9) (fun h => Or.inr (Nat.le_trans M3.size h))
      have XT := fun q9 (h : (Mut [((Value.slice A2 (k + 1) c2).ownBlock), (some gb1)]) q9) => (HY q9 h).elim (XM7 q9) (fun h => Or.inr (Nat.le_trans M7.size h));have XT := fun q9 (h : (Mut [((Value.slice A2 (k + 1) c2).ownBlock), (some gb1)]) q9) => (HY q9 h).elim (XM10 q9) (fun h => Or.inr (Nat.le_trans M10.size h));replace M10 := M10.step E XM10;replace XM10 := XT
      replace E := erx (Mut [((Value.slice A2 (k + 1) c2).ownBlock), (some gb1)]) w15;clear HY;replace Ol : World.ownsRow w15 w.heap.size 30 1 (.slice A2 (k + 1) c2) (k + 1) ((xs ++ [yy ((u.take e).drop (e - 18))]).map fun x : Nat => Value.int .u64 (x : Int)) := by
       have e : ((xs.map fun x : Nat => Value.int .u64 (x : Int)) : List Value) ++ ([.int .u64 ((yy ((u.take e).drop (e - 18)) : Nat) : Int)] : List Value) = (xs ++ [yy ((u.take e).drop (e - 18))]).map fun x : Nat => Value.int .u64 (x : Int) := by simp
       rw [← e];exact On
      clear On KN En
      refine avx rfl (yd (zm (ze (zj (mvx rfl (za rfl (yx rfl rfl (zo (by omega)) (avx rfl (yd (yr 7 (.int .i64 ((u.length : Int) - 18 * ((k + 1 : Nat) : Int))) rfl ((by rw [show (u.length : Int) - 18 * (k : Int) - 18 = (u.length : Int) - 18 * ((k + 1 : Nat) : Int) by omega] : (.int .i64 (((u.length : Int) - 18 * (k : Int)) - 18) : Value) = _)) ?_))))))))))
      exact yn (k + 1, xs ++ [yy ((u.take e).drop (e - 18))], A2, c2) (by show u.length + 18 - 18 * (k + 1) < u.length + 18 - 18 * k; omega) ⟨rfl, rfl, rfl, rfl, rfl, rfl, trivial⟩ ⟨M10.step E XM10, (by exact Ol), (by exact Bb1), KlM10, by rw [List.length_append, hk]; rfl, zgv hsm (jv hal9 e), by rw [zrv hal9 hk (by omega : u.length = e + 18 * k) (by rw [hval, he]), show u.length - 18 * (k + 1) = e - 18 by omega], by omega⟩
     ·
      have q := of_decide_eq_false q;have hv9 : val B18 xs = yy r := by rw [hval, show u.length - 18 * k = 0 by omega, List.drop_zero, hnum]
      have Ol9 := Ol;have hown : Own w11 w.heap.size A1 c1 xs := ⟨by rw [hk]; exact Ol9, fun x hx => Nat.lt_trans (hsm x hx) (by decide)⟩;have hform : ∀ w', Nums w' A1 xs → Calls Tryd.prog 24 #[.bool false, .slice A1 k c1] w' (yix w' (sgn false (yy r))) := fun w' h => by
       have h9 := zzv false A1 c1 xs w' h hsm (by omega);rwa [hk, hv9] at h9
      replace HF := HF.on E;replace LW := LW.step E XLW;have SB : ∀ q9, Mut [(some gb1)] q9 → Mut [((Value.slice A1 k c1).ownBlock), (some gb1)] q9 := (Mut.skip (Mut.keep Mut.nil_));replace HF := HF.less SB;replace XLW := fun k h => XLW k (SB k h);clear SB;replace E := erx (Mut [(some gb1)]) w11;replace HF := HF.and (Per.ownsN Ol (NotIn.cons Dl_b1 NotIn.nil));clear Ol;replace HF := HF.on E
      replace LW := LW.step E XLW;replace E := erx (Mut [(some gb1)]) w11;replace HF := HF.and (Per.ownN hown (NotIn.cons (kw hown Bb1 (by decide)) NotIn.nil));refine yo (zh (zh (zu (ze (srx (mvx rfl (mvx rfl (za rfl (ya en24 rfl ((hform _ ((HF.on E).here.2).nums).mono ?_))))))))));rintro e w16 ⟨A2, c2, rfl, o2, hb⟩;refine ⟨_, rfl, ?_⟩
      have SC := Nat.le_trans LW.size E.size;have Ec := Ext.of_below hb No;replace Bb1 := Bb1.extN Ec NotIn.nil;replace E := E.trans Ec.no;have S2 := SC;replace HF := HF.on E;replace LW := LW.step E XLW;replace E := erx (Mut [(some gb1)]) w16;replace HF := HF.and (Per.ownN o2 (NotIn.cons (kw o2 Bb1 (by decide)) NotIn.nil))
      refine yu (qu xh rfl rfl Bb1 rfl rfl (Nat.le_of_ble_eq_true rfl) ?_);intro w17 Bx Eb1;replace Bb1 := Bx;replace E := E.step1 Eb1 Mut.head;replace HF := HF.on E;replace LW := LW.step E XLW;have SB : ∀ q9, No q9 → Mut [(some gb1)] q9 := (Mut.skip Mut.nil_);replace HF := HF.less SB;replace XLW := fun k h => XLW k (SB k h);clear SB;replace E := erx (No) w17
      replace HF := HF.and (Per.blkN Bb1 NotIn.nil);refine anx rfl (zr (zq (rs := [.cell 2 61, .tmp 3]) (vs := [_, _]) rfl ⟨⟨_, rfl, jq Tryd.underlying61 rfl xh (HF.on E).here.2 rfl⟩, rfl, trivial⟩ ?_));exact by rw [e1, e2]; exact ⟨A2, c2, rfl, ((HF.on E).here.1.2).mono S2, (LW.step E XLW).toBelow⟩
  ·
   have h := of_decide_eq_false h;have hu0 : u = [] := by cases u with | nil => rfl | cons b u2 => simp at h
   refine za rfl (zc rfl (za rfl (zc rfl (za rfl (zc rfl (za rfl (yb rfl rfl (rnx (zx rfl (yo (zh (zh (zu (ze (zf (srx (mvx rfl (za rfl (qc Tryd.underlying9 rfl (za rfl (qo rfl rfl (rnx ?_))))))))))))))))))))));have hstr : gf r = u := by rw [← hu1]; exact by rw [hu0]; rfl
   have hal9 := zev hall;rw [hstr] at hal9;have hln9 := zok hall;rw [hstr] at hln9;have hnum : yy u = yy r := by rw [← hstr, om]
   refine zv 53 (.bool (decide ((540 : Int) < ((u.length : Nat) : Int)))) rfl (by rw [ve]) (zt rfl (fun h3 => ?_) (fun h3 => ?_))
   ·
    have h3 := of_decide_eq_true h3;have e1 : jk r = 2 := by unfold jk; rw [if_pos ⟨hr, hall⟩, if_neg (by omega)]
    have e2 : jz false r = 0 := by unfold jz; rw [if_neg (by rintro ⟨_, _, h⟩; omega)]
    refine srx (za rfl (vq (cs := #[.bool false, .slice none 0 0]) pl61 zr61 rfl rfl (yu (qu xh rfl rfl Bb1 rfl rfl (Nat.le_of_ble_eq_true rfl) ?_))));intro w18 Bx Eb1;replace Bb1 := Bx;replace E := E.step1 Eb1 Mut.head
    refine anx rfl (zr (zd (zq (rs := [.cell 2 61, .tmp 3]) (vs := [_, _]) rfl ⟨⟨_, rfl, jq Tryd.underlying61 rfl xh Bb1 rfl⟩, rfl, trivial⟩ ?_)));exact by rw [e1, e2]; exact jb (LW.step E XLW).toBelow
   ·
    have h3 := of_decide_eq_false h3;have e1 : jk r = 0 := by unfold jk; rw [if_pos ⟨hr, hall⟩, if_pos (by omega)]
    have e2 : jz false r = sgn false (yy r) := by unfold jz; rw [if_pos ⟨hr, hall, by omega⟩]
    refine zk (ze (srx (anx rfl (zf (srx (mvx rfl (za rfl (qc Tryd.underlying9 rfl (anx rfl (zy ?_))))))))));have Ol : World.ownsRow w8 w.heap.size 30 1 (.slice none 0 0) 0 ([]) := xc;have Dl_b1 : Apart ((Value.slice none 0 0).ownBlock) (some gb1) := fun _ e => by cases e
    have Db1_l := Dl_b1.symm;replace HF := HF.cons (gn);replace E := E.cons ((Value.slice none 0 0).ownBlock);replace XLW := Mut.grow XLW (fun k e => Or.inr (Nat.le_trans LW.size ((gn) k e)));replace XM3 := Mut.grow XM3 (fun k e => Or.inr (Nat.le_trans M3.size ((gn) k e)));replace XM7 := Mut.grow XM7 (fun k e => Or.inr (Nat.le_trans M7.size ((gn) k e)))
    refine zv 7 (.int .i64 ((u.length : Int) - 18 * ((0 : Nat) : Int))) rfl (by rw [ve]; simp) ?_;replace HF := HF.on E;replace LW := LW.step E XLW;replace M3 := M3.step E XM3;replace M7 := M7.step E XM7;replace E := erx (Mut [((Value.slice none 0 0).ownBlock), (some gb1)]) w8
    refine qq (ι := Nat × List Nat × Option Addr × Nat) (fun (k, xs, A1, c1) => [(0, .string ⟨u.toArray⟩), (2, .pointer (some ⟨gb1, 0, none⟩)), (3, .int .i64 0), (4, .bool false), (6, .slice A1 k c1), (7, .int .i64 ((u.length : Int) - 18 * (k : Int)))]) (fun (k, xs, A1, c1) w' => Ext (Mut [((Value.slice none 0 0).ownBlock), (some gb1)]) w8 w' ∧ World.ownsRow w' w.heap.size 30 1 (.slice A1 k c1) k (xs.map fun x : Nat => Value.int .u64 (x : Int)) ∧ Blk w' gb1 61 (#[.bool false, .slice none 0 0]) ∧ (∀ q9, ((Value.slice A1 k c1).ownBlock) = some q9 → ((Value.slice none 0 0).ownBlock) = some q9 ∨ w8.heap.size ≤ q9) ∧ (xs.length = k ∧ small B18 xs ∧ val B18 xs = yy (u.drop (u.length - 18 * k)) ∧ 18 * k ≤ u.length + 17)) (fun (k, xs, A1, c1) => u.length + 18 - 18 * k) (0, [], none, 0) ⟨rfl, rfl, rfl, rfl, rfl, rfl, trivial⟩ ⟨Ext.refl _ _, (by exact Ol), (by exact Bb1), (fun _ e => Or.inl e), ⟨rfl, zov, by rw [Nat.mul_zero, Nat.sub_zero, List.drop_length]; rfl, by omega⟩⟩ ?_
    have LTl := (vi Ol);have LTb1 := (yj Bb1.lt);clear Ol;rintro ⟨k, xs, A1, c1⟩ w20 ⟨M19, Ol, Bb1, KlM19, ⟨hk, hsm, hval, hkl⟩⟩;replace Dl_b1 : Apart ((Value.slice A1 k c1).ownBlock) (some gb1) := Dl_b1.turn KlM19 LTb1;replace Db1_l := Dl_b1.symm
    have XM19 : Gro (Mut [((Value.slice A1 k c1).ownBlock), (some gb1)]) (Mut [((Value.slice none 0 0).ownBlock), (some gb1)]) w8 := (Mut.grow (Mut.grow Mut.none_ (fun k e => Or.inl ((Mut.tail Mut.head) k e))) (fun k e => (KlM19 k e).elim (fun e => Or.inl (Mut.head k e)) Or.inr));replace E := E.trans M19;replace HF := HF.turn E XM19;have ZLW := LW.size
    have XT := fun q9 (h : (Mut [((Value.slice A1 k c1).ownBlock), (some gb1)]) q9) => (XM19 q9 h).elim (XLW q9) (fun h => Or.inr (Nat.le_trans LW.size h));replace LW := LW.step E XLW;replace XLW := XT;have ZM3 := M3.size;have XT := fun q9 (h : (Mut [((Value.slice A1 k c1).ownBlock), (some gb1)]) q9) => (XM19 q9 h).elim (XM3 q9) (fun h => Or.inr (Nat.le_trans M3.size h))
    replace M3 := M3.step E XM3;replace XM3 := XT;have ZM7 := M7.size;have XT := fun q9 (h : (Mut [((Value.slice A1 k c1).ownBlock), (some gb1)]) q9) => (XM19 q9 h).elim (XM7 q9) (fun h => Or.inr (Nat.le_trans M7.size h));replace M7 := M7.step E XM7;replace XM7 := XT;clear ZLW;clear ZM3;clear ZM7;replace E := erx (Mut [((Value.slice A1 k c1).ownBlock), (some gb1)]) w20;clear LTl;clear LTb1
    refine zf (srx (mvx rfl (za rfl (qo rfl rfl (rnx (zt rfl (fun q => ?_) (fun q => ?_)))))))
    ·
     have q := of_decide_eq_true q;obtain ⟨e, he⟩ : ∃ e : Nat, e = u.length - 18 * k := ⟨_, rfl⟩;have he0 : 0 < e := by omega
     have hel : e ≤ u.length := by omega
     refine zk (ze (zf (zy (srx (mvx rfl (mvx rfl (za rfl (yx rfl rfl (zo (by omega)) (za rfl (ow_max rfl rfl (yc 65 (.int .i64 ((e - 18 : Nat) : Int)) rfl ((by congr 1; split <;> omega : (.int .i64 (if (u.length : Int) - 18 * (k : Int) - 18 > 0 then (u.length : Int) - 18 * (k : Int) - 18 else 0) : Value) = _)) (mvx rfl (yc 66 (.int .i64 ((e : Nat) : Int)) rfl ((by rw [show (u.length : Int) - 18 * (k : Int) = ((e : Nat) : Int) by omega] : (.int .i64 ((u.length : Int) - 18 * (k : Int)) : Value) = _)) (za rfl (vg (l := e - 18) (h := e) Tryd.underlying9 rfl ⟨_, rfl⟩ ⟨_, rfl⟩ (Nat.sub_le _ _) (by rw [ve]; exact hel) (yc 67 (.string ⟨((u.take e).drop (e - 18)).toArray⟩) rfl ((by rw [zvv] : (.string ((⟨u.toArray⟩ : ByteArray).extract (e - 18) e) : Value) = _)) (za rfl (ya en23 rfl ((parseU _ _ (zyv he0 hel) (zpv hal9 e) (jv hal9 e) (zpk u e)).mono ?_)))))))))))))))))))
     rintro e w21 ⟨rfl, hb⟩;refine ⟨_, rfl, ?_⟩;have Ec := Ext.of_below hb No;replace Ol := jd Ol Ec NotIn.nil;replace Bb1 := Bb1.extN Ec NotIn.nil;replace E := E.trans Ec.no
     refine mvx rfl (za rfl (zz rfl rfl (za rfl (zz rfl rfl (avx rfl (anx rfl (zj (mvx rfl (mvx rfl (za rfl (qn (cs := #[.int .u64 ((yy ((u.take e).drop (e - 18)) : Nat) : Int)]) Tryd.underlying59 sz30 zr30 (by decide) rfl (by rw [vw]; rfl) ?_)))))))))));intro gb22 w23 Bb22 Eb22 Gb22
     have Db22_l : Apart (some gb22) ((Value.slice A1 k c1).ownBlock) := Apart.of_lt (vi Ol) Gb22;have Dl_b22 := Db22_l.symm;have Db22_b1 : Apart (some gb22) (some gb1) := Apart.of_lt (yj Bb1.lt) Gb22;have Db1_b22 := Db22_b1.symm;have Gb22 : _ ≤ gb22 := Nat.le_trans E.size Gb22;have GLb22 := Nat.le_trans LW.size Gb22;replace Ol := jd Ol Eb22 NotIn.nil
     replace Bb1 := Bb1.extN Eb22 NotIn.nil;replace E := E.trans Eb22.no;replace HF := HF.cons (yf Gb22);replace E := E.cons (some gb22);replace XLW := Mut.grow XLW (fun k e => Or.inr (Nat.le_trans LW.size ((yf Gb22) k e)));replace XM3 := Mut.grow XM3 (fun k e => Or.inr (Nat.le_trans M3.size ((yf Gb22) k e)))
     replace XM7 := Mut.grow XM7 (fun k e => Or.inr (Nat.le_trans M7.size ((yf Gb22) k e)));replace XM19 := Mut.grow XM19 (fun k e => Or.inr (Nat.le_trans M19.size ((yf Gb22) k e)));replace HF := HF.on E;replace LW := LW.step E XLW;replace M3 := M3.step E XM3;replace M7 := M7.step E XM7;replace M19 := M19.step E XM19
     have SB : ∀ q9, Mut [((Value.slice A1 k c1).ownBlock), (some gb1)] q9 → Mut [(some gb22), ((Value.slice A1 k c1).ownBlock), (some gb1)] q9 := (Mut.skip (Mut.keep (Mut.keep Mut.nil_)));replace HF := HF.less SB;replace XLW := fun k h => XLW k (SB k h);replace XM3 := fun k h => XM3 k (SB k h);replace XM7 := fun k h => XM7 k (SB k h);replace XM19 := fun k h => XM19 k (SB k h);clear SB
     replace E := erx (Mut [((Value.slice A1 k c1).ownBlock), (some gb1)]) w23;replace HF := HF.and (Per.blkN Bb22 (NotIn.cons Db22_l (NotIn.cons Db22_b1 NotIn.nil)))
     refine za rfl (ji (news := [.int .u64 ((yy ((u.take e).drop (e - 18)) : Nat) : Int)]) Tryd.underlying59 inf30 rfl (by decide) rfl Ol rfl (xl (HF.on E).here.2 ((HF.on E).here.2).lt rfl) (by simp [Value.oneCell']) (by unfold maxLen; omega) (by omega) (by exact Nat.le_trans LW.size E.size) ?_);intro v0 w24 On En KN;obtain ⟨A2, c2, rfl⟩ := vu On
     replace KN : ∀ q9, ((Value.slice A2 (k + 1) c2).ownBlock) = some q9 → ((Value.slice A1 k c1).ownBlock) = some q9 ∨ w23.heap.size ≤ q9 := KN;have LTb1 := (yj Bb1.lt);replace Bb1 := Bb1.extN En (NotIn.cons Db1_l NotIn.nil);replace Dl_b1 : Apart ((Value.slice A2 (k + 1) c2).ownBlock) (some gb1) := Dl_b1.turn KN LTb1;replace Db1_l := Dl_b1.symm;clear LTb1
     have HY : Gro (Mut [((Value.slice A2 (k + 1) c2).ownBlock), (some gb1)]) (Mut [((Value.slice A1 k c1).ownBlock), (some gb1)]) w23 := (Mut.grow (Mut.grow Mut.none_ (fun k e => Or.inl ((Mut.tail Mut.head) k e))) (fun k e => (KN k e).elim (fun e => Or.inl (Mut.head k e)) (fun h => Or.inr (Nat.le_trans E.size h))))
     replace KlM19 : ∀ q9, ((Value.slice A2 (k + 1) c2).ownBlock) = some q9 → ((Value.slice none 0 0).ownBlock) = some q9 ∨ w8.heap.size ≤ q9 := fun k e => (KN k e).elim (KlM19 k) (fun h => Or.inr (Nat.le_trans M19.size (Nat.le_trans E.size h)));replace E := E.step1 En Mut.head
     have XT := fun q9 (h : (Mut [((Value.slice A2 (k + 1) c2).ownBlock), (some gb1)]) q9) => (HY q9 h).elim (XLW q9) (fun h => Or.inr (Nat.le_trans LW.size h));have XT := fun q9 (h : (Mut [((Value.slice A2 (k + 1) c2).ownBlock), (some gb1)]) q9) => (HY q9 h).elim (XM3 q9) (fun h => Or.inr (Nat.le_trans M3.size h))
     have XT := fun q9 (h : (Mut [((Value.slice A2 (k + 1) c2).ownBlock), (some gb1)]) q9) => (HY q9 h).elim (XM7 q9) (fun h => Or.inr (Nat.le_trans M7.size h));have XT := fun q9 (h : (Mut [((Value.slice A2 (k + 1) c2).ownBlock), (some gb1)]) q9) => (HY q9 h).elim (XM19 q9) (fun h => Or.inr (Nat.le_trans M19.size h));replace M19 := M19.step E XM19;replace XM19 := XT
     replace E := erx (Mut [((Value.slice A2 (k + 1) c2).ownBlock), (some gb1)]) w24;clear HY;replace Ol : World.ownsRow w24 w.heap.size 30 1 (.slice A2 (k + 1) c2) (k + 1) ((xs ++ [yy ((u.take e).drop (e - 18))]).map fun x : Nat => Value.int .u64 (x : Int)) := by
      have e : ((xs.map fun x : Nat => Value.int .u64 (x : Int)) : List Value) ++ ([.int .u64 ((yy ((u.take e).drop (e - 18)) : Nat) : Int)] : List Value) = (xs ++ [yy ((u.take e).drop (e - 18))]).map fun x : Nat => Value.int .u64 (x : Int) := by simp
      rw [← e];exact On
     clear On KN En
     refine avx rfl (yd (zm (ze (zj (mvx rfl (za rfl (yx rfl rfl (zo (by omega)) (avx rfl (yd (yr 7 (.int .i64 ((u.length : Int) - 18 * ((k + 1 : Nat) : Int))) rfl ((by rw [show (u.length : Int) - 18 * (k : Int) - 18 = (u.length : Int) - 18 * ((k + 1 : Nat) : Int) by omega] : (.int .i64 (((u.length : Int) - 18 * (k : Int)) - 18) : Value) = _)) ?_))))))))))
     exact yn (k + 1, xs ++ [yy ((u.take e).drop (e - 18))], A2, c2) (by show u.length + 18 - 18 * (k + 1) < u.length + 18 - 18 * k; omega) ⟨rfl, rfl, rfl, rfl, rfl, rfl, trivial⟩ ⟨M19.step E XM19, (by exact Ol), (by exact Bb1), KlM19, by rw [List.length_append, hk]; rfl, zgv hsm (jv hal9 e), by rw [zrv hal9 hk (by omega : u.length = e + 18 * k) (by rw [hval, he]), show u.length - 18 * (k + 1) = e - 18 by omega], by omega⟩
    ·
     have q := of_decide_eq_false q;have hv9 : val B18 xs = yy r := by rw [hval, show u.length - 18 * k = 0 by omega, List.drop_zero, hnum]
     have Ol9 := Ol;have hown : Own w20 w.heap.size A1 c1 xs := ⟨by rw [hk]; exact Ol9, fun x hx => Nat.lt_trans (hsm x hx) (by decide)⟩;have hform : ∀ w', Nums w' A1 xs → Calls Tryd.prog 24 #[.bool false, .slice A1 k c1] w' (yix w' (sgn false (yy r))) := fun w' h => by
      have h9 := zzv false A1 c1 xs w' h hsm (by omega);rwa [hk, hv9] at h9
     replace HF := HF.on E;replace LW := LW.step E XLW;have SB : ∀ q9, Mut [(some gb1)] q9 → Mut [((Value.slice A1 k c1).ownBlock), (some gb1)] q9 := (Mut.skip (Mut.keep Mut.nil_));replace HF := HF.less SB;replace XLW := fun k h => XLW k (SB k h);clear SB;replace E := erx (Mut [(some gb1)]) w20;replace HF := HF.and (Per.ownsN Ol (NotIn.cons Dl_b1 NotIn.nil));clear Ol;replace HF := HF.on E
     replace LW := LW.step E XLW;replace E := erx (Mut [(some gb1)]) w20;replace HF := HF.and (Per.ownN hown (NotIn.cons (kw hown Bb1 (by decide)) NotIn.nil));refine yo (zh (zh (zu (ze (srx (mvx rfl (mvx rfl (za rfl (ya en24 rfl ((hform _ ((HF.on E).here.2).nums).mono ?_))))))))));rintro e w25 ⟨A2, c2, rfl, o2, hb⟩;refine ⟨_, rfl, ?_⟩
     have SC := Nat.le_trans LW.size E.size;have Ec := Ext.of_below hb No;replace Bb1 := Bb1.extN Ec NotIn.nil;replace E := E.trans Ec.no;have S2 := SC;replace HF := HF.on E;replace LW := LW.step E XLW;replace E := erx (Mut [(some gb1)]) w25;replace HF := HF.and (Per.ownN o2 (NotIn.cons (kw o2 Bb1 (by decide)) NotIn.nil))
     refine yu (qu xh rfl rfl Bb1 rfl rfl (Nat.le_of_ble_eq_true rfl) ?_);intro w26 Bx Eb1;replace Bb1 := Bx;replace E := E.step1 Eb1 Mut.head;replace HF := HF.on E;replace LW := LW.step E XLW;have SB : ∀ q9, No q9 → Mut [(some gb1)] q9 := (Mut.skip Mut.nil_);replace HF := HF.less SB;replace XLW := fun k h => XLW k (SB k h);clear SB;replace E := erx (No) w26
     replace HF := HF.and (Per.blkN Bb1 NotIn.nil);refine anx rfl (zr (zq (rs := [.cell 2 61, .tmp 3]) (vs := [_, _]) rfl ⟨⟨_, rfl, jq Tryd.underlying61 rfl xh (HF.on E).here.2 rfl⟩, rfl, trivial⟩ ?_));exact by rw [e1, e2]; exact ⟨A2, c2, rfl, ((HF.on E).here.1.2).mono S2, (LW.step E XLW).toBelow⟩
end
section
variable (w : World)
theorem zwx (neg : Bool) : Calls Tryd.prog 20 #[.string ⟨(if neg then [45] else [] : List UInt8).toArray⟩] w (kk w 0 4) := by
 cases neg
 · show Calls Tryd.prog 20 #[.string ⟨#[]⟩] w (kk w 0 4)
   refine yk Tryd.func20 rfl Tryd.ntmps20 rfl ?_;have LW := erx (No) w;have XLW := grx (No) w;have E := erx (No) w;refine srx (za rfl (va zr61 ?_));intro gb1 w2 Bb1 Eb1 Gb1;have Gb1 : _ ≤ gb1 := Nat.le_trans E.size Gb1;have GLb1 := Nat.le_trans LW.size Gb1;replace E := E.trans Eb1.no;replace E := E.cons (some gb1)
   replace XLW := Mut.grow XLW (fun k e => Or.inr (Nat.le_trans LW.size ((yf Gb1) k e)))
   refine anx rfl (srx (mvx rfl (za rfl (qc Tryd.underlying9 rfl (za rfl (qo rfl rfl (mvx rfl (yc 13 (.bool false) rfl (by rfl) (za rfl (zc rfl (za rfl (zc rfl (za rfl (zc rfl (za rfl (yb rfl rfl (anx rfl (zf (srx (mvx rfl (rnx (zx rfl (zk (ze (zf (srx (mvx rfl (za rfl (oh rfl rfl (rnx (zv 22 (.bool true) rfl (by rw [beq_self_eq_true]) (ym rfl (srx (za rfl (vq (cs := #[.bool false, .slice none 0 0]) pl61 zr61 rfl rfl (yu (qu xh rfl rfl Bb1 rfl rfl (Nat.le_of_ble_eq_true rfl) ?_)))))))))))))))))))))))))))))))))))))
   intro w3 Bx Eb1;replace Bb1 := Bx;replace E := E.step1 Eb1 Mut.head;refine anx rfl (zr (zd (zq (rs := [.cell 2 61, .tmp 3]) (vs := [_, _]) rfl ⟨⟨_, rfl, jq Tryd.underlying61 rfl xh Bb1 rfl⟩, rfl, trivial⟩ ?_)));exact jb (LW.step E XLW).toBelow
 · show Calls Tryd.prog 20 #[.string ⟨#[45]⟩] w (kk w 0 4)
   have hat0 : (⟨#[45]⟩ : ByteArray)[0]? = some 45 := rfl;refine yk Tryd.func20 rfl Tryd.ntmps20 rfl ?_;have LW := erx (No) w;have XLW := grx (No) w;have E := erx (No) w;refine srx (za rfl (va zr61 ?_));intro gb1 w2 Bb1 Eb1 Gb1;have Gb1 : _ ≤ gb1 := Nat.le_trans E.size Gb1;have GLb1 := Nat.le_trans LW.size Gb1;replace E := E.trans Eb1.no;replace E := E.cons (some gb1)
   replace XLW := Mut.grow XLW (fun k e => Or.inr (Nat.le_trans LW.size ((yf Gb1) k e)))
   refine anx rfl (srx (mvx rfl (za rfl (qc Tryd.underlying9 rfl (za rfl (qo rfl rfl (mvx rfl (yc 13 (.bool true) rfl (by rfl) (onx rfl (zn rfl (onx rfl (gl (j := 0) Tryd.underlying9 rfl rfl rfl hat0 (onx rfl (ye rfl rfl (za rfl (zw rfl rfl (anx rfl (zf (srx (mvx rfl (rnx (ym rfl (zj (mvx rfl (za rfl (vg (l := 1) (h := 1) Tryd.underlying9 rfl ⟨_, rfl⟩ rfl (Nat.le_refl _) (Nat.le_refl _) (yc 20 (.string ⟨#[]⟩) rfl ((by rfl : (.string ((⟨#[45]⟩ : ByteArray).extract 1 1) : Value) = _)) (anx rfl (zf (srx (mvx rfl (za rfl (oh rfl rfl (rnx (zv 22 (.bool true) rfl (by rw [beq_self_eq_true]) (ym rfl ?_))))))))))))))))))))))))))))))))))))
   refine srx (za rfl (vq (cs := #[.bool false, .slice none 0 0]) pl61 zr61 rfl rfl (yu (qu xh rfl rfl Bb1 rfl rfl (Nat.le_of_ble_eq_true rfl) ?_))));intro w3 Bx Eb1;replace Bb1 := Bx;replace E := E.step1 Eb1 Mut.head
   refine anx rfl (zr (zd (zq (rs := [.cell 2 61, .tmp 3]) (vs := [_, _]) rfl ⟨⟨_, rfl, jq Tryd.underlying61 rfl xh Bb1 rfl⟩, rfl, trivial⟩ ?_)));exact jb (LW.step E XLW).toBelow
end
theorem parse_any (s : ByteArray) (w : World) (hs : s.size ≤ 140737488355328) : Calls Tryd.prog 20 #[.string s] w (kk w (jz (textN s.data.toList) (textR s.data.toList)) (jk (textR s.data.toList))) := by
 obtain ⟨bs, rfl⟩ : ∃ bs : List UInt8, s = ⟨bs.toArray⟩ := ⟨s.data.toList, by cases s; simp⟩;rw [ve] at hs;show Calls _ _ _ _ (kk w (jz (textN bs.toArray.toList) (textR bs.toArray.toList)) (jk (textR bs.toArray.toList)))
 rw [List.toList_toArray];unfold textN textR;by_cases h : bs.head? = some 45
 · rw [decide_eq_true h, if_pos h];obtain ⟨r, rfl⟩ : ∃ r, bs = 45 :: r := by cases bs with | nil => cases h | cons b r => exact ⟨r, by rw [Option.some.inj h]⟩
   by_cases hr : r = []
   · subst hr;obtain ⟨e1, e2⟩ := text_empty (neg := true);show Calls _ _ _ _ (kk w (jz true []) (jk []))
     rw [e1, e2];exact zwx w true
   · exact wparse_neg _ r w hr rfl hs
 · rw [decide_eq_false h, if_neg h];by_cases hr : bs = []
   · subst hr;obtain ⟨e1, e2⟩ := text_empty (neg := false);rw [e1, e2];exact zwx w false
   · exact wparse_pos bs w hr h hs
end Go.Proofs.YtmjbnhjgebjhlaaDoor
namespace Go.Proofs.YtmjbnhjgebjhlaaDoor
open Go.RowKit
set_option maxRecDepth 100000
attribute [local irreducible] OW RS
theorem textE_zero {r : List UInt8} (h : jk r = 0) : r ≠ [] ∧ r.all qz = true := by
 unfold jk at h;split at h
 · assumption
 · cases h
theorem textR_dig {r : List UInt8} {b : UInt8} (h : r.head? = some b) (hd : qz b = true) : textR r = r := by
 unfold textR;rw [h, if_neg];intro e;cases e
 revert hd;decide
theorem head_all {r : List UInt8} {b : UInt8} (h : r.head? = some b) (ha : r.all qz = true) : qz b = true := by
 cases r with
 | nil => cases h
 | cons x l =>
  cases h
  rw [List.all_cons, Bool.and_eq_true] at ha;exact ha.1
theorem conC_int (s : ByteArray) : zez (1, s) = decide (jk s.data.toList = 0) := by
 unfold zez;rw [if_neg (by show ¬ (1 : Int) = 3; decide)];split
 · rename_i h
   refine (decide_eq_false fun e => ?_).symm;obtain ⟨h1, h2⟩ := textE_zero e;cases hh : s.data.toList.head? with
   | none => exact h1 (List.head?_eq_none_iff.1 hh)
   | some b =>
    have h3 := head_all hh h2;have h : s.data.toList.head?.all (fun b => !qz b) = true := h;rw [hh, Option.all_some, h3] at h;cases h
 · rw [if_pos rfl]
theorem conC_str (s : ByteArray) : zez (3, s) = decide (s.size ≤ 20000) := by unfold zez; rw [if_pos rfl]
theorem conC_flt {s : ByteArray} {b : UInt8} (h : s.data.toList.head? = some b) (hd : qz b = true) : zez (2, s) = decide (prE s = 0) := by
 unfold zez;rw [if_neg (by show ¬ (2 : Int) = 3; decide), if_neg (by show ¬ s.data.toList.head?.all (fun b => !qz b) = true; rw [h, Option.all_some, hd]; decide), if_neg (by show ¬ (2 : Int) = 1; decide), if_pos rfl]
theorem conC_bad {k : Int} {s : ByteArray} (hk : k ≠ 3) (h : ∀ b, s.data.toList.head? = some b → qz b = false) : zez (k, s) = false := by
 unfold zez;rw [if_neg hk, if_pos];show s.data.toList.head?.all (fun b => !qz b) = true
 cases hh : s.data.toList.head? with
 | none => rfl
 | some b => rw [Option.all_some, h b hh]; rfl
theorem conC_other {k : Int} {s : ByteArray} (h3 : k ≠ 3) (h1 : k ≠ 1) (h2 : k ≠ 2) : zez (k, s) = false := by
 unfold zez;rw [if_neg h3];split
 · rfl
 · first | rfl | rw [if_neg h1, if_neg h2]
theorem first_byte {s : ByteArray} (h : 0 < s.size) : ∃ b, s.data.toList.head? = some b ∧ (s.data[0]?).map (·.toNat) = some b.toNat := by
 have h' : 0 < s.data.size := h;refine ⟨s.data[0], ?_, by rw [Array.getElem?_eq_getElem h']; rfl⟩;rw [List.head?_eq_getElem?, Array.getElem?_toList, Array.getElem?_eq_getElem h']
theorem no_byte {s : ByteArray} (h : s.size = 0) : s.data.toList = [] := by
 have h' : s.data.size = 0 := h;exact List.eq_nil_of_length_eq_zero (by rw [Array.length_toList]; exact h')
theorem yik {s : ByteArray} : (s.toList == (⟨#[]⟩ : ByteArray).toList) = decide (s.size = 0) := by
 rw [ByteArray.toList_eq, ByteArray.toList_eq, Bool.eq_iff_iff];simp only [beq_iff_eq, decide_eq_true_eq]
 constructor
 · intro h;have := congrArg List.length h;exact this
 · intro h;exact no_byte h
section
variable (w : World) {bp op cp bf of cf bl ol cl : Nat} (k : Int) (s : ByteArray) (hs : s.size ≤ 140737488355328) (hT : Tabs bp op cp bf of cf bl ol cl w) (hE : ∃ te pe, w.cell? ⟨2, 0, none⟩ = some (.iface te pe))
include hs hT hE
theorem const_any : Calls Tryd.prog 17 #[.agg #[.int .i64 k, .string s]] w fun e w' => e = .returned (.bool (zez (k, s))) ∧ Below w.heap.size w w' := by
 obtain ⟨te, pe, hE⟩ := hE;refine yk Tryd.func17 rfl Tryd.ntmps17 rfl ?_;have HF : Per (No) w (fun _ => True) := Per.true_;have LW := erx (No) w;have XLW := grx (No) w;have E := erx (No) w;replace HF := HF.on E;replace LW := LW.step E XLW;replace E := erx (No) w;replace HF := HF.and (Per.tabs hT (fun _ h => h.elim));replace HF := HF.on E;replace LW := LW.step E XLW;replace E := erx (No) w
 replace HF := HF.and (Per.cellA hE (fun _ h => h.elim));refine srx (za rfl (jx rfl ?_));intro gb1 w2 Bb1 Eb1 Gb1;have Gb1 : _ ≤ gb1 := Nat.le_trans E.size Gb1;have GLb1 := Nat.le_trans LW.size Gb1;replace E := E.trans Eb1.no;replace HF := HF.cons (yf Gb1);replace E := E.cons (some gb1);replace XLW := Mut.grow XLW (fun k e => Or.inr (Nat.le_trans LW.size ((yf Gb1) k e)))
 replace HF := HF.on E;replace LW := LW.step E XLW;have SB : ∀ q9, No q9 → Mut [(some gb1)] q9 := (Mut.skip Mut.nil_);replace HF := HF.less SB;replace XLW := fun k h => XLW k (SB k h);clear SB;replace E := erx (No) w2;replace HF := HF.and (Per.blkN Bb1 NotIn.nil)
 refine anx rfl (srx (anx rfl (zf (zy (srx (za rfl (zb Tryd.underlying55 rfl sz3 (by decide) rfl (za rfl (zl Tryd.underlying3 rfl rfl (HF.on E).here.2 rfl (za rfl (ye rfl rfl (anx rfl ?_))))))))))));by_cases h3 : k = 3
 ·
  refine zv 4 (.bool true) rfl ((by rw [h3]; rfl : (.bool (k == 3) : Value) = _)) (ym rfl (srx (za rfl (zb Tryd.underlying55 rfl sz9 (by decide) rfl (za rfl (zl Tryd.underlying9 rfl rfl (HF.on E).here.2 rfl (za rfl (qc Tryd.underlying9 rfl (za rfl (gz rfl rfl (anx rfl (zr (zp (zd (zq (rs := [.tmp 2]) (vs := [_]) rfl ⟨rfl, trivial⟩ ?_)))))))))))))))
  exact ⟨by rw [h3, conC_str]; refine congrArg (fun z => Ending.returned (.bool z)) ?_; rw [decide_eq_decide]; omega, (LW.step E XLW).toBelow⟩
 ·
  refine zv 4 (.bool false) rfl ((by congr 1; rw [beq_eq_false_iff_ne]; exact h3 : (.bool (k == 3) : Value) = _)) (zx rfl (srx (za rfl (zb Tryd.underlying55 rfl sz9 (by decide) rfl (za rfl (zl Tryd.underlying9 rfl rfl (HF.on E).here.2 rfl (za rfl (oh rfl rfl (mvx rfl ?_)))))))));by_cases h0 : s.size = 0
  ·
   refine yc 16 (.bool true) rfl (by rw [yik, decide_eq_true h0]) (za rfl (zc rfl (za rfl (zc rfl (za rfl (zc rfl (za rfl (zc rfl (za rfl (zw rfl rfl (mvx rfl (za rfl (zc rfl (za rfl (zc rfl (za rfl (zc rfl (za rfl (zc rfl (za rfl (zw rfl rfl (anx rfl (ym rfl (zk (zm (ze (srx (mvx rfl (za rfl (ye rfl rfl (anx rfl (zr (zq (rs := [.tmp 2]) (vs := [_]) rfl ⟨rfl, trivial⟩ ?_)))))))))))))))))))))))))))))))))
   exact ⟨by rw [conC_bad h3 (fun b hb => by rw [no_byte h0] at hb; cases hb)]; rfl, (LW.step E XLW).toBelow⟩
  ·
   refine yc 16 (.bool false) rfl (by rw [yik, decide_eq_false h0]) ?_;obtain ⟨b, hb0, hb1⟩ := first_byte (show 0 < s.size by omega)
   refine onx rfl (zb Tryd.underlying55 rfl sz9 (by decide) rfl (onx rfl (zl Tryd.underlying9 rfl rfl (HF.on E).here.2 rfl (onx rfl (yg (j := 0) (b := b.toNat) Tryd.underlying9 rfl rfl rfl hb1 (onx rfl (yv rfl rfl (za rfl (yb rfl rfl (mvx rfl ?_))))))))));by_cases hl : b.toNat < 48
   ·
    refine yc 22 (.bool true) rfl ((by rw [decide_eq_true]; omega : (.bool (decide (((b.toNat : Nat) : Int) < 48)) : Value) = _)) (za rfl (zc rfl (za rfl (zc rfl (za rfl (zc rfl (za rfl (zc rfl (za rfl (zw rfl rfl (anx rfl (ym rfl (zk (zm (ze (srx (mvx rfl (za rfl (ye rfl rfl (anx rfl (zr (zq (rs := [.tmp 2]) (vs := [_]) rfl ⟨rfl, trivial⟩ ?_))))))))))))))))))))))
    exact ⟨by rw [conC_bad h3 (fun b' hb => by rw [hb0] at hb; cases hb; unfold qz; rw [decide_eq_false (by omega)]; rfl)]; rfl, (LW.step E XLW).toBelow⟩
   ·
    refine yc 22 (.bool false) rfl ((by rw [decide_eq_false]; omega : (.bool (decide (((b.toNat : Nat) : Int) < 48)) : Value) = _)) (onx rfl (zb Tryd.underlying55 rfl sz9 (by decide) rfl (onx rfl (zl Tryd.underlying9 rfl rfl (HF.on E).here.2 rfl (onx rfl (yg (j := 0) (b := b.toNat) Tryd.underlying9 rfl rfl rfl hb1 (onx rfl (qo rfl rfl (za rfl (yb rfl rfl (anx rfl ?_)))))))))))
    by_cases hh : 57 < b.toNat
    ·
     refine zv 12 (.bool true) rfl ((by rw [decide_eq_true]; omega : (.bool (decide (57 < ((b.toNat : Nat) : Int))) : Value) = _)) (ym rfl (zk (zm (ze (srx (mvx rfl (za rfl (ye rfl rfl (anx rfl (zr (zq (rs := [.tmp 2]) (vs := [_]) rfl ⟨rfl, trivial⟩ ?_)))))))))))
     exact ⟨by rw [conC_bad h3 (fun b' hb => by rw [hb0] at hb; cases hb; unfold qz; rw [decide_eq_false (show ¬ b.toNat ≤ 57 by omega), Bool.and_false])]; rfl, (LW.step E XLW).toBelow⟩
    ·
     refine zv 12 (.bool false) rfl ((by rw [decide_eq_false]; omega : (.bool (decide (57 < ((b.toNat : Nat) : Int))) : Value) = _)) ?_;have hd : qz b = true := by unfold qz; rw [decide_eq_true (by omega), decide_eq_true (by omega)]; rfl
     have htr := textR_dig hb0 hd;refine zx rfl (srx (za rfl (zb Tryd.underlying55 rfl sz3 (by decide) rfl (za rfl (zl Tryd.underlying3 rfl rfl (HF.on E).here.2 rfl (za rfl (ye rfl rfl (anx rfl ?_))))))));by_cases h1 : k = 1
     ·
      refine zv 28 (.bool true) rfl ((by rw [h1]; rfl : (.bool (k == 1) : Value) = _)) (ym rfl (zj (za rfl (zb Tryd.underlying55 rfl sz9 (by decide) rfl (za rfl (zl Tryd.underlying9 rfl rfl (HF.on E).here.2 rfl (za rfl (ya en20 rfl ((parse_any s _ hs).mono ?_)))))))));rintro e w3 ⟨A1, c1, rfl, o1, hb⟩;refine ⟨_, rfl, ?_⟩;replace E := blx E hb
      refine mvx rfl (za rfl (zz rfl rfl (za rfl (zz rfl rfl (avx rfl (yd (zm (ze (srx (mvx rfl (za rfl (ye rfl rfl (anx rfl (zr (zq (rs := [.tmp 2]) (vs := [_]) rfl ⟨rfl, trivial⟩ ?_)))))))))))))))
      exact ⟨by rw [h1, conC_int, htr]; refine congrArg (fun z => Ending.returned (.bool z)) ?_; first | rfl | (rw [Bool.eq_iff_iff]; simp; done), (LW.step E XLW).toBelow⟩
     ·
      refine zv 28 (.bool false) rfl ((by congr 1; rw [beq_eq_false_iff_ne]; exact h1 : (.bool (k == 1) : Value) = _)) (zx rfl (srx (za rfl (zb Tryd.underlying55 rfl sz3 (by decide) rfl (za rfl (zl Tryd.underlying3 rfl rfl (HF.on E).here.2 rfl (za rfl (ye rfl rfl (anx rfl ?_)))))))));by_cases h2 : k = 2
      ·
       refine zv 38 (.bool true) rfl ((by rw [h2]; rfl : (.bool (k == 2) : Value) = _)) (ym rfl (zj (za rfl (zb Tryd.underlying55 rfl sz9 (by decide) rfl (za rfl (zl Tryd.underlying9 rfl rfl (HF.on E).here.2 rfl (za rfl (ya en21 rfl ((realparse_any _ s (HF.on E).here.1.1.2 ⟨te, pe, (HF.on E).here.1.2⟩).mono ?_)))))))));rintro e w4 ⟨rfl, hb⟩
       refine ⟨_, rfl, ?_⟩;replace E := blx E hb;refine mvx rfl (za rfl (zz rfl rfl (za rfl (zz rfl rfl (avx rfl (yd (zm (ze (srx (mvx rfl (za rfl (ye rfl rfl (anx rfl (zr (zq (rs := [.tmp 2]) (vs := [_]) rfl ⟨rfl, trivial⟩ ?_)))))))))))))))
       exact ⟨by rw [h2, conC_flt hb0 hd]; refine congrArg (fun z => Ending.returned (.bool z)) ?_; first | rfl | (rw [Bool.eq_iff_iff]; simp; done), (LW.step E XLW).toBelow⟩
      ·
       refine zv 38 (.bool false) rfl ((by congr 1; rw [beq_eq_false_iff_ne]; exact h2 : (.bool (k == 2) : Value) = _)) (zx rfl (zk (zm (ze (srx (mvx rfl (za rfl (ye rfl rfl (anx rfl (zr (zq (rs := [.tmp 2]) (vs := [_]) rfl ⟨rfl, trivial⟩ ?_)))))))))));exact ⟨by rw [conC_other h3 h1 h2]; rfl, (LW.step E XLW).toBelow⟩
end
end Go.Proofs.YtmjbnhjgebjhlaaDoor
namespace Go.Proofs.YtmjbnhjgebjhlaaDoor
open Go.RowKit
set_option maxRecDepth 100000
attribute [local irreducible] OW RS
theorem rgC_eq (f : LFn) (r : LReg) : rgC f r = (decide (0 ≤ r.fr) && (decide (r.fr ≤ r.to) && (decide (r.to ≤ (f.ins.length : Int)) && ((decide (0 ≤ r.tg) && decide (r.tg < (f.ins.length : Int))) && (decide (0 ≤ r.d) && decide (r.d < f.regs)))))) := rfl
section
variable (w : World) {bp op cp bf of cf bl ol cl : Nat} (k : Int) (s : ByteArray) (hs : s.size ≤ 140737488355328) (hT : Tabs bp op cp bf of cf bl ol cl w) (hE : ∃ te pe, w.cell? ⟨2, 0, none⟩ = some (.iface te pe))
include hs hT hE
end
/-! ### heads -/
def zax (f : LFn) : Prop := 0 ≤ f.regs ∧ f.regs ≤ 65536 ∧ 0 ≤ f.params ∧ f.params ≤ f.regs ∧ 0 ≤ f.frees ∧ 0 ≤ f.bound ∧ f.ins.length ≠ 0
instance (f : LFn) : Decidable (zax f) := by unfold zax; infer_instance
def strC (s : ByteArray) : Bool := decide (s.size ≤ 20000)
def oy (f : LFn) (n : Nat) : Bool := decide (0 < n) || (decide (f.params = 0) && (decide (f.frees = 0) && !f.gen))
theorem zfk (f : LFn) (n : Nat) : jt f n = (decide (zax f) && ((f.name :: f.names).all strC && (f.consts.all zez && oy f n))) := by
 rw [Bool.eq_iff_iff, Bool.and_eq_true, decide_eq_true_iff];unfold jt zax oy strC;simp only [Bool.and_eq_true, decide_eq_true_eq, List.all_cons, and_assoc]
theorem zaz {f : LFn} {n : Nat} (h : ¬ zax f) : jt f n = false := by rw [zfk, decide_eq_false h]; rfl
theorem headC_str {f : LFn} {n k : Nat} {s : ByteArray} (h : (f.name :: f.names)[k]? = some s) (hs : strC s = false) : jt f n = false := by rw [zfk, jg h hs, Bool.false_and, Bool.and_false]
theorem headC_con {f : LFn} {n k : Nat} {c : Int × ByteArray} (h : f.consts[k]? = some c) (hs : zez c = false) : jt f n = false := by rw [zfk, jg h hs, Bool.false_and, Bool.and_false, Bool.and_false]
theorem zjz {f : LFn} {n : Nat} (h : zax f) (h1 : (f.name :: f.names).all strC = true) (h2 : f.consts.all zez = true) : jt f n = oy f n := by rw [zfk, decide_eq_true h, h1, h2]; rfl
def StrRow (m : Nat) (w : World) (A : Option Addr) (xs : List ByteArray) : Prop := RowS m w 1 (fun w g o x => w.cell? ⟨g, o, none⟩ = some (.string x)) A xs
theorem StrRow.low {m : Nat} {X : Nat → Prop} {w w' : World} {A : Option Addr} {xs : List ByteArray} (h : StrRow m w A xs) (k : Low m X w w') : StrRow m w' A xs := RowS.low h fun _ _ _ hg hc => k.cell hg hc
theorem StrRow.cell {m : Nat} {w : World} {A : Option Addr} {xs : List ByteArray} (h : StrRow m w A xs) {j : Nat} {x : ByteArray} (hj : xs[j]? = some x) : ∃ g o, A = some ⟨g, o, none⟩ ∧ g < m ∧ w.cell? ⟨g, o + j, none⟩ = some (.string x) := by
 obtain ⟨g, o, e, hg, hc⟩ := RowS.at h hj;exact ⟨g, o, e, hg, by rwa [Nat.mul_one] at hc⟩
theorem Per.strRow {m : Nat} {X : Nat → Prop} {w : World} {A : Option Addr} {xs : List ByteArray} (h : StrRow m w A xs) (hX : ∀ k, X k → m ≤ k) : Per X w (fun z => StrRow m z A xs) := fun _ hb => h.low ⟨hb, hX⟩
def zlv (xs : List ByteArray) : List Value := xs.map fun x => .string x
theorem strRow_owns {w : World} {lo c n : Nat} {A : Option Addr} {xs : List ByteArray} (h : w.ownsRow lo 9 1 (.slice A n c) n (zlv xs)) (hn : n = xs.length) : StrRow w.heap.size w A xs := fun h0 => by
 subst hn;obtain ⟨g, hA, _, hg, hc⟩ := zuv h (List.length_pos_iff.2 h0);refine ⟨g, 0, hA, hg, fun j x hj => ?_⟩;show w.cell? ⟨g, 0 + j * 1, none⟩ = _
 rw [Nat.zero_add, Nat.mul_one];refine hc j _ ?_;unfold zlv;rw [List.getElem?_map, hj]; rfl
theorem StrsA.readsV {n : Nat} {w : World} {A : Option Addr} {xs : List ByteArray} (h : StrsA n w A xs) {B : Nat} (hB : n ≤ B) : Reads w B 1 A xs.length (zlv xs) := by
 refine ⟨by unfold zlv; simp, fun h0 => ?_⟩;obtain ⟨g, o, e, hg, hc⟩ := h.row (fun e => by rw [e] at h0; simp [zlv] at h0);refine ⟨_, e, by show g < B; omega, fun j u hj => ?_⟩;unfold zlv at hj;rw [List.getElem?_map, Option.map_eq_some_iff] at hj;obtain ⟨x, hx, rfl⟩ := hj;have h9 := hc j x hx;rw [Nat.mul_one] at h9;rw [Lib.add_plain];exact h9
theorem ConsA.at {n : Nat} {w : World} {A : Option Addr} {xs : List (Int × ByteArray)} (h : ConsA n w A xs) {j : Nat} {x : Int × ByteArray} (hj : xs[j]? = some x) : ∃ g o, A = some ⟨g, o, none⟩ ∧ g < n ∧ xp w g (o + j * 2) [.int .i64 x.1, .string x.2] := h.row.at hj
section
variable (w : World) {bp op cp bf of cf bl ol cl : Nat} (p : Pl) (f : LFn) (n0 n : Nat) (hF : FnA n0 w p f) (hs : ∀ c ∈ f.consts, c.2.size ≤ 140737488355328) (hT : Tabs bp op cp bf of cf bl ol cl w) (hE : ∃ te pe, w.cell? ⟨2, 0, none⟩ = some (.iface te pe))
include hF hs hT hE
set_option maxHeartbeats 1000000 in
theorem head_any : Calls Tryd.prog 12 #[fnV p f, .int .i64 ((n : Nat) : Int)] w fun e w' => e = .returned (.bool (jt f n)) ∧ Below w.heap.size w w' := by
 obtain ⟨te, pe, hE⟩ := hE;have hnl := hF.names.len;have hcl := hF.consts.len;have hsz := hF.size;refine yk Tryd.func12 rfl Tryd.ntmps12 rfl ?_;have HF : Per (No) w (fun _ => True) := Per.true_;have LW := erx (No) w;have XLW := grx (No) w;have E := erx (No) w;replace HF := HF.on E;replace LW := LW.step E XLW;replace E := erx (No) w;replace HF := HF.and (Per.fnA hF (fun _ h => h.elim))
 replace HF := HF.on E;replace LW := LW.step E XLW;replace E := erx (No) w;replace HF := HF.and (Per.tabs hT (fun _ h => h.elim));replace HF := HF.on E;replace LW := LW.step E XLW;replace E := erx (No) w;replace HF := HF.and (Per.cellA hE (fun _ h => h.elim));refine srx (za rfl (jx rfl ?_));intro gb1 w2 Bb1 Eb1 Gb1;have Gb1 : _ ≤ gb1 := Nat.le_trans E.size Gb1
 have GLb1 := Nat.le_trans LW.size Gb1;replace E := E.trans Eb1.no;replace HF := HF.cons (yf Gb1);replace E := E.cons (some gb1);replace XLW := Mut.grow XLW (fun k e => Or.inr (Nat.le_trans LW.size ((yf Gb1) k e)));replace HF := HF.on E;replace LW := LW.step E XLW;have SB : ∀ q9, No q9 → Mut [(some gb1)] q9 := (Mut.skip Mut.nil_);replace HF := HF.less SB
 replace XLW := fun k h => XLW k (SB k h);clear SB;replace E := erx (No) w2;replace HF := HF.and (Per.blkN Bb1 NotIn.nil);refine anx rfl (zf (srx (za rfl (zb Tryd.underlying37 rfl sz3 (by decide) rfl (za rfl (zl Tryd.underlying3 rfl rfl (HF.on E).here.2 rfl (za rfl (yv rfl rfl (mvx rfl (yp 12 rfl (fun h1 => ?_) (fun h1 => ?_)))))))))))
 ·
  replace h1 := of_decide_eq_true h1
  refine za rfl (zc rfl (za rfl (zc rfl (za rfl (zc rfl (za rfl (zw rfl rfl (mvx rfl (za rfl (zc rfl (za rfl (zc rfl (za rfl (zc rfl (za rfl (zw rfl rfl (mvx rfl (za rfl (zc rfl (za rfl (zc rfl (za rfl (zc rfl (za rfl (zc rfl (za rfl (zc rfl (za rfl (zw rfl rfl (mvx rfl (za rfl (zc rfl (za rfl (zc rfl (za rfl (zc rfl (za rfl (zw rfl rfl (mvx rfl (za rfl (zc rfl (za rfl (zc rfl (za rfl (zc rfl (za rfl (zw rfl rfl (mvx rfl (za rfl (zc rfl (za rfl (zc rfl (za rfl (zc rfl (za rfl (zc rfl (za rfl (zw rfl rfl (rnx (ym rfl (srx (anx rfl ?_))))))))))))))))))))))))))))))))))))))))))))))))))))))))))))))
  refine zr (zd (zq (rs := [.tmp 4]) (vs := [_]) rfl ⟨rfl, trivial⟩ ?_));exact ⟨by rw [zaz (by unfold zax; omega)]; rfl, (LW.step E XLW).toBelow⟩
 replace h1 := of_decide_eq_false h1;refine onx rfl (zb Tryd.underlying37 rfl sz3 (by decide) rfl (onx rfl (zl Tryd.underlying3 rfl rfl (HF.on E).here.2 rfl (onx rfl (qo rfl rfl (za rfl (yb rfl rfl (mvx rfl (yp 17 rfl (fun h2 => ?_) (fun h2 => ?_))))))))))
 ·
  replace h2 := of_decide_eq_true h2
  refine za rfl (zc rfl (za rfl (zc rfl (za rfl (zc rfl (za rfl (zw rfl rfl (mvx rfl (za rfl (zc rfl (za rfl (zc rfl (za rfl (zc rfl (za rfl (zc rfl (za rfl (zc rfl (za rfl (zw rfl rfl (mvx rfl (za rfl (zc rfl (za rfl (zc rfl (za rfl (zc rfl (za rfl (zw rfl rfl (mvx rfl (za rfl (zc rfl (za rfl (zc rfl (za rfl (zc rfl (za rfl (zw rfl rfl (mvx rfl (za rfl (zc rfl (za rfl (zc rfl (za rfl (zc rfl (za rfl (zc rfl (za rfl (zw rfl rfl (rnx (ym rfl (srx (anx rfl (zr (zd (zq (rs := [.tmp 4]) (vs := [_]) rfl ⟨rfl, trivial⟩ ?_))))))))))))))))))))))))))))))))))))))))))))))))))))))))
  exact ⟨by rw [zaz (by unfold zax; omega)]; rfl, (LW.step E XLW).toBelow⟩
 replace h2 := of_decide_eq_false h2;refine onx rfl (zb Tryd.underlying37 rfl sz3 (by decide) rfl (onx rfl (zl Tryd.underlying3 rfl rfl (HF.on E).here.2 rfl (onx rfl (yv rfl rfl (za rfl (yb rfl rfl (mvx rfl (yp 22 rfl (fun h3 => ?_) (fun h3 => ?_))))))))))
 ·
  replace h3 := of_decide_eq_true h3
  refine za rfl (zc rfl (za rfl (zc rfl (za rfl (zc rfl (za rfl (zc rfl (za rfl (zc rfl (za rfl (zw rfl rfl (mvx rfl (za rfl (zc rfl (za rfl (zc rfl (za rfl (zc rfl (za rfl (zw rfl rfl (mvx rfl (za rfl (zc rfl (za rfl (zc rfl (za rfl (zc rfl (za rfl (zw rfl rfl (mvx rfl (za rfl (zc rfl (za rfl (zc rfl (za rfl (zc rfl (za rfl (zc rfl (za rfl (zw rfl rfl (rnx (ym rfl (srx (anx rfl (zr (zd (zq (rs := [.tmp 4]) (vs := [_]) rfl ⟨rfl, trivial⟩ ?_)))))))))))))))))))))))))))))))))))))))))))))))
  exact ⟨by rw [zaz (by unfold zax; omega)]; rfl, (LW.step E XLW).toBelow⟩
 replace h3 := of_decide_eq_false h3
 refine onx rfl (zb Tryd.underlying37 rfl sz3 (by decide) rfl (onx rfl (zl Tryd.underlying3 rfl rfl (HF.on E).here.2 rfl (onx rfl (zb Tryd.underlying37 rfl sz3 (by decide) rfl (onx rfl (zl Tryd.underlying3 rfl rfl (HF.on E).here.2 rfl (onx rfl (qo rfl rfl (za rfl (yb rfl rfl (mvx rfl (yp 29 rfl (fun h4 => ?_) (fun h4 => ?_))))))))))))))
 ·
  replace h4 := of_decide_eq_true h4
  refine za rfl (zc rfl (za rfl (zc rfl (za rfl (zc rfl (za rfl (zw rfl rfl (mvx rfl (za rfl (zc rfl (za rfl (zc rfl (za rfl (zc rfl (za rfl (zw rfl rfl (mvx rfl (za rfl (zc rfl (za rfl (zc rfl (za rfl (zc rfl (za rfl (zc rfl (za rfl (zw rfl rfl (rnx (ym rfl (srx (anx rfl (zr (zd (zq (rs := [.tmp 4]) (vs := [_]) rfl ⟨rfl, trivial⟩ ?_))))))))))))))))))))))))))))))))))
  exact ⟨by rw [zaz (by unfold zax; omega)]; rfl, (LW.step E XLW).toBelow⟩
 replace h4 := of_decide_eq_false h4;refine onx rfl (zb Tryd.underlying37 rfl sz3 (by decide) rfl (onx rfl (zl Tryd.underlying3 rfl rfl (HF.on E).here.2 rfl (onx rfl (yv rfl rfl (za rfl (yb rfl rfl (mvx rfl (yp 34 rfl (fun h5 => ?_) (fun h5 => ?_))))))))))
 ·
  replace h5 := of_decide_eq_true h5
  refine za rfl (zc rfl (za rfl (zc rfl (za rfl (zc rfl (za rfl (zw rfl rfl (mvx rfl (za rfl (zc rfl (za rfl (zc rfl (za rfl (zc rfl (za rfl (zc rfl (za rfl (zw rfl rfl (rnx (ym rfl (srx (anx rfl (zr (zd (zq (rs := [.tmp 4]) (vs := [_]) rfl ⟨rfl, trivial⟩ ?_)))))))))))))))))))))))))
  exact ⟨by rw [zaz (by unfold zax; omega)]; rfl, (LW.step E XLW).toBelow⟩
 replace h5 := of_decide_eq_false h5;refine onx rfl (zb Tryd.underlying37 rfl sz3 (by decide) rfl (onx rfl (zl Tryd.underlying3 rfl rfl (HF.on E).here.2 rfl (onx rfl (yv rfl rfl (za rfl (yb rfl rfl (mvx rfl (yp 39 rfl (fun h6 => ?_) (fun h6 => ?_))))))))))
 ·
  replace h6 := of_decide_eq_true h6;refine za rfl (zc rfl (za rfl (zc rfl (za rfl (zc rfl (za rfl (zc rfl (za rfl (zw rfl rfl (rnx (ym rfl (srx (anx rfl (zr (zd (zq (rs := [.tmp 4]) (vs := [_]) rfl ⟨rfl, trivial⟩ ?_))))))))))))))));exact ⟨by rw [zaz (by unfold zax; omega)]; rfl, (LW.step E XLW).toBelow⟩
 replace h6 := of_decide_eq_false h6;refine onx rfl (zb Tryd.underlying37 rfl og (by decide) rfl (onx rfl (zl Tryd.underlying34 rfl rfl (HF.on E).here.2 rfl (onx rfl (vj Tryd.underlying34 rfl (onx rfl (ye rfl rfl (za rfl (yb rfl rfl (rnx (zt rfl (fun h7 => ?_) (fun h7 => ?_))))))))))))
 ·
  refine zv 44 (.bool true) rfl (congrArg Value.bool h7) ?_;replace h7 := eq_of_beq h7;refine srx (anx rfl (zr (zd (zq (rs := [.tmp 4]) (vs := [_]) rfl ⟨rfl, trivial⟩ ?_))));exact ⟨by rw [zaz (by unfold zax; omega)]; rfl, (LW.step E XLW).toBelow⟩
 refine zv 44 (.bool false) rfl (congrArg Value.bool h7) ?_;replace h7 := beq_eq_false_iff_ne.1 h7
 refine zk (ze (zf (srx (za rfl (zb Tryd.underlying37 rfl sz9 (by decide) rfl (za rfl (zl Tryd.underlying9 rfl rfl (HF.on E).here.2 rfl (za rfl (qn (cs := #[.string f.name]) Tryd.underlying32 sz9 zr9 (by decide) rfl (by rw [vw]; rfl) ?_)))))))));intro gb3 w4 Bb3 Eb3 Gb3;have Gb3 : _ ≤ gb3 := Nat.le_trans E.size Gb3
 have GLb3 := Nat.le_trans LW.size Gb3;replace E := E.trans Eb3.no;replace HF := HF.cons (yf Gb3);replace E := E.cons (some gb3);replace XLW := Mut.grow XLW (fun k e => Or.inr (Nat.le_trans LW.size ((yf Gb3) k e)));replace HF := HF.on E;replace LW := LW.step E XLW;have SB : ∀ q9, No q9 → Mut [(some gb3)] q9 := (Mut.skip Mut.nil_);replace HF := HF.less SB
 replace XLW := fun k h => XLW k (SB k h);clear SB;replace E := erx (No) w4;replace HF := HF.and (Per.blkN Bb3 NotIn.nil);refine za rfl (zb Tryd.underlying37 rfl sz32 (by decide) rfl (za rfl (zl Tryd.underlying32 rfl rfl (HF.on E).here.1.2 rfl ?_)));have hN : zax f := by unfold zax; omega
 have hFn := (HF.on E).here.1.1.1.1.2;have hTn := (HF.on E).here.1.1.1.2;have hEn := (HF.on E).here.1.1.2;have Bf := (HF.on E).here.1.2;have Bx := (HF.on E).here.2;have hL0 : Ext No w w4 := (LW.step E XLW)
 have O1 : w4.ownsRow w.heap.size 9 1 (.slice (some ⟨gb3, 0, none⟩) 1 1) 1 (zlv [f.name]) := ⟨by simp [zlv], Or.inr ⟨gb3, 1, _, rfl, GLb3, Bx, Nat.le_refl _, by unfold maxLen; omega, by simp, by simp [zlv]⟩⟩
 refine za rfl (zhv (n' := 1 + f.names.length) (xs' := zlv (f.name :: f.names)) Tryd.underlying32 inf9 rfl (by decide) rfl O1 rfl (hFn.names.readsV (Nat.le_refl _)) (fun u hu => by obtain ⟨x, _, rfl⟩ := List.mem_map.1 hu; rfl) rfl (by unfold zlv; rfl) (by unfold maxLen; omega) (by omega) hL0.size ?_);rintro A6 c6 wX O2 E2 N2
 have hLX : Ext No w wX := hL0.step E2 (fun q hq => Or.inr (own_ge O1 q hq));have hrow0 : StrRow wX.heap.size wX A6 (f.name :: f.names) := strRow_owns O2 (by rw [List.length_cons, Nat.add_comm]);have b1 := zsk Bf O1 (by decide) E2;have hFX := hF.low (X := No) ⟨hLX, fun _ h => h.elim⟩;have hTX := (Per.tabs hT (X := No) (fun _ h => h.elim)) _ hLX
 have hEX := (Per.cellA hE (X := No) (fun _ h => h.elim)) _ hLX;have R_b1 := b1;have LWn : Ext No w wX := hLX;clear HF E LW XLW;have HF : Per (No) wX (fun _ => True) := Per.true_;have LW := LWn;clear LWn;have XLW : Gro (No) (No) w := Mut.none_;have E := erx (No) wX;replace HF := HF.on E;replace LW := LW.step E XLW;replace E := erx (No) wX;replace HF := HF.and (Per.blk R_b1 (fun h => h.elim))
 replace HF := HF.on E;replace LW := LW.step E XLW;replace E := erx (No) wX;replace HF := HF.and (Per.fnA hFX (fun _ h => h.elim));replace HF := HF.on E;replace LW := LW.step E XLW;replace E := erx (No) wX;replace HF := HF.and (Per.tabs hTX (fun _ h => h.elim));replace HF := HF.on E;replace LW := LW.step E XLW;replace E := erx (No) wX;replace HF := HF.and (Per.cellA hEX (fun _ h => h.elim))
 replace HF := HF.on E;replace LW := LW.step E XLW;replace E := erx (No) wX;replace HF := HF.and (Per.strRow hrow0 (fun _ h => h.elim));refine za rfl (vj Tryd.underlying32 rfl (mvx rfl (rnx (zy ?_))));replace HF := HF.on E;replace LW := LW.step E XLW;replace E := erx (No) wX
 refine qq (ι := Nat) (fun k => [(1, .int .i64 ((n : Nat) : Int)), (2, .pointer (some ⟨gb1, 0, none⟩)), (50, .slice A6 (1 + f.names.length) c6), (51, .int .i64 ((1 + f.names.length : Nat) : Int)), (52, .int .i64 ((k : Nat) : Int))]) (fun k w' => Ext (No) wX w' ∧ (k ≤ 1 + f.names.length ∧ ((f.name :: f.names).take k).all strC = true)) (fun k => 1 + f.names.length - k) 0 ⟨rfl, rfl, rfl, rfl, rfl, trivial⟩ ⟨Ext.refl _ _, ⟨Nat.zero_le _, by rw [List.take_zero]; rfl⟩⟩ ?_
 rintro k w6 ⟨M5, ⟨hk, hall⟩⟩;have XM5 := grx (No) wX;replace E := E.trans M5;replace HF := HF.on E;replace LW := LW.step E XLW;replace E := erx (No) w6;refine srx (za rfl (yv rfl rfl (rnx (zf (zt rfl (fun q => ?_) (fun q => ?_))))))
 ·
  have q := of_decide_eq_true q;have hlt : k < (f.name :: f.names).length := by rw [List.length_cons]; omega
  obtain ⟨y, hy⟩ : ∃ y, (f.name :: f.names)[k]? = some y := ⟨_, List.getElem?_eq_getElem hlt⟩;obtain ⟨g, o, hB, hg, hc⟩ := ((HF.on E).here.2).cell hy
  refine zk (ze (zf (zy (srx (za rfl (xr (j := k) Tryd.underlying32 sz9 (congrArg (fun z ↦ some (Value.slice z (1 + f.names.length) c6)) hB) rfl rfl (by omega) (za rfl (yi Tryd.underlying9 rfl rfl hc (anx rfl (srx (mvx rfl (za rfl (qc Tryd.underlying9 rfl (za rfl (qo rfl rfl (rnx ?_))))))))))))))));by_cases hin : y.size ≤ 20000
  ·
   refine zv 58 (.bool false) rfl (by rw [decide_eq_false (by omega)]) (zx rfl (zk (zm (ze (zj (za rfl (yh rfl rfl (zo (by omega)) (mvx rfl (yd ?_)))))))))
   exact yn (k + 1) (by show 1 + f.names.length - (k + 1) < 1 + f.names.length - k; omega) ⟨rfl, rfl, rfl, rfl, rfl, trivial⟩ ⟨M5.step E XM5, ⟨by omega, zsv hy hall (decide_eq_true hin)⟩⟩
  ·
   refine zv 58 (.bool true) rfl (by rw [decide_eq_true (by omega)]) (ym rfl (srx (anx rfl (zr (zp (zd (zd (zp (zd (zq (rs := [.tmp 4]) (vs := [_]) rfl ⟨rfl, trivial⟩ ?_))))))))));exact ⟨by rw [headC_str hy (decide_eq_false hin)]; rfl, (LW.step E XLW).toBelow⟩
 ·
  have q := of_decide_eq_false q;have hall2 := ycq hall (by rw [List.length_cons]; omega)
  refine yo (zh (zh (zu (ze (zf (srx (za rfl (zb Tryd.underlying37 rfl sz33 (by decide) rfl (za rfl (zl Tryd.underlying33 rfl rfl (HF.on E).here.1.1.1.1.2 rfl (za rfl (vj Tryd.underlying33 rfl (mvx rfl (rnx (zy ?_)))))))))))))));replace HF := HF.on E;replace LW := LW.step E XLW;replace E := erx (No) w6
  refine qq (ι := Nat) (fun k => [(1, .int .i64 ((n : Nat) : Int)), (2, .pointer (some ⟨gb1, 0, none⟩)), (61, .slice p.ac f.consts.length p.cc), (62, .int .i64 ((f.consts.length : Nat) : Int)), (63, .int .i64 ((k : Nat) : Int))]) (fun k w' => Ext (No) w6 w' ∧ (k ≤ f.consts.length ∧ (f.consts.take k).all zez = true)) (fun k => f.consts.length - k) 0 ⟨rfl, rfl, rfl, rfl, rfl, trivial⟩ ⟨Ext.refl _ _, ⟨Nat.zero_le _, by rw [List.take_zero]; rfl⟩⟩ ?_
  rintro k w8 ⟨M7, ⟨hk2, hall3⟩⟩;have XM7 := grx (No) w6;replace E := E.trans M7;replace HF := HF.on E;replace LW := LW.step E XLW;replace E := erx (No) w8;refine srx (za rfl (yv rfl rfl (rnx (zf (zt rfl (fun q2 => ?_) (fun q2 => ?_))))))
  ·
   have q2 := of_decide_eq_true q2;have hlt : k < f.consts.length := by omega
   obtain ⟨y, hy⟩ : ∃ y, f.consts[k]? = some y := ⟨_, List.getElem?_eq_getElem hlt⟩;obtain ⟨g, o, hB, hg, hc⟩ := ((HF.on E).here.1.1.1.2).consts.at hy
   refine zk (ze (zf (zy (srx (za rfl (qh (j := k) Tryd.underlying33 sz55 (congrArg (fun z ↦ some (Value.slice z f.consts.length p.cc)) hB) rfl rfl hlt (za rfl (ow (cs := #[.int .i64 y.1, .string y.2]) Tryd.underlying55 rfl sz55 rfl rfl (fun j v hj ↦ hc j v (by simpa using hj)) (za rfl (va zr55 ?_))))))))));intro gb9 w10 Bb9 Eb9 Gb9
   have Gb9 : _ ≤ gb9 := Nat.le_trans E.size Gb9;have GLb9 := Nat.le_trans LW.size Gb9;replace E := E.trans Eb9.no;replace HF := HF.cons (yf Gb9);replace E := E.cons (some gb9);replace XLW := Mut.grow XLW (fun k e => Or.inr (Nat.le_trans LW.size ((yf Gb9) k e)));replace XM7 := Mut.grow XM7 (fun k e => Or.inr (Nat.le_trans M7.size ((yf Gb9) k e)))
   refine yu (gk sz55 rfl rfl Bb9 rfl rfl rfl ?_);intro w11 Bx Eb9;replace Bb9 : Blk w11 gb9 55 #[.int .i64 y.1, .string y.2] := Bx;replace E := E.step1 Eb9 Mut.head
   refine rnx (srx (za rfl (vh Tryd.underlying55 rfl sz55 rfl Bb9 rfl (za rfl (ya en17 rfl ((const_any _ y.1 y.2 (hs y (List.mem_of_getElem? hy)) (HF.on E).here.1.1.2 ⟨te, pe, (HF.on E).here.1.2⟩).mono ?_))))));rintro e w12 ⟨rfl, hb⟩;refine ⟨_, rfl, ?_⟩;have Ec := Ext.of_below hb No;replace Bb9 := Bb9.extN Ec NotIn.nil;replace E := E.trans Ec.no
   refine za rfl (vv rfl (rnx ?_));by_cases hin : zez y = true
   ·
    refine zv 69 (.bool false) rfl ((by rw [show zez (y.1, y.2) = true from hin]; rfl : (.bool (!(zez (y.1, y.2))) : Value) = _)) (zx rfl (zk (zm (ze (zj (za rfl (yh rfl rfl (zo (by omega)) (mvx rfl (yd ?_)))))))))
    exact yn (k + 1) (by show f.consts.length - (k + 1) < f.consts.length - k; omega) ⟨rfl, rfl, rfl, rfl, rfl, trivial⟩ ⟨M7.step E XM7, ⟨by omega, zsv hy hall3 hin⟩⟩
   ·
    have hin := Bool.eq_false_iff.2 hin;refine zv 69 (.bool true) rfl ((by rw [show zez (y.1, y.2) = false from hin]; rfl : (.bool (!(zez (y.1, y.2))) : Value) = _)) (ym rfl (srx (anx rfl (zr (zp (zd (zd (zp (zd (zq (rs := [.tmp 4]) (vs := [_]) rfl ⟨rfl, trivial⟩ ?_))))))))))
    exact ⟨by rw [headC_con hy hin]; rfl, (LW.step E XLW).toBelow⟩
  ·
   have q2 := of_decide_eq_false q2;have hall4 := ycq hall3 (by omega);refine yo (zh (zh (zu (ze (srx (mvx rfl (za rfl (qo rfl rfl (mvx rfl (yp 73 rfl (fun t1 => ?_) (fun t1 => ?_)))))))))))
   ·
    replace t1 := of_decide_eq_true t1
    refine za rfl (zc rfl (za rfl (zc rfl (za rfl (zc rfl (za rfl (zc rfl (za rfl (qr rfl rfl (za rfl (qr rfl rfl (za rfl (qr rfl rfl (za rfl (zc rfl (za rfl (zc rfl (za rfl (qr rfl rfl (za rfl (qr rfl rfl (za rfl (qr rfl rfl (za rfl (zc rfl (za rfl (zw rfl rfl (anx rfl (zr (zq (rs := [.tmp 4]) (vs := [_]) rfl ⟨rfl, trivial⟩ ?_))))))))))))))))))))))))))))))
    exact ⟨by rw [zjz hN hall2 hall4]; refine congrArg (fun z => Ending.returned (.bool z)) ?_; clear hF hs hT hFX hTX hall2 hall4 hall3 hall HF E LW; first | rfl | (simp_all [oy]; done) | (simp_all [oy]; omega) | (simp_all [oy]; rfl), (LW.step E XLW).toBelow⟩
   ·
    replace t1 := of_decide_eq_false t1;refine onx rfl (zb Tryd.underlying37 rfl sz3 (by decide) rfl (onx rfl (zl Tryd.underlying3 rfl rfl (HF.on E).here.1.1.1.1.2 rfl (onx rfl (ye rfl rfl (onx rfl (zn rfl (yp 77 rfl (fun t2 => ?_) (fun t2 => ?_)))))))))
    ·
     replace t2 := eq_of_beq t2;refine onx rfl (zb Tryd.underlying37 rfl sz3 (by decide) rfl (onx rfl (zl Tryd.underlying3 rfl rfl (HF.on E).here.1.1.1.1.2 rfl (onx rfl (ye rfl rfl (onx rfl (zw rfl rfl (onx rfl (zn rfl (yp 82 rfl (fun t3 => ?_) (fun t3 => ?_)))))))))))
     ·
      replace t3 := eq_of_beq t3;refine onx rfl (zb Tryd.underlying37 rfl sz4 (by decide) rfl (onx rfl (zl Tryd.underlying4 rfl rfl (HF.on E).here.1.1.1.1.2 rfl (onx rfl (vv rfl (onx rfl (zw rfl rfl (za rfl (yb rfl rfl (anx rfl (zr (zq (rs := [.tmp 4]) (vs := [_]) rfl ⟨rfl, trivial⟩ ?_))))))))))))
      exact ⟨by rw [zjz hN hall2 hall4]; refine congrArg (fun z => Ending.returned (.bool z)) ?_; clear hF hs hT hFX hTX hall2 hall4 hall3 hall HF E LW; first | rfl | (simp_all [oy]; done) | (simp_all [oy]; omega) | (simp_all [oy]; rfl), (LW.step E XLW).toBelow⟩
     ·
      replace t3 := beq_eq_false_iff_ne.1 t3;refine za rfl (zc rfl (za rfl (zc rfl (za rfl (zc rfl (onx rfl (yb rfl rfl (za rfl (yb rfl rfl (anx rfl (zr (zq (rs := [.tmp 4]) (vs := [_]) rfl ⟨rfl, trivial⟩ ?_))))))))))))
      exact ⟨by rw [zjz hN hall2 hall4]; refine congrArg (fun z => Ending.returned (.bool z)) ?_; clear hF hs hT hFX hTX hall2 hall4 hall3 hall HF E LW; first | rfl | (simp_all [oy]; done) | (simp_all [oy]; omega) | (simp_all [oy]; rfl), (LW.step E XLW).toBelow⟩
    ·
     replace t2 := beq_eq_false_iff_ne.1 t2;refine za rfl (zc rfl (za rfl (zc rfl (za rfl (zc rfl (onx rfl (yb rfl rfl (onx rfl (zn rfl (za rfl (zc rfl (za rfl (zc rfl (za rfl (zc rfl (onx rfl (yb rfl rfl (za rfl (yb rfl rfl (anx rfl (zr (zq (rs := [.tmp 4]) (vs := [_]) rfl ⟨rfl, trivial⟩ ?_))))))))))))))))))))))
     exact ⟨by rw [zjz hN hall2 hall4]; refine congrArg (fun z => Ending.returned (.bool z)) ?_; clear hF hs hT hFX hTX hall2 hall4 hall3 hall HF E LW; first | rfl | (simp_all [oy]; done) | (simp_all [oy]; omega) | (simp_all [oy]; rfl), (LW.step E XLW).toBelow⟩
end
end Go.Proofs.YtmjbnhjgebjhlaaDoor
namespace Go.Proofs.YtmjbnhjgebjhlaaDoor
open Go.RowKit
set_option maxRecDepth 100000
attribute [local irreducible] OW RS
theorem StrsA.cell {n : Nat} {w : World} {A : Option Addr} {xs : List ByteArray} (h : StrsA n w A xs) {j : Nat} {x : ByteArray} (hj : xs[j]? = some x) : ∃ g o, A = some ⟨g, o, none⟩ ∧ g < n ∧ w.cell? ⟨g, o + j, none⟩ = some (.string x) := by
 obtain ⟨g, o, e, hg, hc⟩ := h.row.at hj;exact ⟨g, o, e, hg, by rwa [Nat.mul_one] at hc⟩
def rgN (f : LFn) (r : LReg) : Prop := 0 ≤ r.fr ∧ r.fr ≤ r.to ∧ r.to ≤ (f.ins.length : Int) ∧ 0 ≤ r.tg ∧ r.tg < (f.ins.length : Int) ∧ 0 ≤ r.d ∧ r.d < f.regs
theorem rgC_no {f : LFn} {r : LReg} (h : ¬ rgN f r) : rgC f r = false := by
 rw [rgC_eq, Bool.eq_false_iff];intro h2;simp only [Bool.and_eq_true, decide_eq_true_eq] at h2
 exact h ⟨h2.1, h2.2.1, h2.2.2.1, h2.2.2.2.1.1, h2.2.2.2.1.2, h2.2.2.2.2.1, h2.2.2.2.2.2⟩
section
variable (w : World) {bp op cp bf of cf bl ol cl : Nat} (p : Pl) (f : LFn) (n0 n : Nat) (hF : FnA n0 w p f) (hs : ∀ c ∈ f.consts, c.2.size ≤ 140737488355328) (hT : Tabs bp op cp bf of cf bl ol cl w) (hE : ∃ te pe, w.cell? ⟨2, 0, none⟩ = some (.iface te pe))
include hF hs hT hE
end
section
variable (w : World) (p : Pl) (f : LFn) (n0 : Nat) (hF : FnA n0 w p f)
include hF
end
end Go.Proofs.YtmjbnhjgebjhlaaDoor
namespace Go.Proofs.YtmjbnhjgebjhlaaDoor
open Go.RowKit
set_option maxRecDepth 100000
attribute [local irreducible] OW RS flN uD uA uB uT uL rL rK rLo rHi
def res3 (t : Int × Int × Int) : Value := .tuple #[.int .i64 t.1, .int .i64 t.2.1, .int .i64 t.2.2]
theorem zrz {α : Type} {l : List α} {k : Nat} {x : α} (h : l[k]? = some x) : l.drop k = x :: l.drop (k + 1) := by
 obtain ⟨h1, h2⟩ := List.getElem?_eq_some_iff.1 h;rw [List.drop_eq_getElem_cons h1, h2]
theorem bad_step {fs : List LFn} {f : LFn} {k : Nat} {i : LIns} (h : f.ins[k]? = some i) (hi : vr fs f k i = true) : jo fs f k (f.ins.drop k) = jo fs f (k + 1) (f.ins.drop (k + 1)) := by
 rw [zrz h];show (if vr fs f k i = true then _ else _) = _
 rw [if_pos hi]
theorem bad_here {fs : List LFn} {f : LFn} {k : Nat} {i : LIns} (h : f.ins[k]? = some i) (hi : vr fs f k i = false) : jo fs f k (f.ins.drop k) = some k := by
 rw [zrz h];show (if vr fs f k i = true then _ else _) = _
 rw [hi]; rfl
theorem bad_end {fs : List LFn} {f : LFn} {k : Nat} (h : ¬ k < f.ins.length) : jo fs f k (f.ins.drop k) = none := by
 rw [List.drop_of_length_le (by omega)]; rfl
section
variable {fs : List LFn} {f : LFn} {k : Nat} (h : fs[k]? = some f)
include h
theorem go_head (h1 : jt f k = false) : goF fs k (fs.drop k) = ((k : Int), -1, 3) := by
 rw [zrz h];show (if jt f k = true then _ else _) = _
 rw [h1]; rfl
theorem go_ins {j : Nat} (h1 : jt f k = true) (h2 : jo fs f 0 f.ins = some j) : goF fs k (fs.drop k) = ((k : Int), (j : Int), 3) := by
 rw [zrz h];show (if jt f k = true then _ else _) = _
 rw [h1, if_pos rfl, h2]
theorem kt (h1 : jt f k = true) (h2 : jo fs f 0 f.ins = none) (h3 : f.rgs.all (rgC f) = false) : goF fs k (fs.drop k) = ((k : Int), -2, 3) := by
 rw [zrz h];show (if jt f k = true then _ else _) = _
 rw [h1, if_pos rfl, h2];show (if _ then _ else _) = _
 rw [h3]; rfl
theorem go_step (h1 : jt f k = true) (h2 : jo fs f 0 f.ins = none) (h3 : f.rgs.all (rgC f) = true) : goF fs k (fs.drop k) = goF fs (k + 1) (fs.drop (k + 1)) := by
 rw [zrz h];show (if jt f k = true then _ else _) = _
 rw [h1, if_pos rfl, h2];show (if _ then _ else _) = _
 rw [h3]; rfl
end
theorem go_end {fs : List LFn} {k : Nat} (h : ¬ k < fs.length) : goF fs k (fs.drop k) = (0, 0, 0) := by
 rw [List.drop_of_length_le (by omega)]; rfl
theorem yhz {fs : List LFn} (h : fs.length < 1 ∨ 4000 < fs.length) : kd fs = (-1, -1, 3) := if_pos h
theorem yhq {fs : List LFn} (h : ¬ (fs.length < 1 ∨ 4000 < fs.length)) : kd fs = goF fs 0 fs := if_neg h
theorem rgC_tg {f : LFn} {r : LReg} (h : inI r.tg f.ins.length = false) : rgC f r = false := by unfold rgC; rw [h]; simp
theorem rgC_d {f : LFn} {r : LReg} (h : inI r.d f.regs = false) : rgC f r = false := by unfold rgC; rw [h]; simp
theorem rgC_ok {f : LFn} {r : LReg} (h1 : 0 ≤ r.fr) (h2 : r.fr ≤ r.to) (h3 : r.to ≤ (f.ins.length : Int)) (h4 : inI r.tg f.ins.length = true) (h5 : inI r.d f.regs = true) : rgC f r = true := by unfold rgC; rw [h4, h5, decide_eq_true h1, decide_eq_true h2, decide_eq_true h3]; rfl
section
variable (w : World) {bp op cp bf of cf bl ol cl : Nat} (A : Option Addr) (n ca : Nat) (fs : List LFn) (hfs : FsA n w A fs) (hT : Tabs bp op cp bf of cf bl ol cl w) (hE : ∃ te pe, w.cell? ⟨2, 0, none⟩ = some (.iface te pe))
include hfs hT hE
set_option maxHeartbeats 1000000 in
theorem zsx : Calls Tryd.prog 6 #[.agg #[.slice A fs.length ca]] w fun e w' => e = .returned (res3 (kd fs)) ∧ Below w.heap.size w w' := by
 obtain ⟨te, pe, hE⟩ := hE;have hfl := hfs.len;refine yk Tryd.func6 rfl Tryd.ntmps6 rfl ?_;have HF : Per (No) w (fun _ => True) := Per.true_;have LW := erx (No) w;have XLW := grx (No) w;have E := erx (No) w;replace HF := HF.on E;replace LW := LW.step E XLW;replace E := erx (No) w;replace HF := HF.and (Per.fsA hfs (fun _ h => h.elim));replace HF := HF.on E;replace LW := LW.step E XLW
 replace E := erx (No) w;replace HF := HF.and (Per.tabs hT (fun _ h => h.elim));replace HF := HF.on E;replace LW := LW.step E XLW;replace E := erx (No) w;replace HF := HF.and (Per.cellA hE (fun _ h => h.elim));refine srx (za rfl (jx rfl ?_));intro gb1 w2 Bb1 Eb1 Gb1;have Gb1 : _ ≤ gb1 := Nat.le_trans E.size Gb1;have GLb1 := Nat.le_trans LW.size Gb1;replace E := E.trans Eb1.no
 replace HF := HF.cons (yf Gb1);replace E := E.cons (some gb1);replace XLW := Mut.grow XLW (fun k e => Or.inr (Nat.le_trans LW.size ((yf Gb1) k e)));replace HF := HF.on E;replace LW := LW.step E XLW;have SB : ∀ q9, No q9 → Mut [(some gb1)] q9 := (Mut.skip Mut.nil_);replace HF := HF.less SB;replace XLW := fun k h => XLW k (SB k h);clear SB;replace E := erx (No) w2
 replace HF := HF.and (Per.blkN Bb1 NotIn.nil);refine avx rfl (avx rfl (anx rfl (zf (srx (za rfl (zb Tryd.underlying24 rfl sz22 (by decide) rfl (za rfl (zl Tryd.underlying22 rfl rfl (HF.on E).here.2 rfl (za rfl (vj Tryd.underlying22 rfl (za rfl (yv rfl rfl (mvx rfl (yp 14 rfl (fun h1 => ?_) (fun h1 => ?_)))))))))))))))
 ·
  replace h1 := of_decide_eq_true h1;refine za rfl (zc rfl (za rfl (zc rfl (za rfl (zc rfl (za rfl (zc rfl (za rfl (zw rfl rfl (rnx (ym rfl (srx (avx rfl (avx rfl (anx rfl (zr (zd (zq (rs := [.tmp 2, .tmp 3, .tmp 4]) (vs := [_, _, _]) rfl ⟨rfl, rfl, rfl, trivial⟩ ?_))))))))))))))))))
  exact ⟨by rw [yhz (by omega)]; rfl, (LW.step E XLW).toBelow⟩
 replace h1 := of_decide_eq_false h1;refine onx rfl (zb Tryd.underlying24 rfl sz22 (by decide) rfl (onx rfl (zl Tryd.underlying22 rfl rfl (HF.on E).here.2 rfl (onx rfl (vj Tryd.underlying22 rfl (onx rfl (qo rfl rfl (za rfl (yb rfl rfl (rnx (zt rfl (fun h2 => ?_) (fun h2 => ?_))))))))))))
 ·
  refine zv 19 (.bool true) rfl (congrArg Value.bool h2) ?_;replace h2 := of_decide_eq_true h2;refine srx (avx rfl (avx rfl (anx rfl (zr (zd (zq (rs := [.tmp 2, .tmp 3, .tmp 4]) (vs := [_, _, _]) rfl ⟨rfl, rfl, rfl, trivial⟩ ?_))))));exact ⟨by rw [yhz (by omega)]; rfl, (LW.step E XLW).toBelow⟩
 refine zv 19 (.bool false) rfl (congrArg Value.bool h2) ?_;replace h2 := of_decide_eq_false h2;refine zk (ze (zf (srx (za rfl (zb Tryd.underlying24 rfl sz22 (by decide) rfl (za rfl (zl Tryd.underlying22 rfl rfl (HF.on E).here.2 rfl (za rfl (vj Tryd.underlying22 rfl (mvx rfl (rnx (zy ?_))))))))))));have hcg := yhq (fs := fs) (by omega)
 replace HF := HF.on E;replace LW := LW.step E XLW;replace E := erx (No) w2
 refine qq (ι := Nat) (fun k => [(1, .pointer (some ⟨gb1, 0, none⟩)), (21, .slice A fs.length ca), (22, .int .i64 ((fs.length : Nat) : Int)), (23, .int .i64 ((k : Nat) : Int))]) (fun k w' => Ext (No) w2 w' ∧ (k ≤ fs.length ∧ kd fs = goF fs k (fs.drop k))) (fun k => fs.length - k) 0 ⟨rfl, rfl, rfl, rfl, trivial⟩ ⟨Ext.refl _ _, ⟨Nat.zero_le _, hcg⟩⟩ ?_;rintro k w4 ⟨M3, ⟨hk, hgo⟩⟩
 have XM3 := grx (No) w2;replace E := E.trans M3;replace HF := HF.on E;replace LW := LW.step E XLW;replace E := erx (No) w4;refine srx (za rfl (yv rfl rfl (rnx (zf (zt rfl (fun q => ?_) (fun q => ?_))))))
 ·
  have q := of_decide_eq_true q;have hlt : k < fs.length := by omega
  obtain ⟨f, hf⟩ : ∃ f, fs[k]? = some f := ⟨_, List.getElem?_eq_getElem hlt⟩;obtain ⟨g, o, p, hA, hg, hF, hc⟩ := ((HF.on E).here.1.1.1.2).at hf;have hil := hF.ins.len;have hrl := hF.rgs.len;have hcs := hfs.strs f (List.mem_of_getElem? hf);replace HF := HF.on E;replace LW := LW.step E XLW;replace M3 := M3.step E XM3;replace E := erx (No) w4;replace HF := HF.and (Per.fnA hF (fun _ h => h.elim))
  refine zk (ze (zf (zy (srx (mvx rfl (za rfl (qh (j := k) Tryd.underlying22 ztx (congrArg (fun z ↦ some (Value.slice z fs.length ca)) hA) rfl rfl hlt (za rfl (ow (cs := (fnC p f).toArray) Tryd.underlying37 rfl ztx rfl rfl (fun j v hj ↦ hc j v (by simpa using hj)) (za rfl (va zr37 ?_)))))))))));intro gb5 w6 Bb5 Eb5 Gb5
  have Gb5 : _ ≤ gb5 := Nat.le_trans E.size Gb5;have GLb5 := Nat.le_trans LW.size Gb5;replace E := E.trans Eb5.no;replace HF := HF.cons (yf Gb5);replace E := E.cons (some gb5);replace XLW := Mut.grow XLW (fun k e => Or.inr (Nat.le_trans LW.size ((yf Gb5) k e)));replace XM3 := Mut.grow XM3 (fun k e => Or.inr (Nat.le_trans M3.size ((yf Gb5) k e)))
  refine avx rfl (yu (gk ztx rfl rfl Bb5 rfl rfl rfl ?_));intro w7 Bx Eb5;replace Bb5 : Blk w7 gb5 37 #[.string f.name, .int .i64 f.params, .int .i64 f.regs, .int .i64 f.frees, .bool f.gen, .int .i64 f.bound, .slice p.an f.names.length p.cn, .slice p.ac f.consts.length p.cc, .slice p.ai f.ins.length p.ci, .slice p.ar f.rgs.length p.cr] := Bx;replace E := E.step1 Eb5 Mut.head
  refine rnx (zf (srx (za rfl (vh Tryd.underlying37 rfl ztx rfl Bb5 rfl (mvx rfl (za rfl (ya en12 rfl ((head_any _ p f n k (HF.on E).here.2 hcs (HF.on E).here.1.1.1.2 ⟨te, pe, (HF.on E).here.1.1.2⟩).mono ?_))))))));rintro e w8 ⟨rfl, hb⟩;refine ⟨_, rfl, ?_⟩;have Ec := Ext.of_below hb No;replace Bb5 := Bb5.extN Ec NotIn.nil;replace E := E.trans Ec.no
  refine za rfl (vv rfl (rnx ?_));by_cases h1 : jt f k = true
  ·
   refine zv 31 (.bool false) rfl ((by rw [h1]; rfl : (.bool (!(jt f k)) : Value) = _)) (zx rfl (zk (ze (zf (srx (za rfl (zb Tryd.underlying37 rfl og (by decide) rfl (za rfl (zl Tryd.underlying34 rfl rfl Bb5 rfl (za rfl (vj Tryd.underlying34 rfl (mvx rfl (rnx (zy ?_))))))))))))));replace HF := HF.on E;replace LW := LW.step E XLW
   replace M3 := M3.step E XM3;replace E := erx (Mut [(some gb5)]) w8
   refine qq (ι := Nat) (fun j => [(1, .pointer (some ⟨gb1, 0, none⟩)), (5, .int .i64 ((k : Nat) : Int)), (6, .pointer (some ⟨gb5, 0, none⟩)), (21, .slice A fs.length ca), (22, .int .i64 ((fs.length : Nat) : Int)), (23, .int .i64 ((k : Nat) : Int)), (35, .int .i64 ((f.ins.length : Nat) : Int)), (36, .int .i64 ((j : Nat) : Int))]) (fun j w' => Ext (Mut [(some gb5)]) w8 w' ∧ Blk w' gb5 37 (#[.string f.name, .int .i64 f.params, .int .i64 f.regs, .int .i64 f.frees, .bool f.gen, .int .i64 f.bound, .slice p.an f.names.length p.cn, .slice p.ac f.consts.length p.cc, .slice p.ai f.ins.length p.ci, .slice p.ar f.rgs.length p.cr]) ∧ (j ≤ f.ins.length ∧ jo fs f 0 f.ins = jo fs f j (f.ins.drop j))) (fun j => f.ins.length - j) 0 ⟨rfl, rfl, rfl, rfl, rfl, rfl, rfl, rfl, trivial⟩ ⟨Ext.refl _ _, (by exact Bb5), ⟨Nat.zero_le _, rfl⟩⟩ ?_
   have LTb5 := (yj Bb5.lt);rintro j w10 ⟨M9, Bb5, ⟨hj, hba⟩⟩;have XM9 : Gro (Mut [(some gb5)]) (Mut [(some gb5)]) w8 := (Mut.grow Mut.none_ (fun k e => Or.inl (Mut.head k e)));replace E := E.trans M9;replace HF := HF.on E;replace LW := LW.step E XLW;replace M3 := M3.step E XM3;replace E := erx (Mut [(some gb5)]) w10;clear LTb5
   refine srx (za rfl (yv rfl rfl (rnx (zf (zt rfl (fun q2 => ?_) (fun q2 => ?_))))))
   ·
    have q2 := of_decide_eq_true q2;obtain ⟨i, hi⟩ : ∃ i, f.ins[j]? = some i := ⟨_, List.getElem?_eq_getElem (by omega)⟩
    refine zk (ze (zf (zy (srx (mvx rfl (anx rfl (srx (za rfl (vh Tryd.underlying24 rfl sz24 rfl (HF.on E).here.1.2 rfl (za rfl (vh Tryd.underlying37 rfl ztx rfl Bb5 rfl (mvx rfl (za rfl (ya en13 rfl ((insR_any _ A n ca fs (HF.on E).here.1.1.1.1.2 p f (HF.on E).here.2 j i hi).mono ?_)))))))))))))));rintro e w11 ⟨rfl, hb⟩;refine ⟨_, rfl, ?_⟩
    have Ec := Ext.of_below hb No;replace Bb5 := Bb5.extN Ec NotIn.nil;replace E := E.trans Ec.no;refine za rfl (vv rfl (rnx ?_));by_cases h2 : vr fs f j i = true
    ·
     refine zv 43 (.bool false) rfl ((by rw [h2]; rfl : (.bool (!(vr fs f j i)) : Value) = _)) (zx rfl (zk (zm (ze (zj (za rfl (yh rfl rfl (zo (by omega)) (mvx rfl (yd ?_)))))))))
     exact yn (j + 1) (by show f.ins.length - (j + 1) < f.ins.length - j; omega) ⟨rfl, rfl, rfl, rfl, rfl, rfl, rfl, rfl, trivial⟩ ⟨M9.step E XM9, (by exact Bb5), ⟨by omega, by rw [hba, bad_step hi h2]⟩⟩
    ·
     have h2 := Bool.eq_false_iff.2 h2
     refine zv 43 (.bool true) rfl ((by rw [h2]; rfl : (.bool (!(vr fs f j i)) : Value) = _)) (ym rfl (srx (mvx rfl (mvx rfl (avx rfl (avx rfl (anx rfl (zr (zp (zd (zd (zp (zd (zp (zd (zd (zp (zd (zq (rs := [.tmp 2, .tmp 3, .tmp 4]) (vs := [_, _, _]) rfl ⟨rfl, rfl, rfl, trivial⟩ ?_)))))))))))))))))))
     exact ⟨by rw [hgo, go_ins hf h1 (hba.trans (bad_here hi h2))]; rfl, (LW.step E XLW).toBelow⟩
   ·
    have q2 := of_decide_eq_false q2;have hbn := hba.trans (bad_end (by omega));refine yo (zh (zh (zu (ze (srx (za rfl (zb Tryd.underlying37 rfl sz35 (by decide) rfl (za rfl (zl Tryd.underlying35 rfl rfl Bb5 rfl (za rfl (vj Tryd.underlying35 rfl (mvx rfl (rnx (zy ?_))))))))))))));replace HF := HF.on E
    replace LW := LW.step E XLW;replace M3 := M3.step E XM3;replace E := erx (Mut [(some gb5)]) w10
    refine qq (ι := Nat) (fun j => [(1, .pointer (some ⟨gb1, 0, none⟩)), (5, .int .i64 ((k : Nat) : Int)), (6, .pointer (some ⟨gb5, 0, none⟩)), (21, .slice A fs.length ca), (22, .int .i64 ((fs.length : Nat) : Int)), (23, .int .i64 ((k : Nat) : Int)), (48, .slice p.ar f.rgs.length p.cr), (49, .int .i64 ((f.rgs.length : Nat) : Int)), (50, .int .i64 ((j : Nat) : Int))]) (fun j w' => Ext (Mut [(some gb5)]) w10 w' ∧ Blk w' gb5 37 (#[.string f.name, .int .i64 f.params, .int .i64 f.regs, .int .i64 f.frees, .bool f.gen, .int .i64 f.bound, .slice p.an f.names.length p.cn, .slice p.ac f.consts.length p.cc, .slice p.ai f.ins.length p.ci, .slice p.ar f.rgs.length p.cr]) ∧ (j ≤ f.rgs.length ∧ (f.rgs.take j).all (rgC f) = true)) (fun j => f.rgs.length - j) 0 ⟨rfl, rfl, rfl, rfl, rfl, rfl, rfl, rfl, rfl, trivial⟩ ⟨Ext.refl _ _, (by exact Bb5), ⟨Nat.zero_le _, by rw [List.take_zero]; rfl⟩⟩ ?_
    have LTb5 := (yj Bb5.lt);rintro j w13 ⟨M12, Bb5, ⟨hj, hall⟩⟩;have XM12 : Gro (Mut [(some gb5)]) (Mut [(some gb5)]) w10 := (Mut.grow Mut.none_ (fun k e => Or.inl (Mut.head k e)));replace E := E.trans M12;replace HF := HF.on E;replace LW := LW.step E XLW;replace M3 := M3.step E XM3;replace E := erx (Mut [(some gb5)]) w13;clear LTb5
    refine srx (za rfl (yv rfl rfl (rnx (zf (zt rfl (fun q3 => ?_) (fun q3 => ?_))))))
    ·
     have q3 := of_decide_eq_true q3;obtain ⟨r, hr⟩ : ∃ r, f.rgs[j]? = some r := ⟨_, List.getElem?_eq_getElem (by omega)⟩;obtain ⟨gr, ro, hAr, hgr, hcr⟩ := ((HF.on E).here.2).rgs.row.at hr
     refine zk (ze (zf (zy (srx (za rfl (qh (j := j) Tryd.underlying35 sz50 (congrArg (fun z ↦ some (Value.slice z f.rgs.length p.cr)) hAr) rfl rfl (by omega) (za rfl (ow (cs := (regV r).toArray) Tryd.underlying50 rfl sz50 rfl rfl (fun j v hj ↦ hcr j v (by simpa using hj)) (za rfl (va zr50 ?_))))))))));intro gb14 w15 Bb14 Eb14 Gb14
     have Db14_b5 : Apart (some gb14) (some gb5) := Apart.of_lt (yj Bb5.lt) Gb14;have Db5_b14 := Db14_b5.symm;have Gb14 : _ ≤ gb14 := Nat.le_trans E.size Gb14;have GLb14 := Nat.le_trans LW.size Gb14;replace Bb5 := Bb5.extN Eb14 NotIn.nil;replace E := E.trans Eb14.no;replace E := E.cons (some gb14);replace XLW := Mut.grow XLW (fun k e => Or.inr (Nat.le_trans LW.size ((yf Gb14) k e)))
     replace XM12 := Mut.grow XM12 (fun k e => Or.inr (Nat.le_trans M12.size ((yf Gb14) k e)));refine yu (gk sz50 rfl rfl Bb14 rfl rfl rfl ?_);intro w16 Bx Eb14;replace Bb14 : Blk w16 gb14 50 #[.int .i64 r.fr, .int .i64 r.to, .int .i64 r.tg, .int .i64 r.d] := Bx;replace Bb5 := Bb5.extN Eb14 (NotIn.cons Db5_b14 NotIn.nil);replace E := E.step1 Eb14 Mut.head
     refine rnx (srx (za rfl (zb Tryd.underlying50 rfl sz3 (by decide) rfl (za rfl (zl Tryd.underlying3 rfl rfl Bb14 rfl (za rfl (yv rfl rfl (mvx rfl (yp 57 rfl (fun t1 => ?_) (fun t1 => ?_))))))))))
     ·
      replace t1 := of_decide_eq_true t1
      refine za rfl (zc rfl (za rfl (zc rfl (za rfl (zc rfl (za rfl (zc rfl (za rfl (zc rfl (za rfl (zw rfl rfl (mvx rfl (za rfl (zc rfl (za rfl (zc rfl (za rfl (zc rfl (za rfl (zc rfl (za rfl (zc rfl (za rfl (zc rfl (za rfl (zw rfl rfl (mvx rfl (za rfl (zc rfl (za rfl (zc rfl (za rfl (zc rfl (za rfl (zc rfl (za rfl (zc rfl (za rfl (zc rfl (za rfl (zc rfl (za rfl (zw rfl rfl (mvx rfl (za rfl (zc rfl (za rfl (zc rfl (za rfl (zc rfl (za rfl (zc rfl (za rfl (zc rfl (za rfl (zc rfl (za rfl (zw rfl rfl (rnx (ym rfl (srx (mvx rfl (avx rfl (avx rfl (avx rfl ?_)))))))))))))))))))))))))))))))))))))))))))))))))))))))))))))))))
      refine rnx (zr (zp (zd (zd (zp (zp (zd (zd (zp (zd (zq (rs := [.tmp 2, .tmp 3, .tmp 4]) (vs := [_, _, _]) rfl ⟨rfl, rfl, rfl, trivial⟩ ?_)))))))))))
      exact ⟨by first | (rw [hgo, kt hf h1 hbn (jg hr (rgC_no (by unfold rgN; omega)))]; rfl) | (rw [hgo, kt hf h1 hbn (jg hr (rgC_tg (by simpa [yl] using t4)))]; rfl) | (rw [hgo, kt hf h1 hbn (jg hr (rgC_d (by simpa [yl] using t5)))]; rfl), (LW.step E XLW).toBelow⟩
     ·
      replace t1 := of_decide_eq_false t1
      refine onx rfl (zb Tryd.underlying50 rfl sz3 (by decide) rfl (onx rfl (zl Tryd.underlying3 rfl rfl Bb14 rfl (onx rfl (zb Tryd.underlying50 rfl sz3 (by decide) rfl (onx rfl (zl Tryd.underlying3 rfl rfl Bb14 rfl (onx rfl (qo rfl rfl (za rfl (yb rfl rfl (mvx rfl (yp 64 rfl (fun t2 => ?_) (fun t2 => ?_))))))))))))))
      ·
       replace t2 := of_decide_eq_true t2
       refine za rfl (zc rfl (za rfl (zc rfl (za rfl (zc rfl (za rfl (zc rfl (za rfl (zc rfl (za rfl (zc rfl (za rfl (zw rfl rfl (mvx rfl (za rfl (zc rfl (za rfl (zc rfl (za rfl (zc rfl (za rfl (zc rfl (za rfl (zc rfl (za rfl (zc rfl (za rfl (zc rfl (za rfl (zw rfl rfl (mvx rfl (za rfl (zc rfl (za rfl (zc rfl (za rfl (zc rfl (za rfl (zc rfl (za rfl (zc rfl (za rfl (zc rfl (za rfl (zw rfl rfl (rnx (ym rfl (srx (mvx rfl (avx rfl (avx rfl (anx rfl (zr (zp (zd (zd (zp ?_)))))))))))))))))))))))))))))))))))))))))))))))))))))))))
       refine zp (zd (zd (zp (zd (zq (rs := [.tmp 2, .tmp 3, .tmp 4]) (vs := [_, _, _]) rfl ⟨rfl, rfl, rfl, trivial⟩ ?_)))))
       exact ⟨by first | (rw [hgo, kt hf h1 hbn (jg hr (rgC_no (by unfold rgN; omega)))]; rfl) | (rw [hgo, kt hf h1 hbn (jg hr (rgC_tg (by simpa [yl] using t4)))]; rfl) | (rw [hgo, kt hf h1 hbn (jg hr (rgC_d (by simpa [yl] using t5)))]; rfl), (LW.step E XLW).toBelow⟩
      ·
       replace t2 := of_decide_eq_false t2
       refine onx rfl (zb Tryd.underlying50 rfl sz3 (by decide) rfl (onx rfl (zl Tryd.underlying3 rfl rfl Bb14 rfl (onx rfl (zb Tryd.underlying37 rfl og (by decide) rfl (onx rfl (zl Tryd.underlying34 rfl rfl Bb5 rfl (onx rfl (vj Tryd.underlying34 rfl (onx rfl (qo rfl rfl (za rfl (yb rfl rfl (mvx rfl (yp 72 rfl (fun t3 => ?_) (fun t3 => ?_))))))))))))))))
       ·
        replace t3 := of_decide_eq_true t3
        refine za rfl (zc rfl (za rfl (zc rfl (za rfl (zc rfl (za rfl (zc rfl (za rfl (zc rfl (za rfl (zc rfl (za rfl (zc rfl (za rfl (zw rfl rfl (mvx rfl (za rfl (zc rfl (za rfl (zc rfl (za rfl (zc rfl (za rfl (zc rfl (za rfl (zc rfl (za rfl (zc rfl (za rfl (zw rfl rfl (rnx (ym rfl (srx (mvx rfl (avx rfl (avx rfl (anx rfl (zr (zp (zd (zd (zp (zp (zd (zd (zp (zd (zq (rs := [.tmp 2, .tmp 3, .tmp 4]) (vs := [_, _, _]) rfl ⟨rfl, rfl, rfl, trivial⟩ ?_))))))))))))))))))))))))))))))))))))))))))))))))
        exact ⟨by first | (rw [hgo, kt hf h1 hbn (jg hr (rgC_no (by unfold rgN; omega)))]; rfl) | (rw [hgo, kt hf h1 hbn (jg hr (rgC_tg (by simpa [yl] using t4)))]; rfl) | (rw [hgo, kt hf h1 hbn (jg hr (rgC_d (by simpa [yl] using t5)))]; rfl), (LW.step E XLW).toBelow⟩
       ·
        replace t3 := of_decide_eq_false t3
        refine onx rfl (zb Tryd.underlying50 rfl sz3 (by decide) rfl (onx rfl (zl Tryd.underlying3 rfl rfl Bb14 rfl (onx rfl (zb Tryd.underlying37 rfl og (by decide) rfl (onx rfl (zl Tryd.underlying34 rfl rfl Bb5 rfl (onx rfl (vj Tryd.underlying34 rfl (onx rfl (ya en14 rfl ((zex _ true r.tg (((f.ins.length : Nat)) : Int)).mono ?_))))))))))))
        rintro e w17 ⟨rfl, hb⟩;refine ⟨_, rfl, ?_⟩;have Ec := Ext.of_below hb No;replace Bb14 := Bb14.extN Ec NotIn.nil;replace Bb5 := Bb5.extN Ec NotIn.nil;replace E := E.trans Ec.no;refine onx rfl (vv rfl (za rfl (yb rfl rfl (mvx rfl (yp 81 rfl (fun t4 => ?_) (fun t4 => ?_))))))
        ·
         refine za rfl (zc rfl (za rfl (zc rfl (za rfl (zc rfl (za rfl (zc rfl (za rfl (zc rfl (za rfl (zc rfl (za rfl (zw rfl rfl (rnx (ym rfl (srx (mvx rfl (avx rfl (avx rfl (anx rfl (zr (zp (zd (zd (zp (zp (zd (zd (zp (zd (zq (rs := [.tmp 2, .tmp 3, .tmp 4]) (vs := [_, _, _]) rfl ⟨rfl, rfl, rfl, trivial⟩ ?_)))))))))))))))))))))))))))))))
         exact ⟨by first | (rw [hgo, kt hf h1 hbn (jg hr (rgC_no (by unfold rgN; omega)))]; rfl) | (rw [hgo, kt hf h1 hbn (jg hr (rgC_tg (by simpa [yl] using t4)))]; rfl) | (rw [hgo, kt hf h1 hbn (jg hr (rgC_d (by simpa [yl] using t5)))]; rfl), (LW.step E XLW).toBelow⟩
        ·
         refine onx rfl (zb Tryd.underlying50 rfl sz3 (by decide) rfl (onx rfl (zl Tryd.underlying3 rfl rfl Bb14 rfl (onx rfl (zb Tryd.underlying37 rfl sz3 (by decide) rfl (onx rfl (zl Tryd.underlying3 rfl rfl Bb5 rfl (onx rfl (ya en14 rfl ((zex _ true r.d f.regs).mono ?_))))))))));rintro e w18 ⟨rfl, hb⟩;refine ⟨_, rfl, ?_⟩
         have Ec := Ext.of_below hb No;replace Bb14 := Bb14.extN Ec NotIn.nil;replace Bb5 := Bb5.extN Ec NotIn.nil;replace E := E.trans Ec.no;refine onx rfl (vv rfl (za rfl (yb rfl rfl (rnx (zt rfl (fun t5 => ?_) (fun t5 => ?_))))))
         ·
          refine zv 88 (.bool true) rfl (congrArg Value.bool t5) (srx (mvx rfl (avx rfl (avx rfl (anx rfl (zr (zp (zd (zd (zp (zp (zd (zd (zp (zd (zq (rs := [.tmp 2, .tmp 3, .tmp 4]) (vs := [_, _, _]) rfl ⟨rfl, rfl, rfl, trivial⟩ ?_))))))))))))))))
          exact ⟨by first | (rw [hgo, kt hf h1 hbn (jg hr (rgC_no (by unfold rgN; omega)))]; rfl) | (rw [hgo, kt hf h1 hbn (jg hr (rgC_tg (by simpa [yl] using t4)))]; rfl) | (rw [hgo, kt hf h1 hbn (jg hr (rgC_d (by simpa [yl] using t5)))]; rfl), (LW.step E XLW).toBelow⟩
         ·
          refine zv 88 (.bool false) rfl (congrArg Value.bool t5) (zk (zm (ze (zj (za rfl (yh rfl rfl (zo (by omega)) (mvx rfl (yd ?_))))))))
          exact yn (j + 1) (by show f.rgs.length - (j + 1) < f.rgs.length - j; omega) ⟨rfl, rfl, rfl, rfl, rfl, rfl, rfl, rfl, rfl, trivial⟩ ⟨M12.step E XM12, (by exact Bb5), ⟨by omega, zsv hr hall (rgC_ok (by omega) (by omega) (by omega) (by simpa [yl] using t4) (by simpa [yl] using t5))⟩⟩
    ·
     have q3 := of_decide_eq_false q3;refine yo (zh (zh (zu (zm (ze (zj (za rfl (yh rfl rfl (zo (by omega)) (mvx rfl (yd ?_))))))))))
     exact yn (k + 1) (by show fs.length - (k + 1) < fs.length - k; omega) ⟨rfl, rfl, rfl, rfl, trivial⟩ ⟨M3.step E XM3, ⟨by omega, by rw [hgo, go_step hf h1 hbn (ycq hall (by omega))]⟩⟩
  ·
   have h1 := Bool.eq_false_iff.2 h1;refine zv 31 (.bool true) rfl ((by rw [h1]; rfl : (.bool (!(jt f k)) : Value) = _)) (ym rfl (srx (mvx rfl (avx rfl (avx rfl (anx rfl (zr (zd (zp (zd (zd (zp (zd (zq (rs := [.tmp 2, .tmp 3, .tmp 4]) (vs := [_, _, _]) rfl ⟨rfl, rfl, rfl, trivial⟩ ?_))))))))))))))
   exact ⟨by rw [hgo, go_head hf h1]; rfl, (LW.step E XLW).toBelow⟩
 ·
  have q := of_decide_eq_false q;refine yo (zh (zh (zu (ze (srx (avx rfl (avx rfl (anx rfl (zr (zq (rs := [.tmp 2, .tmp 3, .tmp 4]) (vs := [_, _, _]) rfl ⟨rfl, rfl, rfl, trivial⟩ ?_))))))))));exact ⟨by rw [hgo, go_end (by omega)]; rfl, (LW.step E XLW).toBelow⟩
end
end Go.Proofs.YtmjbnhjgebjhlaaDoor
namespace Go.Proofs.YtmjbnhjgebjhlaaDoor
open Go.RowKit
set_option maxRecDepth 100000
local instance decI (x : Int) : Decidable (I64 x) := by unfold I64; infer_instance
def oneI : LIns := ⟨41, 0, 0, 0, 0, 0, []⟩
def oneF : LFn := ⟨⟨#[]⟩, 0, 1, 0, false, 0, [], [], [oneI], []⟩
def oneP (g : Nat) : Pl := ⟨none, 0, none, 0, some ⟨g, 0, none⟩, 1, none, 0⟩
theorem check_one : kd [oneF] = (0, 0, 0) := by
 have h : jt oneF 0 = true := by rw [zfk]; rfl
 have h2 : jo [oneF] oneF 0 oneF.ins = none := by decide +kernel
 rw [yhq (by decide)];exact (go_step (fs := [oneF]) (k := 0) rfl h h2 rfl).trans (go_end (by decide))
theorem check_nil : kd [] = (-1, -1, 3) := yhz (by decide)
theorem one_fs {w : World} {g6 g8 : Nat} (h6 : Blk w g6 40 #[.int .i64 41, .int .i64 0, .int .i64 0, .int .i64 0, .int .i64 0, .int .i64 0, .slice none 0 0]) (h8 : Blk w g8 37 (fnC (oneP g6) oneF).toArray) : FsA w.heap.size w (some ⟨g8, 0, none⟩) [oneF] := by
 have hI : InsA w.heap.size w (some ⟨g6, 0, none⟩) [oneI] := by
  refine ⟨by decide, fun _ => ⟨g6, 0, rfl, h6.lt, fun j x hx => ?_⟩⟩;match j, hx with
  | 0, hx =>
   obtain rfl := Option.some.inj hx;refine ⟨⟨by decide, by decide, by decide, by decide, by decide, by decide⟩, none, 0, by decide, ⟨by decide, fun x h => (by cases h), fun h => absurd rfl h⟩, fun i v hv => ?_⟩;show w.cell? ⟨g6, 0 + 0 * 7 + i, none⟩ = _
   rw [show 0 + 0 * 7 + i = i by omega, h6.cell, List.getElem?_toArray];exact hv
  | j + 1, hx => cases hx
 have hF : FnA w.heap.size w (oneP g6) oneF := ⟨by decide, by decide, by decide, by decide, by decide, ⟨by decide, fun x h => (by cases h), fun h => absurd rfl h⟩, ⟨by decide, fun x h => (by cases h), fun h => absurd rfl h⟩, hI, ⟨by decide, fun x h => (by cases h), fun h => absurd rfl h⟩, Nat.le_refl _⟩;refine ⟨by decide, fun _ => ⟨g8, 0, rfl, h8.lt, fun j x hx => ?_⟩, fun f hf c hc => ?_⟩
 · match j, hx with
   | 0, hx =>
    obtain rfl := Option.some.inj hx;refine ⟨oneP g6, hF, fun i v hv => ?_⟩;show w.cell? ⟨g8, 0 + 0 * 10 + i, none⟩ = _
    rw [show 0 + 0 * 10 + i = i by omega, h8.cell, List.getElem?_toArray];exact hv
   | j + 1, hx => cases hx
 · obtain rfl := List.mem_singleton.1 hf;cases hc
theorem no_fs (w : World) : FsA w.heap.size w none [] := ⟨by decide, fun h => absurd rfl h, fun f hf => (by cases hf)⟩
theorem ints_blk {w : World} {g n : Nat} {xs : List Int} (hb : Blk w g 3 (vm xs).toArray) (hg : g < n) (hl : 8 * xs.length ≤ 140737488355000) (hi : ∀ x ∈ xs, I64 x) : IntsA n w (some ⟨g, 0, none⟩) xs :=
 ⟨hl, hi, fun _ => ⟨g, 0, rfl, hg, fun j x hx => by
  show w.cell? ⟨g, 0 + j * 1, none⟩ = _
  rw [hb.cell, List.getElem?_toArray, Nat.zero_add, Nat.mul_one];unfold vm;rw [List.getElem?_map, hx]; rfl⟩⟩
theorem i64_three : ∀ x ∈ [(2 : Int), 3, 2], I64 x := by decide
theorem i64_two : ∀ x ∈ [(3 : Int), 2], I64 x := by decide
def readI : LIns := ⟨21, 1, 2, 0, 0, 0, [3, 2]⟩
theorem ymx : zhz readI = [2, 3, 2] := by decide +kernel
attribute [local irreducible] OW RS
theorem fill1x10 (a0 a1 a2 a3 a4 a5 a6 a7 a8 a9 : Value) : Instr.fill (fun i => some (i * 10, 10)) ((Array.range (1 * 10)).map ((if 1 * 10 = 0 then #[] else (Value.agg #[.string ⟨#[]⟩, .int .i64 0, .int .i64 0, .int .i64 0, .bool false, .int .i64 0, .slice none 0 0, .slice none 0 0, .slice none 0 0, .slice none 0 0]).cells)[· % (if 1 * 10 = 0 then #[] else (Value.agg #[.string ⟨#[]⟩, .int .i64 0, .int .i64 0, .int .i64 0, .bool false, .int .i64 0, .slice none 0 0, .slice none 0 0, .slice none 0 0, .slice none 0 0]).cells).size]!)) [(0, .agg #[a0, a1, a2, a3, a4, a5, a6, a7, a8, a9])] = some #[a0, a1, a2, a3, a4, a5, a6, a7, a8, a9] := by
 rw [vw];kernel_rfl
set_option maxHeartbeats 2000000 in
theorem known_any (w : World) {bp op cp bf of cf bl ol cl : Nat} (hT : Tabs bp op cp bf of cf bl ol cl w) (hE : ∃ te pe, w.cell? ⟨2, 0, none⟩ = some (.iface te pe)) : Calls Tryd.prog 5 #[] w fun e w' => e = .returned (.bool true) ∧ Below w.heap.size w w' := by
 obtain ⟨te, pe, hE⟩ := hE;refine yk Tryd.func5 rfl Tryd.ntmps5 rfl ?_;have HF : Per (No) w (fun _ => True) := Per.true_;have LW := erx (No) w;have XLW := grx (No) w;have E := erx (No) w;replace HF := HF.on E;replace LW := LW.step E XLW;replace E := erx (No) w;replace HF := HF.and (Per.tabs hT (fun _ h => h.elim));replace HF := HF.on E;replace LW := LW.step E XLW;replace E := erx (No) w
 replace HF := HF.and (Per.cellA hE (fun _ h => h.elim));refine srx (anx rfl (srx (za rfl (qn (cs := #[.int .i64 3, .int .i64 2]) Tryd.underlying38 sz3 zr3 (by decide) rfl (by rw [vw]; rfl) ?_))));intro gb1 w2 Bb1 Eb1 Gb1;have Gb1 : _ ≤ gb1 := Nat.le_trans E.size Gb1;have GLb1 := Nat.le_trans LW.size Gb1;replace E := E.trans Eb1.no;replace HF := HF.cons (yf Gb1)
 replace E := E.cons (some gb1);replace XLW := Mut.grow XLW (fun k e => Or.inr (Nat.le_trans LW.size ((yf Gb1) k e)));replace HF := HF.on E;replace LW := LW.step E XLW;have SB : ∀ q9, No q9 → Mut [(some gb1)] q9 := (Mut.skip Mut.nil_);replace HF := HF.less SB;replace XLW := fun k h => XLW k (SB k h);clear SB;replace E := erx (No) w2;replace HF := HF.and (Per.blkN Bb1 NotIn.nil)
 refine za rfl (vq (cs := #[.int .i64 21, .int .i64 1, .int .i64 2, .int .i64 0, .int .i64 0, .int .i64 0, .slice (some ⟨gb1, 0, none⟩) 2 2]) pl40 zr40 rfl rfl (za rfl (va zr40 ?_)));intro gb3 w4 Bb3 Eb3 Gb3;have Gb3 : _ ≤ gb3 := Nat.le_trans E.size Gb3;have GLb3 := Nat.le_trans LW.size Gb3;replace E := E.trans Eb3.no;replace HF := HF.cons (yf Gb3)
 replace E := E.cons (some gb3);replace XLW := Mut.grow XLW (fun k e => Or.inr (Nat.le_trans LW.size ((yf Gb3) k e)));refine yu (gk oe rfl rfl Bb3 rfl rfl rfl ?_);intro w5 Bx Eb3;replace Bb3 : Blk w5 gb3 40 #[.int .i64 21, .int .i64 1, .int .i64 2, .int .i64 0, .int .i64 0, .int .i64 0, .slice (some ⟨gb1, 0, none⟩) 2 2] := Bx;replace E := E.step1 Eb3 Mut.head
 replace HF := HF.on E;replace LW := LW.step E XLW;have SB : ∀ q9, No q9 → Mut [(some gb3)] q9 := (Mut.skip Mut.nil_);replace HF := HF.less SB;replace XLW := fun k h => XLW k (SB k h);clear SB;replace E := erx (No) w5;replace HF := HF.and (Per.blkN Bb3 NotIn.nil)
 refine rnx (srx (za rfl (vq (cs := #[.int .i64 41, .int .i64 0, .int .i64 0, .int .i64 0, .int .i64 0, .int .i64 0, .slice none 0 0]) pl40 zr40 rfl rfl (za rfl (qn (cs := #[.int .i64 41, .int .i64 0, .int .i64 0, .int .i64 0, .int .i64 0, .int .i64 0, .slice none 0 0]) Tryd.underlying34 oe zr40 (by decide) rfl (by rw [vw]; rfl) ?_)))));intro gb6 w7 Bb6 Eb6 Gb6
 have Gb6 : _ ≤ gb6 := Nat.le_trans E.size Gb6;have GLb6 := Nat.le_trans LW.size Gb6;replace E := E.trans Eb6.no;replace HF := HF.cons (yf Gb6);replace E := E.cons (some gb6);replace XLW := Mut.grow XLW (fun k e => Or.inr (Nat.le_trans LW.size ((yf Gb6) k e)));replace HF := HF.on E;replace LW := LW.step E XLW;have SB : ∀ q9, No q9 → Mut [(some gb6)] q9 := (Mut.skip Mut.nil_)
 replace HF := HF.less SB;replace XLW := fun k h => XLW k (SB k h);clear SB;replace E := erx (No) w7;replace HF := HF.and (Per.blkN Bb6 NotIn.nil)
 refine za rfl (vq (cs := #[.string ⟨#[]⟩, .int .i64 0, .int .i64 1, .int .i64 0, .bool false, .int .i64 0, .slice none 0 0, .slice none 0 0, .slice (some ⟨gb6, 0, none⟩) 1 1, .slice none 0 0]) pl37 zr37 rfl rfl (za rfl (qn (cs := #[.string ⟨#[]⟩, .int .i64 0, .int .i64 1, .int .i64 0, .bool false, .int .i64 0, .slice none 0 0, .slice none 0 0, .slice (some ⟨gb6, 0, none⟩) 1 1, .slice none 0 0]) Tryd.underlying22 ztx zr37 (by decide) rfl (fill1x10 (.string ⟨#[]⟩) (.int .i64 0) (.int .i64 1) (.int .i64 0) (.bool false) (.int .i64 0) (.slice none 0 0) (.slice none 0 0) (.slice (some ⟨gb6, 0, none⟩) 1 1) (.slice none 0 0)) ?_)))
 intro gb8 w9 Bb8 Eb8 Gb8;have Gb8 : _ ≤ gb8 := Nat.le_trans E.size Gb8;have GLb8 := Nat.le_trans LW.size Gb8;replace E := E.trans Eb8.no;replace HF := HF.cons (yf Gb8);replace E := E.cons (some gb8);replace XLW := Mut.grow XLW (fun k e => Or.inr (Nat.le_trans LW.size ((yf Gb8) k e)));replace HF := HF.on E;replace LW := LW.step E XLW
 have SB : ∀ q9, No q9 → Mut [(some gb8)] q9 := (Mut.skip Mut.nil_);replace HF := HF.less SB;replace XLW := fun k h => XLW k (SB k h);clear SB;replace E := erx (No) w9;replace HF := HF.and (Per.blkN Bb8 NotIn.nil);refine za rfl (vq (cs := #[.slice (some ⟨gb8, 0, none⟩) 1 1]) pl24 zr24 rfl rfl (za rfl (va zr24 ?_)));intro gb10 w11 Bb10 Eb10 Gb10
 have Gb10 : _ ≤ gb10 := Nat.le_trans E.size Gb10;have GLb10 := Nat.le_trans LW.size Gb10;replace E := E.trans Eb10.no;replace HF := HF.cons (yf Gb10);replace E := E.cons (some gb10);replace XLW := Mut.grow XLW (fun k e => Or.inr (Nat.le_trans LW.size ((yf Gb10) k e)));refine yu (qu sz24 rfl rfl Bb10 rfl rfl (Nat.le_of_ble_eq_true rfl) ?_);intro w12 Bx Eb10;replace Bb10 := Bx
 replace E := E.step1 Eb10 Mut.head;replace HF := HF.on E;replace LW := LW.step E XLW;have SB : ∀ q9, No q9 → Mut [(some gb10)] q9 := (Mut.skip Mut.nil_);replace HF := HF.less SB;replace XLW := fun k h => XLW k (SB k h);clear SB;replace E := erx (No) w12;replace HF := HF.and (Per.blkN Bb10 NotIn.nil)
 refine rnx (srx (za rfl (vh Tryd.underlying24 rfl sz24 rfl (HF.on E).here.2 rfl (za rfl (ya en6 rfl ((zsx _ (some ⟨gb8, 0, none⟩) _ 1 [oneF] (one_fs (HF.on E).here.1.1.2 (HF.on E).here.1.2) (HF.on E).here.1.1.1.1.1.1.2 ⟨te, pe, (HF.on E).here.1.1.1.1.1.2⟩).mono ?_))))));rintro e w13 ⟨rfl, hb⟩;refine ⟨_, rfl, ?_⟩;replace E := blx E hb
 refine yc 18 (.tuple #[.int .i64 0, .int .i64 0, .int .i64 0]) rfl ((by rw [check_one]; rfl : (res3 (kd [oneF]) : Value) = _)) (mvx rfl (za rfl (zz rfl rfl (za rfl (zz rfl rfl (za rfl (zz rfl rfl (avx rfl (avx rfl (anx rfl (srx (za rfl (vq (cs := #[.slice none 0 0]) pl24 zr24 rfl rfl (za rfl (ya en6 rfl ((zsx _ none _ 0 [] (no_fs _) (HF.on E).here.1.1.1.1.1.1.2 ⟨te, pe, (HF.on E).here.1.1.1.1.1.2⟩).mono ?_))))))))))))))))
 rintro e w14 ⟨rfl, hb⟩;refine ⟨_, rfl, ?_⟩;replace E := blx E hb
 refine yc 24 (.tuple #[.int .i64 (-1), .int .i64 (-1), .int .i64 3]) rfl ((by rw [check_nil]; rfl : (res3 (kd []) : Value) = _)) (mvx rfl (za rfl (zz rfl rfl (za rfl (zz rfl rfl (za rfl (zz rfl rfl (avx rfl (avx rfl (anx rfl (srx (za rfl (vh Tryd.underlying40 rfl oe rfl (HF.on E).here.1.1.1.2 rfl (za rfl (ya en8 rfl ((reads_any _ readI (some ⟨gb1, 0, none⟩) 2 _ (ints_blk (xs := [3, 2]) (HF.on E).here.1.1.1.1.2 ((HF.on E).here.1.1.1.1.2).lt (by decide) i64_two) (Nat.le_refl _)).mono ?_))))))))))))))))
 rintro e w15 ⟨A1, c1, rfl, o1, hb⟩;refine ⟨_, rfl, ?_⟩;replace E := blx E hb;have hi1 := OwnsI.ints o1 (by rw [ymx]; decide) (by rw [ymx]; exact i64_three);rw [ymx] at hi1;refine yc 29 (.slice A1 [(2 : Int), 3, 2].length c1) rfl ((by rw [ymx] : (.slice A1 (zhz readI).length c1 : Value) = _)) ?_;replace HF := HF.on E;replace LW := LW.step E XLW;replace E := erx (No) w15
 replace HF := HF.and (Per.ints hi1 (fun _ h => h.elim));refine za rfl (qn (cs := #[.int .i64 2, .int .i64 3, .int .i64 2]) Tryd.underlying38 sz3 zr3 (by decide) rfl (by rw [vw]; rfl) ?_);intro gb16 w17 Bb16 Eb16 Gb16;have Gb16 : _ ≤ gb16 := Nat.le_trans E.size Gb16;have GLb16 := Nat.le_trans LW.size Gb16;replace E := E.trans Eb16.no;replace HF := HF.cons (yf Gb16)
 replace E := E.cons (some gb16);replace XLW := Mut.grow XLW (fun k e => Or.inr (Nat.le_trans LW.size ((yf Gb16) k e)));replace HF := HF.on E;replace LW := LW.step E XLW;have SB : ∀ q9, No q9 → Mut [(some gb16)] q9 := (Mut.skip Mut.nil_);replace HF := HF.less SB;replace XLW := fun k h => XLW k (SB k h);clear SB;replace E := erx (No) w17;replace HF := HF.and (Per.blkN Bb16 NotIn.nil)
 refine za rfl (ya en11 rfl ((same_ints _ A1 (some ⟨gb16, 0, none⟩) c1 3 _ _ [2, 3, 2] (HF.on E).here.1.2 (ints_blk (xs := [2, 3, 2]) (HF.on E).here.2 ((HF.on E).here.2).lt (by decide) i64_three)).mono ?_));rintro e w18 ⟨rfl, hb⟩;refine ⟨_, rfl, ?_⟩;replace E := blx E hb
 refine mvx rfl (onx rfl (zn rfl (onx rfl (ye rfl rfl (za rfl (zw rfl rfl (mvx rfl (onx rfl (zn rfl (onx rfl (ye rfl rfl (za rfl (zw rfl rfl (mvx rfl (onx rfl (zn rfl (onx rfl (ye rfl rfl (za rfl (zw rfl rfl (mvx rfl (onx rfl (zn rfl (onx rfl (ye rfl rfl (za rfl (zw rfl rfl (anx rfl (zr (zq (rs := [.tmp 0]) (vs := [_]) rfl ⟨rfl, trivial⟩ ?_))))))))))))))))))))))))))))))
 exact ⟨rfl, (LW.step E XLW).toBelow⟩
end Go.Proofs.YtmjbnhjgebjhlaaDoor
namespace Go.Proofs.YtmjbnhjgebjhlaaDoor
open Go.RowKit
set_option maxRecDepth 100000
attribute [local irreducible] OW RS
set_option maxHeartbeats 1000000 in
theorem rcopy_any (w : World) (A : Option Addr) (n ca : Nat) (fs : List LFn) (hfs : FsA n w A fs) (hn : n ≤ w.heap.size) (hlen : fs.length ≤ 4000) : Calls Tryd.prog 7 #[.agg #[.slice A fs.length ca]] w fun e w' => (∃ A' c' xs, e = .returned (.agg #[.slice A' xs.length c']) ∧ FsO w.heap.size w' A' c' xs ∧ xs.map (·.1) = fs) ∧ Below w.heap.size w w' := by
 have hfl := hfs.len;obtain ⟨lo, hlo⟩ : ∃ lo, lo = w.heap.size := ⟨_, rfl⟩;refine yk Tryd.func7 rfl Tryd.ntmps7 rfl (srx (za rfl (jx rfl ?_)));rintro g1 wA B1 E1 G1;refine za rfl (va zr24 ?_);rintro g2 wB B2 E2 G2;refine rnx (srx (za rfl (va zr24 ?_)));rintro g3 wC B3 E3 G3;have h12 : g1 < g2 := by have := B1.lt; omega
 have h23 : g2 < g3 := by have := B2.lt; omega
 have hs1 := E1.size;have hs2 := E2.size;have hs3 := E3.size;have B1c := (B1.ext E2 (fun h => h.elim)).ext E3 (fun h => h.elim);have B2c := B2.ext E3 (fun h => h.elim);have hEC : Ext (fun q => lo ≤ q) w wC := ((E1.trans E2).trans E3).noL lo
 refine rnx (zf (srx (anx rfl (zy (qq (ι := Nat × List FB × Option Addr × Nat) (fun (k, xs, A', c') => [(1, .pointer (some ⟨g1, 0, none⟩)), (2, .pointer (some ⟨g2, 0, none⟩)), (3, .pointer (some ⟨g3, 0, none⟩)), (4, .int .i64 ((k : Nat) : Int))]) (fun (k, xs, A', c') w' => k ≤ fs.length ∧ Ext (fun q => lo ≤ q) w w' ∧ Blk w' g1 24 #[.slice A fs.length ca] ∧ Blk w' g2 24 #[.slice none 0 0] ∧ Blk w' g3 24 #[.slice A' xs.length c'] ∧ FsO lo w' A' c' xs ∧ xs.map (·.1) = fs.take k) (fun (k, _) => fs.length - k) (0, [], none, 0) ⟨rfl, rfl, rfl, rfl, trivial⟩ (⟨Nat.zero_le _, hEC, B1c, B2c, B3, FsO.nil, by rw [List.take_zero]; rfl⟩) ?_)))))
 rintro ⟨k, xs, A', c'⟩ w2 ⟨hk, hE, H1, H2, H3, hO, hxs⟩;refine zf (srx (mvx rfl (za rfl (zb Tryd.underlying24 rfl sz22 (by decide) rfl (za rfl (zl Tryd.underlying22 rfl rfl H1 rfl (za rfl (vj Tryd.underlying22 rfl (za rfl (yv rfl rfl (rnx (zt rfl (fun q => ?_) (fun q => ?_)))))))))))))
 ·
  have q := of_decide_eq_true q;have hlt : k < fs.length := by omega
  have hxl : xs.length = k := by have := congrArg List.length hxs; rw [List.length_map, List.length_take] at this; omega
  obtain ⟨f, hf⟩ : ∃ f, fs[k]? = some f := ⟨_, List.getElem?_eq_getElem hlt⟩;have hfsE := hfs.low (X := fun q => lo ≤ q) ⟨hE, fun q hq => by have hq : lo ≤ q := hq; omega⟩;obtain ⟨g, o, p, hA, hg, hF, hc⟩ := hfsE.at hf;have hG : FnG f := ⟨hF.nums, hfs.strs f (List.mem_of_getElem? hf)⟩;have hES := hE.size;obtain ⟨szK, hszK⟩ : ∃ s, s = w2.heap.size := ⟨_, rfl⟩
  have hZg : ∀ q, Mut [(Value.slice A' xs.length c').ownBlock] q → lo ≤ q := own_ge hO.row;have hZ1 : ∀ {g : Nat} {cs : Array Value}, Blk w2 g 24 cs → ¬ Mut [(Value.slice A' xs.length c').ownBlock] g := fun hb hm => by
   obtain ⟨cur, h2⟩ := gu hO.row (zcq hm);exact absurd (znv hb h2) (by decide)
  have hloS : lo ≤ szK := by omega
  refine zk (ze (zf (zy (ygv mixed (yhv 10 rfl ?_)))));refine aw_one 9 (Mut [(Value.slice A' xs.length c').ownBlock]) (fun k hk => vi hO.row k (zcq hk)) (xy [Fx.of (.pointer (some ⟨g3, 0, none⟩)),
   Fx.of (.slice A' xs.length c'),
   Fx.of (.pointer (some ⟨g1, 0, none⟩)),
   Fx.of (.slice A fs.length ca),
   Fx.of (.int .i64 ((k : Nat) : Int)),
   Fx.of (.pointer (some ⟨g, o + k * 10, none⟩)),
   Fx.of (.agg #[.string f.name, .int .i64 f.params, .int .i64 f.regs, .int .i64 f.frees, .bool f.gen, .int .i64 f.bound, .slice p.an f.names.length p.cn, .slice p.ac f.consts.length p.cc, .slice p.ai f.ins.length p.ci, .slice p.ar f.rgs.length p.cr]),
   ⟨QP, fun q => .agg #[.string f.name, .int .i64 f.params, .int .i64 f.regs, .int .i64 f.frees, .bool f.gen, .int .i64 f.bound, .slice q.an f.names.length q.cn, .slice q.ac f.consts.length q.cc, .slice q.ai f.ins.length q.ci, .slice q.ar f.rgs.length q.cr], fun q b => (FnO szK b q f)⟩,
   ⟨(Nat × QP), fun (gx, q) => .slice (some ⟨gx, 0, none⟩) 1 1, fun (gx, q) b => (Blk b gx 37 (fnC q.pl f).toArray ∧ FnO szK b q f)⟩,
   ⟨(Option Addr × Nat × QP), fun (A9, c9, q) => .slice A9 (xs.length + 1) c9, fun (A9, c9, q) b => (b.ownsRow lo 37 10 (.slice A9 (xs.length + 1) c9) (xs.length + 1) (fsV (xs ++ [(f, q)])) ∧ FnO szK b q f)⟩]) rfl ?_ ?_
  · refine ⟨?_, ?_, ?_, ?_, ?_, ?_, ?_, ?_, ?_, ?_, trivial⟩
    · intro vs X wq K KQ;exact zb Tryd.underlying24 rfl sz22 (by decide) rfl ⟨Below.refl _ _, Left.of rfl⟩
    · intro vs X wq K KQ;have LE := K.1;obtain ⟨_, e0, k0⟩ := K.dep 0 rfl rfl rfl;refine zi 12 (.pointer (some ⟨g3, 0, none⟩)) rfl e0 ?_;exact zl Tryd.underlying22 rfl rfl (blk_z LE (hZ1 H3) H3) rfl ⟨Below.refl _ _, Left.of rfl⟩
    · intro vs X wq K KQ;exact zb Tryd.underlying24 rfl sz22 (by decide) rfl ⟨Below.refl _ _, Left.of rfl⟩
    · intro vs X wq K KQ;have LE := K.1;obtain ⟨_, e2, k2⟩ := K.dep 2 rfl rfl rfl;refine zi 14 (.pointer (some ⟨g1, 0, none⟩)) rfl e2 ?_;exact zl Tryd.underlying22 rfl rfl (blk_z LE (hZ1 H1) H1) rfl ⟨Below.refl _ _, Left.of rfl⟩
    · intro vs X wq K KQ;exact zn rfl ⟨Below.refl _ _, Left.of rfl⟩
    · intro vs X wq K KQ;obtain ⟨_, e3, k3⟩ := K.dep 3 rfl rfl rfl;refine zi 15 (.slice A fs.length ca) rfl e3 ?_;obtain ⟨_, e4, k4⟩ := K.dep 4 rfl rfl rfl;refine zi 16 (.int .i64 ((k : Nat) : Int)) rfl e4 ?_;exact qh (j := k) Tryd.underlying22 ztx (congrArg (fun z ↦ some (Value.slice z fs.length ca)) hA) rfl rfl hlt ⟨Below.refl _ _, Left.of rfl⟩
    · intro vs X wq K KQ;have LE := K.1;obtain ⟨_, e5, k5⟩ := K.dep 5 rfl rfl rfl;refine zi 17 (.pointer (some ⟨g, o + k * 10, none⟩)) rfl e5 ?_;exact ow (cs := (fnC p f).toArray) Tryd.underlying37 rfl ztx rfl rfl (fun j v hj ↦ cell_z LE (fun hm ↦ by have := hZg g hm; omega) (hc j v (by simpa using hj))) ⟨Below.refl _ _, Left.of rfl⟩
    · intro vs X wq K KQ;have LE := K.1;have XN := K.2.1;obtain ⟨_, e6, k6⟩ := K.dep 6 rfl rfl rfl
      refine zi 18 (.agg #[.string f.name, .int .i64 f.params, .int .i64 f.regs, .int .i64 f.frees, .bool f.gen, .int .i64 f.bound, .slice p.an f.names.length p.cn, .slice p.ac f.consts.length p.cc, .slice p.ai f.ins.length p.ci, .slice p.ar f.rgs.length p.cr]) rfl e6 (ya en15 rfl ((copy_any _ p f n (hF.low ⟨(Ext.refl _ _).drew.trans LE, fun q hq => by have := hZg q hq; omega⟩)).mono ?_))
      rintro e w2 ⟨q, rfl, o1, hb⟩;exact ⟨_, rfl, hb, ⟨q, rfl, Per.fnO o1 XN (by rw [hszK]; exact LE.size)⟩⟩
    · intro vs X wq K KQ;have XN := K.2.1;obtain ⟨q, e7, k7⟩ := K.dep 7 rfl rfl rfl
      refine zi 19 (.agg #[.string f.name, .int .i64 f.params, .int .i64 f.regs, .int .i64 f.frees, .bool f.gen, .int .i64 f.bound, .slice q.an f.names.length q.cn, .slice q.ac f.consts.length q.cc, .slice q.ai f.ins.length q.ci, .slice q.ar f.rgs.length q.cr]) rfl e7 (ow_buildSliceW (cs := (fnC q.pl f).toArray) Tryd.underlying22 ztx zr37 (by decide) rfl (fill1x10 _ _ _ _ _ _ _ _ _ _) ?_)
      intro gx w5 Bx hb Gx;exact ⟨hb, ⟨(gx, q), rfl, (Per.blk Bx (fun hx => by have := XN gx hx; omega)).and (k7.on (Ext.of_below hb X))⟩⟩
    · intro vs X wq K KQ;have LQ := KQ rfl;obtain ⟨_, e1, k1⟩ := K.dep 1 rfl rfl rfl;refine zi 13 (.slice A' xs.length c') rfl e1 ?_;obtain ⟨⟨gx, q⟩, e8, k8⟩ := K.dep 8 rfl rfl rfl
      refine zi 20 (.slice (some ⟨gx, 0, none⟩) 1 1) rfl e8 (zhv (n' := xs.length + 1) (xs' := fsV (xs ++ [(f, q)])) Tryd.underlying22 inf37 rfl (by decide) rfl (owns_no LQ hO.row) rfl (zuk (k8.here).1 (k8.here).1.lt rfl) (fsV_one (xs := [(f, q)])) rfl (fsV_add xs (f, q)) (by unfold maxLen; omega) (by omega) (by rw [hszK] at hloS; exact Nat.le_trans hloS LQ.size) ?_)
      intro A9 c9 w6 O9 hb N9;exact ⟨hb, ⟨(A9, c9, q), rfl, (fun z hz => ⟨qg O9 hz (fun _ _ h => h.elim), ((k8.here).2.row zzx (owns_no LQ hO.row) hb).no hz⟩)⟩⟩
  intro vs w3 LE AO AL AF AA;have hxd : Ext (Mut [(Value.slice A' xs.length c').ownBlock]) (w2) w3 := ((Ext.refl _ (w2)).drew).trans LE;obtain ⟨⟨A9, c9, q⟩, e9, k9⟩ := AL.2.2.2.2.2.2.2.2.2.1;have Wc9 := k9.here;refine ja (τ := [(1, _), (2, _), (3, _), (4, _), (21, .slice A9 (xs.length + 1) c9)]) ⟨rfl, rfl, rfl, rfl, congrArg some e9, trivial⟩ ?_;clear AL AF AA AO
  refine ew_ak (zgq (by kernel_rfl) (fun _ _ d_ _ _ h => by cases d_ <;> exact h) ?_);have hO9 := Wc9.1;have hF9 := Wc9.2;have hxd2 := hxd;rw [hszK] at hF9;have hFs : FsO lo w3 A9 c9 (xs ++ [(f, q)]) := hO.add hF9 (by omega) hG (by omega) (by rw [List.length_append]; exact hO9) hxd;have H1d := H1.ext hxd (hZ1 H1);have H2d := H2.ext hxd (hZ1 H2);have H3d := H3.ext hxd (hZ1 H3)
  refine za rfl (zb Tryd.underlying24 rfl sz22 (by decide) rfl (yu (qa (cs' := #[.slice A9 (xs ++ [(f, q)]).length c9]) sz22 rfl rfl H3d rfl rfl (Nat.le_of_ble_eq_true rfl) (by rw [List.length_append]; rfl) ?_)));rintro wE H3e E5;have hne : ∀ q, q ≠ g3 → ¬ Mut [some g3] q := fun q hq hm => hq (kq hm);have hsd := hxd.size;have hg3 : lo ≤ g3 := by omega
  refine yd (zm (ze (zj (mvx rfl (za rfl (yh rfl rfl (zo (by omega)) (avx rfl (yd ?_))))))))
  exact yn (k + 1, xs ++ [(f, q)], A9, c9) (by show fs.length - (k + 1) < fs.length - k; omega) ⟨rfl, rfl, rfl, rfl, trivial⟩ (⟨hlt, (hE.step hxd (fun q hq => Or.inl (hZg q hq))).step E5 (fun q hq => Or.inl (show lo ≤ q by have := kq hq; omega)), H1d.ext E5 (hne _ (by omega)), H2d.ext E5 (hne _ (by omega)), H3e, hFs.blk zzz (by decide) H3d E5, by rw [List.map_append, hxs, List.take_add_one, hf]; rfl⟩)
 ·
  have q := of_decide_eq_false q;have hxs2 : xs.map (·.1) = fs := by rw [hxs, List.take_of_length_le (by omega)]
  refine yo (zh (zh (zu (ze (srx (za rfl (vh Tryd.underlying24 rfl sz24 rfl H3 rfl (yu (gk sz24 rfl rfl H2 rfl rfl rfl ?_)))))))));rintro wF H2f E6;refine rnx (zr (zq (rs := [.cell 2 24]) (vs := [_]) rfl ⟨⟨_, rfl, jq Tryd.underlying24 rfl sz24 H2f rfl⟩, trivial⟩ ?_))
  exact ⟨⟨A', c', xs, rfl, by rw [← hlo]; exact hO.blk zzz (by decide) H2 E6, hxs2⟩, (hE.step E6 (fun q hq => Or.inl (show lo ≤ q by have := kq hq; omega))).below (fun q hq => by rw [← hlo]; exact hq)⟩
end Go.Proofs.YtmjbnhjgebjhlaaDoor
namespace Go.Proofs.YtmjbnhjgebjhlaaDoor
set_option maxRecDepth 100000
def LFn.withIns (f : LFn) (l : List LIns) : LFn := ⟨f.name, f.params, f.regs, f.frees, f.gen, f.bound, f.names, f.consts, l, f.rgs⟩
theorem none_bad {fs : List LFn} {f : LFn} : ∀ (l : List LIns) (at_ : Nat), (∀ (k : Nat) i, l[k]? = some i → vr fs f (at_ + k) i = true) → jo fs f at_ l = none
 | [], _, _ => rfl
 | x :: l, at_, h => by
  show (if vr fs f at_ x = true then jo fs f (at_ + 1) l else some at_) = none
  have h0 : vr fs f at_ x = true := h 0 x rfl;rw [if_pos h0];exact none_bad l (at_ + 1) fun k i hk => by have := h (k + 1) i (by simpa using hk); rwa [show at_ + (k + 1) = at_ + 1 + k by omega] at this
theorem first_bad {fs : List LFn} {f : LFn} : ∀ (l : List LIns) (a n : Nat) (x : LIns), (∀ (k : Nat) i, k < n → l[k]? = some i → vr fs f (a + k) i = true) → l[n]? = some x → vr fs f (a + n) x = false → jo fs f a l = some (a + n)
 | [], _, _, _, _, h, _ => by cases h
 | y :: l, a, 0, x, _, hx, hb => by
  obtain rfl := Option.some.inj hx;show (if vr fs f a y = true then _ else some a) = some (a + 0)
  rw [Nat.add_zero] at hb;rw [hb]; rfl
 | y :: l, a, n + 1, x, h, hx, hb => by
  show (if vr fs f a y = true then jo fs f (a + 1) l else some a) = some (a + (n + 1))
  have h0 : vr fs f a y = true := h 0 y (by omega) rfl;rw [if_pos h0, first_bad l (a + 1) n x (fun k i hk hi => by have := h (k + 1) i (by omega) (by simpa using hi); rwa [show a + (k + 1) = a + 1 + k by omega] at this) (by simpa using hx) (by rwa [show a + 1 + n = a + (n + 1) by omega])];congr 1; omega
theorem go_form_to {fs : List LFn} : ∀ (k : Nat), k ≤ fs.length → (∀ (j : Nat) f, j < k → fs[j]? = some f → jt f j = true ∧ jo fs f 0 f.ins = none ∧ f.rgs.all (rgC f) = true) → goF fs 0 fs = goF fs k (fs.drop k)
 | 0, _, _ => rfl
 | k + 1, hk, h => by
  rw [go_form_to k (by omega) fun j f hj => h j f (by omega)];obtain ⟨f, hf⟩ : ∃ f, fs[k]? = some f := ⟨_, List.getElem?_eq_getElem (by omega)⟩;obtain ⟨h1, h2, h3⟩ := h k f (by omega) hf;exact go_step hf h1 h2 h3
theorem insC_congr {fs fs' : List LFn} {f : LFn} {k : Nat} {i : LIns} (h : fs'.length = fs.length) (ha : ∀ z, fsAt fs' z = fsAt fs z) : vr fs' f k i = vr fs f k i := by
 unfold vr lOK;rw [h, ha]
theorem insC_len {fs : List LFn} {f : LFn} {l : List LIns} {k : Nat} {i : LIns} (h : l.length = f.ins.length) : vr fs (f.withIns l) k i = vr fs f k i := by
 show ((flN i.op != 0) && (yl (uD i.op) i.d f.regs && (yl (uA i.op) i.a f.regs && (yl (uB i.op) i.b f.regs && (yl (uT i.op) i.t (l.length : Int) && (kOK fs.length f i && (lOK fs f i && ((!(decide (i.op = 40)) || f.gen) && ((decide (k + 1 < l.length) || (decide (i.op = 18) || (decide (i.op = 41) || decide (i.op = 42))))))))))))) = _
 rw [h]; rfl
theorem insC_more {fs : List LFn} {f : LFn} {l : List LIns} {k : Nat} {i : LIns} (h : f.ins.length ≤ l.length) (hi : vr fs f k i = true) : vr fs (f.withIns l) k i = true := by
 show ((flN i.op != 0) && (yl (uD i.op) i.d f.regs && (yl (uA i.op) i.a f.regs && (yl (uB i.op) i.b f.regs && (yl (uT i.op) i.t (l.length : Int) && (kOK fs.length f i && (lOK fs f i && ((!(decide (i.op = 40)) || f.gen) && ((decide (k + 1 < l.length) || (decide (i.op = 18) || (decide (i.op = 41) || decide (i.op = 42))))))))))))) = true
 unfold vr at hi;simp only [Bool.and_eq_true] at hi ⊢
 obtain ⟨h1, h2, h3, h4, h5, h6, h7, h8, h9⟩ := hi;refine ⟨h1, h2, h3, h4, ?_, h6, h7, h8, ?_⟩
 · unfold yl inI at h5 ⊢;split at h5
   · rename_i hu
     rw [if_pos hu];simp only [Bool.and_eq_true, decide_eq_true_eq] at h5 ⊢
     omega
   · rename_i hu
     rw [if_neg hu];exact h5
 · simp only [Bool.or_eq_true, decide_eq_true_eq] at h9 ⊢
   rcases h9 with h9 | h9
   · exact Or.inl (by omega)
   · exact Or.inr h9
theorem headC_ins {f : LFn} {n : Nat} {l : List LIns} (h : jt f n = true) (hl : l.length ≠ 0) : jt (f.withIns l) n = true := by
 unfold jt at h ⊢;simp only [Bool.and_eq_true] at h ⊢
 obtain ⟨h1, h2, h3, h4, h5, h6, _, h8⟩ := h;exact ⟨h1, h2, h3, h4, h5, h6, decide_eq_true hl, h8⟩
theorem fsAt_set {fs : List LFn} {n : Nat} {f : LFn} {l : List LIns} (hf : fs[n]? = some f) (z : Int) : fsAt (fs.set n (f.withIns l)) z = fsAt fs z := by
 unfold fsAt;rw [List.getElem?_set];split
 · rename_i h
   have hlt := (List.getElem?_eq_some_iff.1 hf).1;rw [if_pos (by omega)];rw [← h, hf]; rfl
 · rfl
theorem yiv {fs : List LFn} (hl : ¬ (fs.length < 1 ∨ 4000 < fs.length)) (hform : ∀ (k : Nat) f, fs[k]? = some f → InForm fs f k) {n : Nat} {f : LFn} (hf : fs[n]? = some f) {l : List LIns} {a : Nat} {x : LIns} (hx : l[a]? = some x)
 (hlt : ∀ (k : Nat) i, k < a → l[k]? = some i → vr fs (f.withIns l) k i = true) (hb : vr fs (f.withIns l) a x = false) : kd (fs.set n (f.withIns l)) = ((n : Int), (a : Int), 3) := by
 have hn := (List.getElem?_eq_some_iff.1 hf).1;have hlen : (fs.set n (f.withIns l)).length = fs.length := List.length_set;rw [yhq (by rw [hlen]; exact hl)];have hcg : ∀ (g : LFn) (k : Nat) (i : LIns), vr (fs.set n (f.withIns l)) g k i = vr fs g k i := fun g k i => insC_congr hlen (fsAt_set hf)
 have hg : (fs.set n (f.withIns l))[n]? = some (f.withIns l) := by rw [List.getElem?_set, if_pos rfl, if_pos hn]
 rw [go_form_to n (by omega) fun j g hj hgj => by
  rw [List.getElem?_set, if_neg (by omega)] at hgj;have h := hform j g hgj;exact ⟨h.head, none_bad _ 0 fun k i hk => by rw [Nat.zero_add, hcg]; exact h.ins k i hk, h.rgs⟩]
 have hbad := first_bad (fs := fs.set n (f.withIns l)) (f := f.withIns l) l 0 a x (fun k i hk hi => by rw [Nat.zero_add, hcg]; exact hlt k i hk hi) hx (by rw [Nat.zero_add, hcg]; exact hb);rw [Nat.zero_add] at hbad;exact go_ins hg (headC_ins (hform n f hf).head (fun e => by rw [List.length_eq_zero_iff.1 e] at hx; cases hx)) hbad
theorem spoil_set {fs : List LFn} (hl : ¬ (fs.length < 1 ∨ 4000 < fs.length)) (hform : ∀ (k : Nat) f, fs[k]? = some f → InForm fs f k) {n : Nat} {f : LFn} (hf : fs[n]? = some f) {a : Nat} (ha : a < f.ins.length) {x : LIns} (hb : vr fs f a x = false) : kd (fs.set n (f.withIns (f.ins.set a x))) = ((n : Int), (a : Int), 3) := by
 refine yiv hl hform hf (x := x) (by rw [List.getElem?_set, if_pos rfl, if_pos ha]) (fun k i hk hi => ?_) ?_
 · rw [insC_len List.length_set];rw [List.getElem?_set, if_neg (by omega)] at hi;exact (hform n f hf).ins k i hi
 · rw [insC_len List.length_set];exact hb
theorem bad_move (fs : List LFn) (f : LFn) (a : Nat) : vr fs f a ⟨4, f.regs, 0, 0, 0, 0, []⟩ = false := by
 unfold vr;have : yl (uD 4) f.regs f.regs = false := by
  rw [show uD 4 = true from rfl];show inI f.regs f.regs = false
  unfold inI;rw [decide_eq_false (show ¬ f.regs < f.regs by omega), Bool.and_false]
 show (_ && (yl (uD 4) f.regs f.regs && _)) = false
 rw [this, Bool.false_and, Bool.and_false]
theorem bad_jump (fs : List LFn) (f : LFn) (a : Nat) : vr fs f a ⟨18, 0, 0, 0, (f.ins.length : Int), 0, []⟩ = false := by
 unfold vr;have : yl (uT 18) (f.ins.length : Int) (f.ins.length : Int) = false := by
  rw [show uT 18 = true from rfl];show inI (f.ins.length : Int) (f.ins.length : Int) = false
  unfold inI;rw [decide_eq_false (show ¬ (f.ins.length : Int) < (f.ins.length : Int) by omega), Bool.and_false]
 show (_ && (_ && (_ && (_ && (yl (uT 18) (f.ins.length : Int) (f.ins.length : Int) && _))))) = false
 rw [this];simp
def nopI : LIns := ⟨0, 0, 0, 0, 0, 0, []⟩
theorem bad_nop (fs : List LFn) (f : LFn) (l : List LIns) : vr fs (f.withIns (l ++ [nopI])) l.length nopI = false := by
 unfold vr;have : (decide (l.length + 1 < (f.withIns (l ++ [nopI])).ins.length) || (decide (nopI.op = 18) || (decide (nopI.op = 41) || decide (nopI.op = 42)))) = false := by
  rw [decide_eq_false (show ¬ l.length + 1 < (f.withIns (l ++ [nopI])).ins.length by show ¬ l.length + 1 < (l ++ [nopI]).length; rw [List.length_append]; show ¬ l.length + 1 < l.length + 1; omega)];rfl
 rw [this];simp
theorem spoil_add {fs : List LFn} (hl : ¬ (fs.length < 1 ∨ 4000 < fs.length)) (hform : ∀ (k : Nat) f, fs[k]? = some f → InForm fs f k) {n : Nat} {f : LFn} (hf : fs[n]? = some f) : kd (fs.set n (f.withIns (f.ins ++ [nopI]))) = ((n : Int), (f.ins.length : Int), 3) := by
 refine yiv hl hform hf (x := nopI) (by rw [List.getElem?_append_right (Nat.le_refl _), Nat.sub_self]; rfl) (fun k i hk hi => ?_) (bad_nop fs f f.ins);rw [List.getElem?_append_left hk] at hi;exact insC_more (by rw [List.length_append]; omega) ((hform n f hf).ins k i hi)
end Go.Proofs.YtmjbnhjgebjhlaaDoor
namespace Go.Proofs.YtmjbnhjgebjhlaaDoor
open Go.RowKit
set_option maxRecDepth 100000
section
variable {P : Program} {N : Nat} {ops : Array Oper} {Q : Exit → Act → World → Prop} {σ : Env} {w : World} {ty : TypeId} {pos : String} {af : Array Edge} {dst : Option Nat} {Post : Value → World → Prop}
theorem yfx {T e : TypeId} {x y : Operand} {g base n c s o m : Nat} {v : Value} {xs xs' : List Value} (hs : qk P T m) (hx : ev σ x = some (.pointer (some ⟨g, o, none⟩))) (hy : ev σ y = some v) (ho : w.ownsRow base e s (.slice (some ⟨g, 0, none⟩) n c) n xs) (hv : v.cells.size = m) (h1 : ka v.cells.toList = true) (hj : o + m ≤ n * s)
 (he : xs.take o ++ (v.cells.toList ++ xs.drop (o + m)) = xs')
 (k : ∀ w', w'.ownsRow base e s (.slice (some ⟨g, 0, none⟩) n c) n xs' → Ext (Mut [some g]) w w' → Post undef w') : OW P N ops Q ⟨dst, .store T x y, ty, pos, af, none⟩ σ w Post := by
 subst he;rcases ho.2 with ⟨h0, _⟩ | ⟨g', cap, cur, hv', hb, hh, hn, hm, hsz, ht⟩
 · cases h0
 · cases hv'
   have hlen := ho.1;have hcs : n * s ≤ cur.size := by
    have h2 := congrArg List.length ht;rw [List.length_take, ho.1, Array.length_toList] at h2;omega
   have hvl : v.cells.toList.length = m := by rw [Array.length_toList]; exact hv
   have hln : (xs.take o ++ (v.cells.toList ++ xs.drop (o + m))).length = n * s := by
    rw [List.length_append, List.length_append, List.length_take, List.length_drop, hvl, hlen]; omega
   refine qu hs hx hy (show Blk w g e cur from hh) hv h1 (by omega) fun w' hb' he' => k w' ⟨hln, Or.inr ⟨g, c, _, rfl, hb, hb', hn, hm, by rw [putCells_size]; exact hsz, ?_⟩⟩ he';apply List.ext_getElem?
   intro j;rw [List.getElem?_take];rcases Nat.lt_or_ge j (n * s) with hj1 | hj1
   · rw [if_pos hj1, Array.getElem?_toList, zhq];have hx : xs[j]? = cur[j]? := by
      have h2 := congrArg (·[j]?) ht;simp only [List.getElem?_take, if_pos hj1, Array.getElem?_toList] at h2
      exact h2.symm
     rcases Nat.lt_or_ge j o with h2 | h2
     · rw [if_neg (by omega), List.getElem?_append_left (by rw [List.length_take, hlen]; omega), List.getElem?_take, if_pos h2, hx]
     · rw [List.getElem?_append_right (by rw [List.length_take, hlen]; omega), List.length_take, hlen, Nat.min_eq_left (by omega)];rcases Nat.lt_or_ge j (o + m) with h3 | h3
       · rw [if_pos ⟨h2, by rw [hvl]; exact h3, by omega⟩, List.getElem?_append_left (by rw [hvl]; omega)]
       · rw [if_neg (by rw [hvl]; omega), List.getElem?_append_right (by rw [hvl]; omega), hvl, List.getElem?_drop, show o + m + (j - o - m) = j by omega, hx]
   · rw [if_neg (by omega), List.getElem?_eq_none (by rw [hln]; exact hj1)]
end
theorem flat_set {α : Type} {en : α → List Value} {s : Nat} (hs : ∀ x, (en x).length = s) : ∀ (xs : List α) (k : Nat) (y : α), k < xs.length → (xs.flatMap en).take (k * s) ++ (en y ++ (xs.flatMap en).drop (k * s + s)) = (xs.set k y).flatMap en
 | [], _, _, h => by cases h
 | x :: xs, 0, y, _ => by
  rw [Nat.zero_mul, List.take_zero, List.nil_append, Nat.zero_add, List.flatMap_cons, List.set_cons_zero, List.flatMap_cons];congr 1
  rw [List.drop_append_of_le_length (by rw [hs]; omega), List.drop_of_length_le (by rw [hs]; omega), List.nil_append]
 | x :: xs, k + 1, y, h => by
  have hx := hs x;rw [List.set_cons_succ, List.flatMap_cons, List.flatMap_cons, ← flat_set hs xs k y (by simpa using h), Nat.succ_mul];rw [List.take_append, List.drop_append, hx, List.take_of_length_le (by rw [hx]; omega), List.drop_of_length_le (by rw [hx]; omega), List.nil_append, List.append_assoc, show k * s + s - s = k * s by omega, show k * s + s + s - s = k * s + s by omega]
theorem yfk (is : List IB) (k : Nat) (y : IB) (h : k < is.length) : (ju is).take (k * 7) ++ (zlz y.1 y.2.1 y.2.2 ++ (ju is).drop (k * 7 + 7)) = ju (is.set k y) := flat_set (en := fun x : IB => zlz x.1 x.2.1 x.2.2) (s := 7) (fun _ => rfl) is k y h
theorem ynk (xs : List FB) (k : Nat) (y : FB) (h : k < xs.length) : (fsV xs).take (k * 10) ++ (fnC y.2.pl y.1 ++ (fsV xs).drop (k * 10 + 10)) = fsV (xs.set k y) := flat_set (en := fun x : FB => fnC x.2.pl x.1) (s := 10) (fun _ => rfl) xs k y h
theorem yex {α : Type} {xs : List α} {k j : Nat} {y z : α} (h : (xs.set k y)[j]? = some z) : (j = k ∧ z = y) ∨ (j ≠ k ∧ xs[j]? = some z) := by
 rw [List.getElem?_set] at h;split at h
 · rename_i e
   split at h
   · exact Or.inl ⟨e.symm, (Option.some.inj h).symm⟩
   · cases h
 · rename_i e
   exact Or.inr ⟨fun e2 => e e2.symm, h⟩
section
variable {lo : Nat} {w w' : World} {A : Option Addr} {c : Nat} {xs : List FB} {Z : Nat → Prop}
theorem FsO.chg (h : FsO lo w A c xs) {k : Nat} {x0 y : FB} (hx : xs[k]? = some x0) (hfn : FnO lo w' y.2 y.1) (hg : FnG y.1) (hbl : ∀ b, zoz y.2 y.1 b → zoz x0.2 x0.1 b ∨ w.heap.size ≤ b) (E : Ext Z w w') (hZ : ∀ b, Z b → zoz x0.2 x0.1 b ∨ (Value.slice A xs.length c).ownBlock = some b)
 (hrow : w'.ownsRow lo 37 10 (.slice A xs.length c) xs.length (fsV (xs.set k y))) : FsO lo w' A c (xs.set k y) := by
 refine ⟨by rw [List.length_set]; exact hrow, fun z hz => ?_, fun z hz => ?_, fun i j p q hi hj hij b hb hb2 => ?_, by rw [List.length_set]; exact h.len⟩
 · obtain ⟨j, hj⟩ := List.mem_iff_getElem?.1 hz;rcases yex hj with ⟨_, rfl⟩ | ⟨h1, h2⟩
   · exact hfn
   · have hm := List.mem_of_getElem? h2;refine (h.fn z hm).ext E fun b hb hzb => ?_;rcases hZ b hzb with h3 | h3
     · exact h.ap j k z x0 h2 hx h1 b hb h3
     · obtain ⟨cur, h4⟩ := gu h.row h3;exact (h.fn z hm).ne_blk zzx h4 hb
 · obtain ⟨j, hj⟩ := List.mem_iff_getElem?.1 hz;rcases yex hj with ⟨_, rfl⟩ | ⟨_, h2⟩
   · exact hg
   · exact h.g z (List.mem_of_getElem? h2)
 · rcases yex hi with ⟨h1, rfl⟩ | ⟨h1, h2⟩ <;> rcases yex hj with ⟨h3, rfl⟩ | ⟨h3, h4⟩
   · omega
   · rcases hbl b hb with h5 | h5
     · exact h.ap k j x0 q hx h4 (by omega) b h5 hb2
     · have := h.lt (List.mem_of_getElem? h4) hb2;omega
   · rcases hbl b hb2 with h5 | h5
     · exact h.ap i k p x0 h2 hx h1 b hb h5
     · have := h.lt (List.mem_of_getElem? h2) hb;omega
   · exact h.ap i j p q h2 h4 hij b hb hb2
end
def QP.withIs (q : QP) (ai : Option Addr) (ci : Nat) (is : List IB) : QP := ⟨q.an, q.cn, q.ac, q.cc, ai, ci, q.ar, q.cr, is⟩
section
variable {lo : Nat} {w w' : World} {q : QP} {f : LFn}
theorem FnO.len (h : FnO lo w q f) : q.is.length = f.ins.length := by rw [← h.ise, List.length_map]
theorem FnO.setIns (h : FnO lo w q f) {a : Nat} {x : LIns} (hl : x.l = []) (hr : w'.ownsRow lo 40 7 (.slice q.ai q.is.length q.ci) q.is.length (ju (q.is.set a (x, none, 0)))) (E : Ext (Mut [(Value.slice q.ai q.is.length q.ci).ownBlock]) w w') : FnO lo w' (q.withIs q.ai q.ci (q.is.set a (x, none, 0))) (f.withIns (f.ins.set a x)) := by
 have hnew : ∀ {b : Nat}, (liV (x, none, 0)).ownBlock = some b → False := fun hb => by cases hb
 refine ⟨qw h.names h.ins.i (by decide) E, qw h.consts h.ins.i (by decide) E, ⟨?_, fun z hz => ?_, fun j k y z hj hk hjk b hb => ?_⟩, ?_, qw h.rgs h.ins.i (by decide) E⟩
 · show w'.ownsRow lo 40 7 (.slice q.ai (q.is.set a (x, none, 0)).length q.ci) (q.is.set a (x, none, 0)).length _
   rw [List.length_set]; exact hr
 · rcases List.mem_or_eq_of_mem_set hz with hz | rfl
   · exact qw (h.ins.l z hz) h.ins.i (by decide) E
   · show w'.ownsRow lo 3 1 (.slice none x.l.length 0) x.l.length (vm x.l)
     rw [hl]; exact xc
 · rcases yex hj with ⟨_, rfl⟩ | ⟨h1, h2⟩
   · exact (hnew hb).elim
   · rcases yex hk with ⟨_, rfl⟩ | ⟨h3, h4⟩
     · exact fun e => hnew e
     · exact h.ins.ap j k y z h2 h4 hjk b hb
 · show List.map (fun z : IB => z.1) (q.is.set a (x, none, 0)) = f.ins.set a x
   rw [List.map_set, h.ise]
theorem setIns_bl (h : FnO lo w q f) {a : Nat} {x : LIns} {b : Nat} (hb : zoz (q.withIs q.ai q.ci (q.is.set a (x, none, 0))) (f.withIns (f.ins.set a x)) b) : zoz q f b := by
 have _ := h;rcases hb with hb | hb | hb | hb | ⟨z, hz, hb⟩
 · exact Or.inl hb
 · exact Or.inr (Or.inl hb)
 · have hb : (Value.slice q.ai (q.is.set a (x, none, 0)).length q.ci).ownBlock = some b := hb;rw [List.length_set] at hb;exact Or.inr (Or.inr (Or.inl hb))
 · exact Or.inr (Or.inr (Or.inr (Or.inl hb)))
 · rcases List.mem_or_eq_of_mem_set hz with hz | rfl
   · exact Or.inr (Or.inr (Or.inr (Or.inr ⟨z, hz, hb⟩)))
   · cases hb
theorem FnG.setIns (h : FnG f) {a : Nat} {x : LIns} (hl : x.l = []) (hI : InsI x) : FnG (f.withIns (f.ins.set a x)) :=
 ⟨⟨h.i.params, h.i.regs, h.i.frees, h.i.bound, h.i.name, h.i.nl, h.i.ni, h.i.cl, h.i.ci, by show 72 * (f.ins.set a x).length ≤ _; rw [List.length_set]; exact h.i.il, fun z hz => by
  rcases List.mem_or_eq_of_mem_set hz with hz | rfl
  · exact h.i.ii z hz
  · exact ⟨hI, by rw [hl]; decide, fun y hy => by rw [hl] at hy; cases hy⟩, h.i.rl, h.i.ri⟩, h.s⟩
theorem FnO.addIns (h : FnO lo w q f) {x : LIns} (hl : x.l = []) {A' : Option Addr} {c' : Nat} (hr : w'.ownsRow lo 40 7 (.slice A' (q.is.length + 1) c') (q.is.length + 1) (ju (q.is ++ [(x, none, 0)]))) (E : Ext (Mut [(Value.slice q.ai q.is.length q.ci).ownBlock]) w w') : FnO lo w' (q.withIs A' c' (q.is ++ [(x, none, 0)])) (f.withIns (f.ins ++ [x])) := by
 have hnew : ∀ {b : Nat}, (liV (x, none, 0)).ownBlock = some b → False := fun hb => by cases hb
 have hcase : ∀ {i : Nat} {y : IB}, (q.is ++ [(x, none, 0)])[i]? = some y → q.is[i]? = some y ∨ y = (x, none, 0) := fun {i y} hi => by
  rcases Nat.lt_or_ge i q.is.length with h1 | h1
  · rw [List.getElem?_append_left h1] at hi;exact Or.inl hi
  · rw [List.getElem?_append_right h1] at hi;rcases hz : i - q.is.length with _ | z
    · rw [hz] at hi;exact Or.inr (Option.some.inj hi).symm
    · rw [hz] at hi; cases hi
 refine ⟨qw h.names h.ins.i (by decide) E, qw h.consts h.ins.i (by decide) E, ⟨?_, fun z hz => ?_, fun j k y z hj hk hjk b hb => ?_⟩, ?_, qw h.rgs h.ins.i (by decide) E⟩
 · show w'.ownsRow lo 40 7 (.slice A' (q.is ++ [(x, none, 0)]).length c') (q.is ++ [(x, none, 0)]).length _
   rw [List.length_append]; exact hr
 · rcases List.mem_append.1 hz with hz | hz
   · exact qw (h.ins.l z hz) h.ins.i (by decide) E
   · rw [List.mem_singleton] at hz;subst hz;show w'.ownsRow lo 3 1 (.slice none x.l.length 0) x.l.length (vm x.l)
     rw [hl]; exact xc
 · rcases hcase hj with h1 | rfl
   · rcases hcase hk with h2 | rfl
     · exact h.ins.ap j k y z h1 h2 hjk b hb
     · exact fun e => hnew e
   · exact (hnew hb).elim
 · show List.map (fun z : IB => z.1) (q.is ++ [(x, none, 0)]) = f.ins ++ [x]
   rw [List.map_append, h.ise]; rfl
theorem addIns_bl {x : LIns} {A' : Option Addr} {c' : Nat} {m : Nat} (hN : ∀ k, (Value.slice A' (q.is.length + 1) c').ownBlock = some k → (Value.slice q.ai q.is.length q.ci).ownBlock = some k ∨ m ≤ k) {b : Nat} (hb : zoz (q.withIs A' c' (q.is ++ [(x, none, 0)])) (f.withIns (f.ins ++ [x])) b) : zoz q f b ∨ m ≤ b := by
 rcases hb with hb | hb | hb | hb | ⟨z, hz, hb⟩
 · exact Or.inl (Or.inl hb)
 · exact Or.inl (Or.inr (Or.inl hb))
 · have hb : (Value.slice A' (q.is ++ [(x, none, 0)]).length c').ownBlock = some b := hb;rw [List.length_append] at hb;rcases hN b hb with h | h
   · exact Or.inl (Or.inr (Or.inr (Or.inl h)))
   · exact Or.inr h
 · exact Or.inl (Or.inr (Or.inr (Or.inr (Or.inl hb))))
 · rcases List.mem_append.1 hz with hz | hz
   · exact Or.inl (Or.inr (Or.inr (Or.inr (Or.inr ⟨z, hz, hb⟩))))
   · rw [List.mem_singleton] at hz;subst hz;cases hb
theorem FnG.addIns (h : FnG f) {x : LIns} (hl : x.l = []) (hI : InsI x) (hlen : 72 * (f.ins.length + 1) ≤ 140737488351304) : FnG (f.withIns (f.ins ++ [x])) :=
 ⟨⟨h.i.params, h.i.regs, h.i.frees, h.i.bound, h.i.name, h.i.nl, h.i.ni, h.i.cl, h.i.ci, by show 72 * (f.ins ++ [x]).length ≤ _; rw [List.length_append]; exact hlen, fun z hz => by
  rcases List.mem_append.1 hz with hz | hz
  · exact h.i.ii z hz
  · rw [List.mem_singleton] at hz;subst hz;exact ⟨hI, by rw [hl]; decide, fun y hy => by rw [hl] at hy; cases hy⟩, h.i.rl, h.i.ri⟩, h.s⟩
end
theorem set_self {α : Type} {xs : List α} {k : Nat} {x : α} (h : xs[k]? = some x) : xs.set k x = xs := by
 apply List.ext_getElem?
 intro j;rw [List.getElem?_set];split
 · rename_i e
   subst e;rw [if_pos (List.getElem?_eq_some_iff.1 h).1, h]
 · rfl
theorem fsV_same {xs : List FB} {k : Nat} {x y : FB} (h : xs[k]? = some x) (he : fnC y.2.pl y.1 = fnC x.2.pl x.1) : fsV (xs.set k y) = fsV xs := by
 have hk := (List.getElem?_eq_some_iff.1 h).1;rw [← ynk xs k y hk, he, ynk xs k x hk, set_self h]
theorem fsV_head {xs : List FB} {k : Nat} {f : LFn} {q : QP} (h : xs[k]? = some (f, q)) {A' : Option Addr} {c' n' : Nat} {is : List IB} {l : List LIns} (hn : l.length = n') : (fsV xs).set (k * 10 + 8) (.slice A' n' c') = fsV (xs.set k (f.withIns l, q.withIs A' c' is)) := by
 subst hn;have hk := (List.getElem?_eq_some_iff.1 h).1;have e1 : fsV xs = (fsV xs).take (k * 10) ++ (fnC q.pl f ++ (fsV xs).drop (k * 10 + 10)) := by
  rw [ynk xs k (f, q) hk, set_self h]
 rw [← ynk xs k (f.withIns l, q.withIs A' c' is) hk];have ht : ((fsV xs).take (k * 10)).length = k * 10 := by rw [List.length_take, fsV_len]; omega
 conv => lhs; rw [e1]
 rw [List.set_append, if_neg (by rw [ht]; omega), ht, show k * 10 + 8 - k * 10 = 8 by omega, List.set_append, if_pos (by show 8 < 10; omega)];rfl
section
variable {lo : Nat} {w w' : World} {A : Option Addr} {c : Nat} {xs : List FB}
theorem FsO.cell (h : FsO lo w A c xs) {k : Nat} {x : FB} (hx : xs[k]? = some x) : ∃ g, A = some ⟨g, 0, none⟩ ∧ lo ≤ g ∧ g < w.heap.size ∧ ∀ i v, (fnC x.2.pl x.1)[i]? = some v → w.cell? ⟨g, 0 + k * 10 + i, none⟩ = some v := by
 have hk := (List.getElem?_eq_some_iff.1 hx).1;obtain ⟨g, hA, hlo, hg, hc⟩ := kv h.row (by omega);exact ⟨g, hA, hlo, hg, fun i v hv => by rw [Nat.zero_add]; exact hc _ _ (zjq (s := 10) (fun _ => rfl) hx hv)⟩
theorem InsO.cell {is : List IB} (h : InsO lo w A c is) {k : Nat} {x : IB} (hx : is[k]? = some x) : ∃ g, A = some ⟨g, 0, none⟩ ∧ lo ≤ g ∧ g < w.heap.size ∧ ∀ i v, (zlz x.1 x.2.1 x.2.2)[i]? = some v → w.cell? ⟨g, 0 + k * 7 + i, none⟩ = some v := by
 have hk := (List.getElem?_eq_some_iff.1 hx).1;obtain ⟨g, hA, hlo, hg, hc⟩ := kv h.i (by omega);exact ⟨g, hA, hlo, hg, fun i v hv => by rw [Nat.zero_add]; exact hc _ _ (zjq (s := 7) (fun _ => rfl) hx hv)⟩
section
variable {k : Nat} {f : LFn} {q : QP} (h : FsO lo w A c xs) (hx : xs[k]? = some (f, q)) (E : Ext (Mut [(Value.slice q.ai q.is.length q.ci).ownBlock]) w w')
include h hx E
theorem FsO.insZ : ∀ b, Mut [(Value.slice q.ai q.is.length q.ci).ownBlock] b → zoz q f b ∨ (Value.slice A xs.length c).ownBlock = some b := by
 have _ := h; have _ := hx; have _ := E;exact fun b hb => Or.inl (Or.inr (Or.inr (Or.inl (zcq hb))))
theorem FsO.setI {a : Nat} {x : LIns} (hl : x.l = []) (hI : InsI x) (hr : w'.ownsRow lo 40 7 (.slice q.ai q.is.length q.ci) q.is.length (ju (q.is.set a (x, none, 0)))) : FsO lo w' A c (xs.set k (f.withIns (f.ins.set a x), q.withIs q.ai q.ci (q.is.set a (x, none, 0)))) := by
 have hm := List.mem_of_getElem? hx;have hF := h.fn _ hm;refine h.chg hx (hF.setIns hl hr E) ((h.g _ hm).setIns hl hI) (fun b hb => Or.inl (setIns_bl hF hb)) E (h.insZ hx E) ?_;rw [fsV_same hx (by show fnC q.pl (f.withIns (f.ins.set a x)) = fnC q.pl f; unfold fnC LFn.withIns; rw [List.length_set])];exact qw h.row hF.ins.i (by decide) E
end
theorem FsO.addI {k : Nat} {f : LFn} {q : QP} {w1 w2 : World} (h : FsO lo w A c xs) (hx : xs[k]? = some (f, q)) {x : LIns} (hl : x.l = []) (hI : InsI x) (hlen : 72 * (f.ins.length + 1) ≤ 140737488351304) {A' : Option Addr} {c' g : Nat} (hA : A = some ⟨g, 0, none⟩)
 (hr : w1.ownsRow lo 40 7 (.slice A' (q.is.length + 1) c') (q.is.length + 1) (ju (q.is ++ [(x, none, 0)]))) (E1 : Ext (Mut [(Value.slice q.ai q.is.length q.ci).ownBlock]) w w1) (hN : ∀ k, (Value.slice A' (q.is.length + 1) c').ownBlock = some k → (Value.slice q.ai q.is.length q.ci).ownBlock = some k ∨ w.heap.size ≤ k)
 (hrow : w2.ownsRow lo 37 10 (.slice A xs.length c) xs.length (fsV (xs.set k (f.withIns (f.ins ++ [x]), q.withIs A' c' (q.is ++ [(x, none, 0)]))))) (E2 : Ext (Mut [some g]) w1 w2) : FsO lo w2 A c (xs.set k (f.withIns (f.ins ++ [x]), q.withIs A' c' (q.is ++ [(x, none, 0)]))) := by
 have hm := List.mem_of_getElem? hx;have hF := h.fn _ hm;have hk := (List.getElem?_eq_some_iff.1 hx).1;have hF1 := hF.addIns hl hr E1;have hrow1 := qw h.row hF.ins.i (by decide) E1;have hob : (Value.slice A xs.length c).ownBlock = some g := by rw [hA]; rfl
 have hF2 := hF1.row zzx hrow1 (by rw [hob]; exact E2)
 refine h.chg hx hF2 ((h.g _ hm).addIns hl hI hlen) (fun b hb => addIns_bl hN hb) (Z := fun b => Mut [(Value.slice q.ai q.is.length q.ci).ownBlock] b ∨ b = g) ((E1.mono (Y := fun b => Mut [(Value.slice q.ai q.is.length q.ci).ownBlock] b ∨ b = g) (fun _ hb _ => Or.inl hb)).step E2 (fun b hb => Or.inl (Or.inr (kq hb)))) (fun b hb => ?_) hrow;rcases hb with hb | hb
 · exact Or.inl (Or.inr (Or.inr (Or.inl (zcq hb))))
 · exact Or.inr (by rw [hob, hb])
end
end Go.Proofs.YtmjbnhjgebjhlaaDoor
namespace Go.Proofs.YtmjbnhjgebjhlaaDoor
open Go.RowKit
set_option maxRecDepth 100000
attribute [local irreducible] OW RS
theorem mod_any (x : Int) {m : Nat} (hm : 0 < m) (hm2 : m ≤ 18446744073709551615) : ∃ r : Nat, (IntKind.u64.wrap x).tmod (IntKind.u64.wrap ((m : Nat) : Int)) = (r : Int) ∧ r < m := by
 have h : 0 ≤ IntKind.u64.wrap x := by
  unfold IntKind.wrap;simp only [IntKind.bits, IntKind.signed, Bool.false_and, Bool.false_eq_true, if_false]
  omega
 rw [wrap_u64 (n := ((m : Nat) : Int)) (by omega)];have h1 := Int.emod_nonneg (IntKind.u64.wrap x) (b := ((m : Nat) : Int)) (by omega);have h2 := Int.emod_lt_of_pos (IntKind.u64.wrap x) (b := ((m : Nat) : Int)) (by omega);refine ⟨((IntKind.u64.wrap x).tmod ((m : Nat) : Int)).toNat, ?_, ?_⟩ <;> rw [Int.tmod_eq_emod_of_nonneg h] <;> omega
theorem i64_in {x : Int} (h : -9223372036854775808 ≤ x ∧ x ≤ 9223372036854775807) : I64 x := h
theorem i64_0 : I64 0 := i64_in (by omega)
theorem insI_of {op d t : Int} (h1 : I64 op) (h2 : I64 d) (h3 : I64 t) : InsI ⟨op, d, 0, 0, t, 0, []⟩ := ⟨h1, h2, i64_0, i64_0, h3, i64_0⟩
theorem check_at (w : World) {bp op cp bf of cf bl ol cl : Nat} (A : Option Addr) (m n ca : Nat) (fs : List LFn) (hfs : FsA n w A fs) (hm : m = fs.length) (hT : Tabs bp op cp bf of cf bl ol cl w) (hE : ∃ te pe, w.cell? ⟨2, 0, none⟩ = some (.iface te pe)) {r : Int × Int × Int} (hr : kd fs = r) : Calls Tryd.prog 6 #[.agg #[.slice A m ca]] w fun e w' => e = .returned (res3 r) ∧ Below w.heap.size w w' := by
 subst hm hr;exact zsx w A n ca fs hfs hT hE
set_option maxHeartbeats 4000000 in
theorem spoils_law (w : World) {bp op cp bf of cf bl ol cl : Nat} (A : Option Addr) (n ca : Nat) (fs : List LFn) (hfs : FsA n w A fs) (hn : n ≤ w.heap.size) (hsz : ∀ f ∈ fs, 72 * f.ins.length ≤ 140737488351232) (i0 i1 : Int) (h0 : I64 i0) (h1 : I64 i1) (hT : Tabs bp op cp bf of cf bl ol cl w) (hE : ∃ te pe, w.cell? ⟨2, 0, none⟩ = some (.iface te pe)) : Calls Tryd.prog 3 #[.agg #[.slice A fs.length ca], .int .i64 i0, .int .i64 i1] w fun e w' => e = .returned (.bool true) ∧ Below w.heap.size w w' := by
 have _ := h0;have _ := h1;obtain ⟨te, pe, hE⟩ := hE;have hfl := hfs.len;obtain ⟨lo, hlo⟩ : ∃ lo, lo = w.heap.size := ⟨_, rfl⟩;have hTz : ∀ z, Ext (fun q => lo ≤ q) w z → Tabs bp op cp bf of cf bl ol cl z := fun z hz => Per.tabs hT (X := fun q => lo ≤ q) (fun k hk => by rw [← hlo]; exact hk) z hz
 have hEz : ∀ z, Ext (fun q => lo ≤ q) w z → z.cell? ⟨2, 0, none⟩ = some (.iface te pe) := fun z hz => Per.cellA hE (X := fun q => lo ≤ q) (fun k hk => by rw [← hlo]; exact hk) z hz;refine yk Tryd.func3 rfl Tryd.ntmps3 rfl (srx (za rfl (jx rfl ?_)));rintro g3 wA B3 E1 G3;have hE1 := E1.noL lo
 refine anx rfl (zf (srx (za rfl (ya en5 rfl ((known_any _ (hTz _ hE1) ⟨te, pe, hEz _ hE1⟩).mono ?_)))));rintro e w1 ⟨rfl, hb⟩;refine ⟨_, rfl, ?_⟩;have E2 := Ext.of_below hb No;have hE2 := hE1.step E2 (fun _ h => h.elim);have B3b := B3.ext E2 (fun h => h.elim)
 refine za rfl (vv rfl (rnx (zx rfl (zk (ze (srx (za rfl (vh Tryd.underlying24 rfl sz24 rfl B3b rfl (za rfl (ya en6 rfl ((zsx _ A n ca fs (hfs.low (X := fun q => lo ≤ q) ⟨hE2, fun q hq => by have hq : lo ≤ q := hq; omega⟩) (hTz _ hE2) ⟨te, pe, hEz _ hE2⟩).mono ?_)))))))))));rintro e w2 ⟨rfl, hb⟩;refine ⟨_, rfl, ?_⟩;have E3 := Ext.of_below hb No
 have hE3 := hE2.step E3 (fun _ h => h.elim);have B3c := B3b.ext E3 (fun h => h.elim);refine mvx rfl (za rfl (zz rfl rfl (za rfl (zz rfl rfl (za rfl (zz rfl rfl (avx rfl (avx rfl (anx rfl (zf (srx (mvx rfl (za rfl (qj rfl rfl (rnx ?_)))))))))))))));by_cases hz : (kd fs).2.2 = 0
 ·
  refine zv 24 (.bool false) rfl ((by rw [hz]; rfl : (.bool ((kd fs).2.2 != 0) : Value) = _)) ?_;obtain ⟨hf1, hf4, hform⟩ := check_form hz;have hlr : ¬ (fs.length < 1 ∨ 4000 < fs.length) := by omega
  refine zx rfl (zk (ze (srx (za rfl (vh Tryd.underlying24 rfl sz24 rfl B3c rfl ?_)))));obtain ⟨wP, hwP⟩ : ∃ wP, wP = w2 := ⟨_, rfl⟩;rw [← hwP];rw [← hwP] at hE3 B3c;refine za rfl (ya en7 rfl ((rcopy_any _ A n ca fs (hfs.low (X := fun q => lo ≤ q) ⟨hE3, fun q hq => by have hq : lo ≤ q := hq; omega⟩) (by have := hE3.size; omega) hf4).mono ?_))
  rintro e w3 ⟨⟨A4, c4, xs, rfl, hO4, hxs⟩, hb⟩;refine ⟨_, rfl, ?_⟩;have E4 := Ext.of_below hb No;have hE4 := hE3.step E4 (fun _ h => h.elim);have hxl : xs.length = fs.length := by rw [← hxs, List.length_map]
  have hs3 := hE3.size;refine za rfl (va zr24 ?_);rintro g10 wB B10 E5 G10;refine yu (gk sz24 rfl rfl B10 rfl rfl rfl ?_);rintro wC B10b E6;have hs4 := hE4.size;have hE6 := (hE4.step E5 (fun _ h => h.elim)).step E6 (fun q hq => Or.inl (show lo ≤ q by have := kq hq; omega));have hO6 := (hO4.no E5).blk zzz (by decide) B10 E6
  refine rnx (srx (mvx rfl (za rfl (vd Tryd.underlying30 Tryd.underlying3 rfl rfl (za rfl (zb Tryd.underlying24 rfl sz22 (by decide) rfl (za rfl (zl Tryd.underlying22 rfl rfl B10b rfl (za rfl (vj Tryd.underlying22 rfl (za rfl (vd Tryd.underlying30 Tryd.underlying3 rfl rfl ?_))))))))))))
  obtain ⟨r0, hr0, hr0'⟩ := mod_any i0 (m := xs.length) (by omega) (by omega);refine za rfl (ow_rem rfl rfl (by rw [wrap_u64 (by omega)]; omega) hr0 (za rfl (vd Tryd.underlying3 Tryd.underlying30 rfl (zo (by omega)) ?_)));obtain ⟨⟨f, q⟩, hfq⟩ : ∃ x, xs[r0]? = some x := ⟨_, List.getElem?_eq_getElem hr0'⟩;have hff : fs[r0]? = some f := by rw [← hxs, List.getElem?_map, hfq]; rfl
  have hfm := List.mem_of_getElem? hff;have hqm := List.mem_of_getElem? hfq;have hil := hsz f hfm;obtain ⟨gr, hA4, hgr0, hgr1, hcr⟩ := hO6.cell hfq;have hcr : ∀ i v, (fnC q.pl f)[i]? = some v → wC.cell? ⟨gr, 0 + r0 * 10 + i, none⟩ = some v := hcr;have hFG : FnG f := hO6.g _ hqm;have hFO : FnO wP.heap.size wC q f := hO6.fn _ hqm;have hql := hFO.len
  refine anx rfl (srx (za rfl (zb Tryd.underlying24 rfl sz22 (by decide) rfl (za rfl (zl Tryd.underlying22 rfl rfl B10b rfl (mvx rfl (za rfl (qh (j := r0) Tryd.underlying22 ztx (congrArg (fun z ↦ some (Value.slice z xs.length c4)) hA4) rfl rfl hr0' (anx rfl (srx (mvx rfl (za rfl (vd Tryd.underlying30 Tryd.underlying3 rfl rfl (mvx rfl (za rfl (zg rfl (za rfl (zb Tryd.underlying37 rfl og (by decide) rfl (za rfl (yi Tryd.underlying34 rfl rfl (hcr 8 _ rfl) (za rfl (vj Tryd.underlying34 rfl (za rfl (vd Tryd.underlying30 Tryd.underlying3 rfl rfl ?_))))))))))))))))))))))))
  have hil0 : f.ins.length ≠ 0 := by
   have h := (hform r0 f hff).head;rw [zfk] at h;simp only [Bool.and_eq_true] at h
   exact (of_decide_eq_true h.1).2.2.2.2.2.2
  obtain ⟨r1, hr1, hr1'⟩ := mod_any i1 (m := f.ins.length) (by omega) (by omega);refine za rfl (ow_rem rfl rfl (by rw [wrap_u64 (by omega)]; omega) hr1 (za rfl (vd Tryd.underlying3 Tryd.underlying30 rfl (zo (by omega)) ?_)));obtain ⟨⟨x, B, cB⟩, hxq⟩ : ∃ x, q.is[r1]? = some x := ⟨_, List.getElem?_eq_getElem (by omega)⟩;obtain ⟨gi, hAi, hgi0, hgi1, hci⟩ := hFO.ins.cell hxq
  have hci : ∀ i v, (zlz x B cB)[i]? = some v → wC.cell? ⟨gi, 0 + r1 * 7 + i, none⟩ = some v := hci
  refine anx rfl (srx (mvx rfl (za rfl (zg rfl (za rfl (zb Tryd.underlying37 rfl og (by decide) rfl (za rfl (yi Tryd.underlying34 rfl rfl (hcr 8 _ rfl) (mvx rfl (za rfl (qh (j := r1) Tryd.underlying34 oe (congrArg (fun z ↦ some (Value.slice z f.ins.length q.ci)) hAi) rfl rfl hr1' (za rfl (ow (cs := (zlz x B cB).toArray) Tryd.underlying40 rfl oe rfl rfl (fun j v hj ↦ hci j v (by simpa using hj)) (za rfl (va zr40 ?_)))))))))))))))
  rintro g12 wD B12 E7 G12;refine yu (gk oe rfl rfl B12 rfl rfl rfl ?_);rintro wE B12b E8;have hlC := B10b.lt;have hrow_lt := fun b hb => vi hO6.row b hb;have hO8 := (hO6.no E7).ext E8 (fun b hb hm => by have := kq hm; have := hrow_lt b hb; omega) (fun y hy b hb hm => by have := kq hm; have := hO6.lt hy hb; omega);have hs6 := hE6.size
  have hE8 := (hE6.step E7 (fun _ h => h.elim)).step E8 (fun b hb => Or.inl (show lo ≤ b by have := kq hb; omega));have B10e := (B10b.ext E7 (fun h => h.elim)).ext E8 (fun hm => by have := kq hm; omega);have hZi : (Value.slice q.ai q.is.length q.ci).ownBlock = some gi := by rw [hAi]; rfl
  have hI8 : wE.ownsRow wP.heap.size 40 7 (.slice (some ⟨gi, 0, none⟩) q.is.length q.ci) q.is.length (ju q.is) := by
   have h : wE.ownsRow wP.heap.size 40 7 (.slice q.ai q.is.length q.ci) q.is.length (ju q.is) := (hO8.fn _ hqm).ins.i;rwa [hAi] at h
  obtain ⟨gr', hA8, _, _, hc8⟩ := hO8.cell hfq;have hge : gr' = gr := by rw [hA4] at hA8; injection hA8 with h; injection h with h; exact h.symm
  rw [hge] at hc8;have hc8 : ∀ i v, (fnC q.pl f)[i]? = some v → wE.cell? ⟨gr, 0 + r0 * 10 + i, none⟩ = some v := hc8;have hlen8 : ∀ y : FB, (xs.set r0 y).map (·.1) = fs.set r0 y.1 := fun y => by rw [List.map_set, hxs]
  refine rnx (zf (ygv mixed (yhv 10 rfl ?_)));refine zox (No) Mut.none_ [] [] (xy [Fx.of (.pointer (some ⟨gr, 0 + r0 * 10, none⟩)),
   Fx.of (.pointer (some ⟨gr, 0 + r0 * 10, none⟩)),
   Fx.of (.pointer (some ⟨gr, 0 + r0 * 10 + 8, none⟩)),
   Fx.of (.slice q.ai f.ins.length q.ci),
   Fx.of (.int .i64 ((r1 : Nat) : Int)),
   Fx.of (.pointer (some ⟨gr, 0 + r0 * 10, none⟩)),
   Fx.of (.pointer (some ⟨gr, 0 + r0 * 10, none⟩)),
   Fx.of (.pointer (some ⟨gr, 0 + r0 * 10 + 2, none⟩)),
   Fx.of (.int .i64 f.regs),
   Fx.of (.agg #[.int .i64 4, .int .i64 f.regs, .int .i64 0, .int .i64 0, .int .i64 0, .int .i64 0, .slice none 0 0])]) rfl trivial (fun _ h => by cases h) ?_ ?_
  · refine ⟨?_, ?_, ?_, ?_, ?_, ?_, ?_, ?_, ?_, ?_, trivial⟩
    · intro vs X wq K;exact zn rfl ⟨Below.refl _ _, Left.of rfl⟩
    · intro vs X wq K;obtain ⟨_, e0, k0⟩ := K.dep 0 rfl rfl rfl;refine zi 56 (.pointer (some ⟨gr, 0 + r0 * 10, none⟩)) rfl e0 ?_;exact zg rfl ⟨Below.refl _ _, Left.of rfl⟩
    · intro vs X wq K;obtain ⟨_, e1, k1⟩ := K.dep 1 rfl rfl rfl;refine zi 57 (.pointer (some ⟨gr, 0 + r0 * 10, none⟩)) rfl e1 ?_;exact zb Tryd.underlying37 rfl og (by decide) rfl ⟨Below.refl _ _, Left.of rfl⟩
    · intro vs X wq K;have LE := K.1;obtain ⟨_, e2, k2⟩ := K.dep 2 rfl rfl rfl;refine zi 58 (.pointer (some ⟨gr, 0 + r0 * 10 + 8, none⟩)) rfl e2 ?_;exact yi Tryd.underlying34 rfl rfl (ycx LE (hc8 8 _ rfl)) ⟨Below.refl _ _, Left.of rfl⟩
    · intro vs X wq K;exact zn rfl ⟨Below.refl _ _, Left.of rfl⟩
    · intro vs X wq K;exact zn rfl ⟨Below.refl _ _, Left.of rfl⟩
    · intro vs X wq K;obtain ⟨_, e5, k5⟩ := K.dep 5 rfl rfl rfl;refine zi 61 (.pointer (some ⟨gr, 0 + r0 * 10, none⟩)) rfl e5 ?_;exact zg rfl ⟨Below.refl _ _, Left.of rfl⟩
    · intro vs X wq K;obtain ⟨_, e6, k6⟩ := K.dep 6 rfl rfl rfl;refine zi 62 (.pointer (some ⟨gr, 0 + r0 * 10, none⟩)) rfl e6 ?_;exact zb Tryd.underlying37 rfl sz3 (by decide) rfl ⟨Below.refl _ _, Left.of rfl⟩
    · intro vs X wq K;have LE := K.1;obtain ⟨_, e7, k7⟩ := K.dep 7 rfl rfl rfl;refine zi 63 (.pointer (some ⟨gr, 0 + r0 * 10 + 2, none⟩)) rfl e7 ?_;exact yi Tryd.underlying3 rfl rfl (ycx LE (hc8 2 _ rfl)) ⟨Below.refl _ _, Left.of rfl⟩
    · intro vs X wq K;obtain ⟨_, e8, k8⟩ := K.dep 8 rfl rfl rfl;refine zi 64 (.int .i64 f.regs) rfl e8 ?_;exact vq (cs := #[.int .i64 4, .int .i64 f.regs, .int .i64 0, .int .i64 0, .int .i64 0, .int .i64 0, .slice none 0 0]) pl40 zr40 rfl rfl ⟨Below.refl _ _, Left.of rfl⟩
  intro vs w4 LE AO AL AF AA;have hbd : Below (wE).heap.size (wE) w4 := (((Ext.refl No (wE)).drew).trans LE).toBelow;obtain ⟨_, e3, k3⟩ := AL.2.2.2.1;obtain ⟨_, e4, k4⟩ := AL.2.2.2.2.1;obtain ⟨_, e9, k9⟩ := AL.2.2.2.2.2.2.2.2.2.1
  refine ja (τ := [(1, _), (2, _), (6, _), (9, _), (10, _), (11, _), (12, _), (59, .slice q.ai f.ins.length q.ci), (60, .int .i64 ((r1 : Nat) : Int)), (65, .agg #[.int .i64 4, .int .i64 f.regs, .int .i64 0, .int .i64 0, .int .i64 0, .int .i64 0, .slice none 0 0])]) ⟨rfl, rfl, rfl, rfl, rfl, rfl, rfl, congrArg some e3, congrArg some e4, congrArg some e9, trivial⟩ ?_;clear AL AF AA AO
  refine ew_ak (zgq (by kernel_rfl) (fun _ _ d_ _ _ h => by cases d_ <;> exact h) ?_);have E9 := Ext.of_below hbd No;have hI9 := qg hI8 E9 (fun _ _ h => h.elim)
  refine za rfl (qh (j := r1) Tryd.underlying34 oe (congrArg (fun z ↦ some (Value.slice z f.ins.length q.ci)) hAi) rfl rfl hr1' (yu (yfx (m := 7) (xs' := ju (q.is.set r1 (⟨4, f.regs, 0, 0, 0, 0, []⟩, none, 0))) oe rfl rfl hI9 rfl rfl (by omega) (by rw [Nat.zero_add]; exact yfk q.is r1 (⟨4, f.regs, 0, 0, 0, 0, []⟩, none, 0) (by omega)) ?_)));rintro wF O10 E10
  have hE9 := hE8.step E9 (fun _ h => h.elim);have hs8 := hE8.size;have hgiL : lo ≤ gi := by omega
  have hlE := hO8.row;have hne10 : g10 ≠ gi := fun e ↦ (hO8.fn _ hqm).ne_blk zzz B10e (Or.inr (Or.inr (Or.inl (by rw [e]; exact hZi))));have hne12 : g12 ≠ gi := by omega
  have hneR : gr ≠ gi := fun e ↦ by
   obtain ⟨c1, b1⟩ := gu hO8.row (show (Value.slice A4 xs.length c4).ownBlock = some gr by rw [hA4]; rfl);obtain ⟨c2, b2⟩ := gu hI8 rfl;rw [e] at b1;have h := b1.symm.trans b2;injection h with h
   injection h with _ h
   exact absurd h (by decide)
  have hneR10 : gr ≠ g10 := fun e ↦ by
   obtain ⟨c1, b1⟩ := gu hO8.row (show (Value.slice A4 xs.length c4).ownBlock = some gr by rw [hA4]; rfl);rw [e] at b1;have h := b1.symm.trans B10e;injection h with h
   injection h with _ h
   exact absurd h (by decide)
  have hcz : ∀ z, Ext (Mut [some gi]) wE z → ∀ i v, (fnC q.pl f)[i]? = some v → z.cell? ⟨gr, 0 + r0 * 10 + i, none⟩ = some v := fun z hz i v hv ↦ (hz.cell (World.block_lt_of_cell? _ _ (hc8 i v hv)) (fun hm ↦ hneR (kq hm))).trans (hc8 i v hv);have EZ1 : Ext (Mut [some gi]) wE wF := (E9.mono (Y := Mut [some gi]) (fun _ h _ => h.elim)).step E10 (fun b hb => Or.inl hb)
  have hS1 := hO8.setI hfq (by rw [hZi]; exact EZ1) (a := r1) (x := ⟨4, f.regs, 0, 0, 0, 0, []⟩) rfl (insI_of (i64_in (by omega)) hFG.i.regs (i64_in (by omega))) (by rw [hAi]; exact O10);have hgz : ∀ b, Mut [some gi] b → lo ≤ b := fun b hb ↦ by have := kq hb; omega
  have hE10 := hE9.step E10 (fun b hb => Or.inl (hgz b hb));have B10f := (B10e.ext E9 (fun h => h.elim)).ext E10 (fun hm => hne10 (kq hm));have B12f := (B12b.ext E9 (fun h => h.elim)).ext E10 (fun hm => hne12 (kq hm));refine rnx (srx (za rfl (vh Tryd.underlying24 rfl sz24 rfl B10f rfl ?_)));obtain ⟨wQ, hwQ⟩ : ∃ wQ, wQ = wF := ⟨_, rfl⟩;subst hwQ
  refine za rfl (ya en6 rfl ((check_at _ A4 xs.length _ c4 _ hS1.fsA (by rw [List.length_map, List.length_set]) (hTz _ hE10) ⟨te, pe, hEz _ hE10⟩ (r := (((r0 : Nat) : Int), ((r1 : Nat) : Int), 3)) (by rw [hlen8]; exact spoil_set hlr hform hff hr1' (bad_move fs f r1))).mono ?_));rintro e w5 ⟨rfl, hb⟩;refine ⟨_, rfl, ?_⟩;have E11 := Ext.of_below hb No
  have hE11 := hE10.step E11 (fun _ h => h.elim);have O11 := qg O10 E11 (fun _ _ h => h.elim);have B10g := B10f.ext E11 (fun h => h.elim);have B12g := B12f.ext E11 (fun h => h.elim);have EZ2 := EZ1.step E11 (fun _ h => h.elim)
  refine mvx rfl (za rfl (zz rfl rfl (za rfl (zz rfl rfl (za rfl (zz rfl rfl (avx rfl (avx rfl (anx rfl (zf (srx (mvx rfl (za rfl (qj rfl rfl (mvx rfl (onx rfl (zn rfl (onx rfl (zn rfl (onx rfl (qj rfl rfl (za rfl (yb rfl rfl (mvx rfl (yc 74 (.bool false) rfl ((by rfl : (.bool false : Value) = _)) (yc 80 (.bool false) rfl ((by rw [bne_self_eq_false] : (.bool (((r0 : Nat) : Int) != ((r0 : Nat) : Int)) : Value) = _)) (onx rfl (zn rfl (onx rfl (zn rfl (onx rfl (qj rfl rfl (za rfl (yb rfl rfl (rnx (zv 84 (.bool false) rfl ((by rw [bne_self_eq_false] : (.bool (((r1 : Nat) : Int) != ((r1 : Nat) : Int)) : Value) = _)) ?_))))))))))))))))))))))))))))))))))))
  have hql2 : q.is.length = f.ins.length := hql;have hd8 : ∀ z, Ext (Mut [some gi]) wE z → z.cell? ⟨gr, 0 + r0 * 10 + 8, none⟩ = some (.slice (some ⟨gi, 0, none⟩) q.is.length q.ci) := fun z hz ↦ by
   have h := hcz z hz 8 _ rfl;rw [show q.pl.ai = some ⟨gi, 0, none⟩ from hAi, ← hql2] at h;exact h
  refine zx rfl (zk (ze (zf (ygv mixed (yhv 11 rfl ?_)))));refine zox (No) Mut.none_ [] [] (xy [Fx.of (.pointer (some ⟨gr, 0 + r0 * 10, none⟩)),
   Fx.of (.pointer (some ⟨gr, 0 + r0 * 10, none⟩)),
   Fx.of (.pointer (some ⟨gr, 0 + r0 * 10 + 8, none⟩)),
   Fx.of (.slice (some ⟨gi, 0, none⟩) q.is.length q.ci),
   Fx.of (.int .i64 ((r1 : Nat) : Int)),
   Fx.of (.pointer (some ⟨gr, 0 + r0 * 10, none⟩)),
   Fx.of (.pointer (some ⟨gr, 0 + r0 * 10, none⟩)),
   Fx.of (.pointer (some ⟨gr, 0 + r0 * 10 + 8, none⟩)),
   Fx.of (.slice (some ⟨gi, 0, none⟩) q.is.length q.ci),
   Fx.of (.int .i64 (((q.is.length : Nat)) : Int)),
   Fx.of (.agg #[.int .i64 18, .int .i64 0, .int .i64 0, .int .i64 0, .int .i64 (((q.is.length : Nat)) : Int), .int .i64 0, .slice none 0 0])]) rfl trivial (fun _ h => by cases h) ?_ ?_
  · refine ⟨?_, ?_, ?_, ?_, ?_, ?_, ?_, ?_, ?_, ?_, ?_, trivial⟩
    · intro vs X wq K;exact zn rfl ⟨Below.refl _ _, Left.of rfl⟩
    · intro vs X wq K;obtain ⟨_, e0, k0⟩ := K.dep 0 rfl rfl rfl;refine zi 85 (.pointer (some ⟨gr, 0 + r0 * 10, none⟩)) rfl e0 ?_;exact zg rfl ⟨Below.refl _ _, Left.of rfl⟩
    · intro vs X wq K;obtain ⟨_, e1, k1⟩ := K.dep 1 rfl rfl rfl;refine zi 86 (.pointer (some ⟨gr, 0 + r0 * 10, none⟩)) rfl e1 ?_;exact zb Tryd.underlying37 rfl og (by decide) rfl ⟨Below.refl _ _, Left.of rfl⟩
    · intro vs X wq K;have LE := K.1;obtain ⟨_, e2, k2⟩ := K.dep 2 rfl rfl rfl;refine zi 87 (.pointer (some ⟨gr, 0 + r0 * 10 + 8, none⟩)) rfl e2 ?_;exact yi Tryd.underlying34 rfl rfl (ycx LE (hd8 _ EZ2)) ⟨Below.refl _ _, Left.of rfl⟩
    · intro vs X wq K;exact zn rfl ⟨Below.refl _ _, Left.of rfl⟩
    · intro vs X wq K;exact zn rfl ⟨Below.refl _ _, Left.of rfl⟩
    · intro vs X wq K;obtain ⟨_, e5, k5⟩ := K.dep 5 rfl rfl rfl;refine zi 90 (.pointer (some ⟨gr, 0 + r0 * 10, none⟩)) rfl e5 ?_;exact zg rfl ⟨Below.refl _ _, Left.of rfl⟩
    · intro vs X wq K;obtain ⟨_, e6, k6⟩ := K.dep 6 rfl rfl rfl;refine zi 91 (.pointer (some ⟨gr, 0 + r0 * 10, none⟩)) rfl e6 ?_;exact zb Tryd.underlying37 rfl og (by decide) rfl ⟨Below.refl _ _, Left.of rfl⟩
    · intro vs X wq K;have LE := K.1;obtain ⟨_, e7, k7⟩ := K.dep 7 rfl rfl rfl;refine zi 92 (.pointer (some ⟨gr, 0 + r0 * 10 + 8, none⟩)) rfl e7 ?_;exact yi Tryd.underlying34 rfl rfl (ycx LE (hd8 _ EZ2)) ⟨Below.refl _ _, Left.of rfl⟩
    · intro vs X wq K;obtain ⟨_, e8, k8⟩ := K.dep 8 rfl rfl rfl;refine zi 93 (.slice (some ⟨gi, 0, none⟩) q.is.length q.ci) rfl e8 ?_;exact vj Tryd.underlying34 rfl ⟨Below.refl _ _, Left.of rfl⟩
    · intro vs X wq K;obtain ⟨_, e9, k9⟩ := K.dep 9 rfl rfl rfl;refine zi 94 (.int .i64 (((q.is.length : Nat)) : Int)) rfl e9 ?_;exact vq (cs := #[.int .i64 18, .int .i64 0, .int .i64 0, .int .i64 0, .int .i64 (((q.is.length : Nat)) : Int), .int .i64 0, .slice none 0 0]) pl40 zr40 rfl rfl ⟨Below.refl _ _, Left.of rfl⟩
  intro vs w6 LE AO AL AF AA;have hbd : Below (w5).heap.size (w5) w6 := (((Ext.refl No (w5)).drew).trans LE).toBelow;obtain ⟨_, e3, k3⟩ := AL.2.2.2.1;obtain ⟨_, e4, k4⟩ := AL.2.2.2.2.1;obtain ⟨_, e10, k10⟩ := AL.2.2.2.2.2.2.2.2.2.2.1
  refine ja (τ := [(1, _), (2, _), (6, _), (9, _), (10, _), (11, _), (12, _), (13, _), (14, _), (88, .slice (some ⟨gi, 0, none⟩) q.is.length q.ci), (89, .int .i64 ((r1 : Nat) : Int)), (95, .agg #[.int .i64 18, .int .i64 0, .int .i64 0, .int .i64 0, .int .i64 (((q.is.length : Nat)) : Int), .int .i64 0, .slice none 0 0])]) ⟨rfl, rfl, rfl, rfl, rfl, rfl, rfl, rfl, rfl, congrArg some e3, congrArg some e4, congrArg some e10, trivial⟩ ?_
  clear AL AF AA AO;refine ew_ak (zgq (by kernel_rfl) (fun _ _ d_ _ _ h => by cases d_ <;> exact h) ?_);have E12 := Ext.of_below hbd No;have O12 := qg O11 E12 (fun _ _ h => h.elim);have hr1q : r1 < q.is.length := by omega
  refine za rfl (qh (j := r1) Tryd.underlying34 oe rfl rfl rfl hr1q (yu (yfx (m := 7) (xs' := ju (q.is.set r1 (⟨18, 0, 0, 0, ((q.is.length : Nat) : Int), 0, []⟩, none, 0))) oe rfl rfl O12 rfl rfl (by omega) (by rw [Nat.zero_add]; exact (yfk (q.is.set r1 (⟨4, f.regs, 0, 0, 0, 0, []⟩, none, 0)) r1 (⟨18, 0, 0, 0, ((q.is.length : Nat) : Int), 0, []⟩, none, 0) (by rw [List.length_set]; omega)).trans (by rw [List.set_set])) ?_)))
  rintro wG O13 E13;have EZ3 : Ext (Mut [some gi]) wE wG := (EZ2.step E12 (fun _ h => h.elim)).step E13 (fun b hb => Or.inl hb);have hS2 := hO8.setI hfq (by rw [hZi]; exact EZ3) (a := r1) (x := ⟨18, 0, 0, 0, ((q.is.length : Nat) : Int), 0, []⟩) rfl (insI_of (i64_in (by omega)) i64_0 (i64_in (by omega))) (by rw [hAi]; exact O13);have hE12 := hE11.step E12 (fun _ h => h.elim)
  have hE13 := hE12.step E13 (fun b hb => Or.inl (hgz b hb));have B10h := (B10g.ext E12 (fun h => h.elim)).ext E13 (fun hm => hne10 (kq hm));have B12h := (B12g.ext E12 (fun h => h.elim)).ext E13 (fun hm => hne12 (kq hm))
  refine rnx (srx (za rfl (vh Tryd.underlying24 rfl sz24 rfl B10h rfl (za rfl (ya en6 rfl ((check_at _ A4 xs.length _ c4 _ hS2.fsA (by rw [List.length_map, List.length_set]) (hTz _ hE13) ⟨te, pe, hEz _ hE13⟩ (r := (((r0 : Nat) : Int), ((r1 : Nat) : Int), 3)) (by rw [hlen8, hql2]; exact spoil_set hlr hform hff hr1' (bad_jump fs f r1))).mono ?_))))));rintro e w7 ⟨rfl, hb⟩
  refine ⟨_, rfl, ?_⟩;have E14 := Ext.of_below hb No;have hE14 := hE13.step E14 (fun _ h => h.elim);have O14 := qg O13 E14 (fun _ _ h => h.elim);have B10i := B10h.ext E14 (fun h => h.elim);have B12i := B12h.ext E14 (fun h => h.elim);have EZ4 := EZ3.step E14 (fun _ h => h.elim)
  refine mvx rfl (za rfl (zz rfl rfl (za rfl (zz rfl rfl (za rfl (zz rfl rfl (avx rfl (avx rfl (anx rfl (zf (srx (mvx rfl (za rfl (qj rfl rfl (mvx rfl (onx rfl (zn rfl (onx rfl (zn rfl (onx rfl (qj rfl rfl (za rfl (yb rfl rfl (mvx rfl (yc 104 (.bool false) rfl ((by rfl : (.bool false : Value) = _)) (yc 110 (.bool false) rfl ((by rw [bne_self_eq_false] : (.bool (((r0 : Nat) : Int) != ((r0 : Nat) : Int)) : Value) = _)) (onx rfl (zn rfl (onx rfl (zn rfl (onx rfl (qj rfl rfl (za rfl (yb rfl rfl (rnx (zv 114 (.bool false) rfl ((by rw [bne_self_eq_false] : (.bool (((r1 : Nat) : Int) != ((r1 : Nat) : Int)) : Value) = _)) (zx rfl (zk (ze (zf (ygv mixed (yhv 6 rfl ?_))))))))))))))))))))))))))))))))))))))))))
  refine zox (No) Mut.none_ [] [] (xy [Fx.of (.pointer (some ⟨gr, 0 + r0 * 10, none⟩)),
   Fx.of (.pointer (some ⟨gr, 0 + r0 * 10, none⟩)),
   Fx.of (.pointer (some ⟨gr, 0 + r0 * 10 + 8, none⟩)),
   Fx.of (.slice (some ⟨gi, 0, none⟩) q.is.length q.ci),
   Fx.of (.int .i64 ((r1 : Nat) : Int)),
   Fx.of (.agg #[.int .i64 x.op, .int .i64 x.d, .int .i64 x.a, .int .i64 x.b, .int .i64 x.t, .int .i64 x.k, .slice B x.l.length cB])]) rfl trivial (fun _ h => by cases h) ?_ ?_
  · refine ⟨?_, ?_, ?_, ?_, ?_, ?_, trivial⟩
    · intro vs X wq K;exact zn rfl ⟨Below.refl _ _, Left.of rfl⟩
    · intro vs X wq K;obtain ⟨_, e0, k0⟩ := K.dep 0 rfl rfl rfl;refine zi 115 (.pointer (some ⟨gr, 0 + r0 * 10, none⟩)) rfl e0 ?_;exact zg rfl ⟨Below.refl _ _, Left.of rfl⟩
    · intro vs X wq K;obtain ⟨_, e1, k1⟩ := K.dep 1 rfl rfl rfl;refine zi 116 (.pointer (some ⟨gr, 0 + r0 * 10, none⟩)) rfl e1 ?_;exact zb Tryd.underlying37 rfl og (by decide) rfl ⟨Below.refl _ _, Left.of rfl⟩
    · intro vs X wq K;have LE := K.1;obtain ⟨_, e2, k2⟩ := K.dep 2 rfl rfl rfl;refine zi 117 (.pointer (some ⟨gr, 0 + r0 * 10 + 8, none⟩)) rfl e2 ?_;exact yi Tryd.underlying34 rfl rfl (ycx LE (hd8 _ EZ4)) ⟨Below.refl _ _, Left.of rfl⟩
    · intro vs X wq K;exact zn rfl ⟨Below.refl _ _, Left.of rfl⟩
    · intro vs X wq K;have LE := K.1;exact vh Tryd.underlying40 rfl oe rfl (B12i.ext ((Ext.refl No _).drew.trans LE) (fun h ↦ h.elim)) rfl ⟨Below.refl _ _, Left.of rfl⟩
  intro vs w8 LE AO AL AF AA;have hbd : Below (w7).heap.size (w7) w8 := (((Ext.refl No (w7)).drew).trans LE).toBelow;obtain ⟨_, e3, k3⟩ := AL.2.2.2.1;obtain ⟨_, e4, k4⟩ := AL.2.2.2.2.1;obtain ⟨_, e5, k5⟩ := AL.2.2.2.2.2.1
  refine ja (τ := [(1, _), (6, _), (9, _), (10, _), (11, _), (13, _), (14, _), (118, .slice (some ⟨gi, 0, none⟩) q.is.length q.ci), (119, .int .i64 ((r1 : Nat) : Int)), (120, .agg #[.int .i64 x.op, .int .i64 x.d, .int .i64 x.a, .int .i64 x.b, .int .i64 x.t, .int .i64 x.k, .slice B x.l.length cB])]) ⟨rfl, rfl, rfl, rfl, rfl, rfl, rfl, congrArg some e3, congrArg some e4, congrArg some e5, trivial⟩ ?_
  clear AL AF AA AO;refine ew_ak (zgq (by kernel_rfl) (fun _ _ d_ _ _ h => by cases d_ <;> exact h) ?_);have E15 := Ext.of_below hbd No;have O15 := qg O14 E15 (fun _ _ h => h.elim)
  refine za rfl (qh (j := r1) Tryd.underlying34 oe rfl rfl rfl hr1q (yu (yfx (m := 7) (xs' := ju q.is) oe rfl rfl O15 rfl rfl (by omega) (by rw [Nat.zero_add]; exact (yfk (q.is.set r1 (⟨18, 0, 0, 0, ((q.is.length : Nat) : Int), 0, []⟩, none, 0)) r1 (x, B, cB) (by rw [List.length_set]; omega)).trans (by rw [List.set_set, set_self hxq])) ?_)));rintro wH O16 E16
  have EZ5 : Ext (Mut [some gi]) wE wH := (EZ4.step E15 (fun _ h => h.elim)).step E16 (fun b hb => Or.inl hb);have hE15 := hE14.step E15 (fun _ h => h.elim);have hE16 := hE15.step E16 (fun b hb => Or.inl (hgz b hb));have B10j := (B10i.ext E15 (fun h => h.elim)).ext E16 (fun hm => hne10 (kq hm))
  refine rnx (srx (mvx rfl (mvx rfl (za rfl (zg rfl (za rfl (zb Tryd.underlying37 rfl og (by decide) rfl (za rfl (yi Tryd.underlying34 rfl rfl (hd8 _ EZ5) (za rfl (vq (cs := #[.int .i64 0, .int .i64 0, .int .i64 0, .int .i64 0, .int .i64 0, .int .i64 0, .slice none 0 0]) pl40 zr40 rfl rfl (yc 127 (.agg #[.int .i64 0, .int .i64 0, .int .i64 0, .int .i64 0, .int .i64 0, .int .i64 0, .slice none 0 0]) rfl (rfl) (za rfl (qn (cs := #[.int .i64 0, .int .i64 0, .int .i64 0, .int .i64 0, .int .i64 0, .int .i64 0, .slice none 0 0]) Tryd.underlying34 oe zr40 (by decide) rfl (fill1x7 (.int .i64 0) (.int .i64 0) (.int .i64 0) (.int .i64 0) (.int .i64 0) (.int .i64 0) (.slice none 0 0)) ?_))))))))))))))
  rintro gx wI Bx E17 Gx;have O17 := qg O16 E17 (fun _ _ h => h.elim);have EZ6 := EZ5.step E17 (fun _ h => h.elim);have hs17 := EZ6.size;have hE17 := hE16.step E17 (fun _ h => h.elim);have hPs : wP.heap.size ≤ wI.heap.size := by have := hE6.size; omega
  refine za rfl (zhv (xs' := ju (q.is ++ [(nopI, none, 0)])) Tryd.underlying34 inf40 rfl (by decide) rfl O17 rfl (zuk Bx Bx.lt rfl) (by simp [Value.oneCell']) rfl (by rw [← insCs_add]; rfl) (by unfold maxLen; omega) (by omega) hPs ?_);rintro A5 c5 wJ O18 E18 N18;have EZ7 : Ext (Mut [some gi]) wE wJ := EZ6.step E18 (fun b hb => Or.inl hb)
  have hE18 := hE17.step E18 (fun b hb => Or.inl (hgz b hb));have hR8 : wJ.ownsRow wP.heap.size 37 10 (.slice (some ⟨gr, 0, none⟩) xs.length c4) xs.length (fsV xs) := by
   have h := qw hO8.row hI8 (by decide) EZ7;rwa [hA4] at h
  refine za rfl (zg rfl (za rfl (zb Tryd.underlying37 rfl og (by decide) rfl (yu (ow_storeOS (o := 0 + r0 * 10 + 8) (xs' := fsV (xs.set r0 (f.withIns (f.ins ++ [nopI]), q.withIs A5 c5 (q.is ++ [(nopI, none, 0)])))) og rfl rfl hR8 (by omega) rfl rfl (by rw [Nat.zero_add]; exact fsV_head hfq (by rw [List.length_append, hql2]; rfl)) ?_)))));rintro wK O19 E19
  have hE19 := hE18.step E19 (fun b hb => Or.inl (show lo ≤ b by have := kq hb; omega));have hS3 := hO8.addI hfq (x := nopI) rfl (insI_of i64_0 i64_0 i64_0) (by omega) hA4 O18 (by rw [hZi]; exact EZ7) (fun k hk => by
   rcases N18 k hk with h | h
   · exact Or.inl (by rw [hZi]; exact h)
   · exact Or.inr (by omega)) (by rw [hA4]; exact O19) E19
  have B10k := ((B10j.ext E17 (fun h => h.elim)).ext E18 (fun hm => hne10 (kq hm))).ext E19 (fun hm => hneR10 (kq hm).symm)
  refine rnx (srx (za rfl (vh Tryd.underlying24 rfl sz24 rfl B10k rfl (za rfl (ya en6 rfl ((check_at _ A4 xs.length _ c4 _ hS3.fsA (by rw [List.length_map, List.length_set]) (hTz _ hE19) ⟨te, pe, hEz _ hE19⟩ (r := (((r0 : Nat) : Int), ((f.ins.length : Nat) : Int), 3)) (by rw [hlen8]; exact spoil_add hlr hform hff)).mono ?_))))));rintro e w9 ⟨rfl, hb⟩;refine ⟨_, rfl, ?_⟩
  have E20 := Ext.of_below hb No;have hE20 := hE19.step E20 (fun _ h => h.elim);obtain ⟨g9, hA9, _, _, hc9⟩ := (hS3.no E20).cell (List.getElem?_set_self hr0');have hg9 : g9 = gr := by rw [hA4] at hA9; injection hA9 with h; injection h with h; exact h.symm
  rw [hg9] at hc9
  refine mvx rfl (za rfl (zz rfl rfl (za rfl (zz rfl rfl (za rfl (zz rfl rfl (avx rfl (avx rfl (anx rfl (srx (mvx rfl (za rfl (ye rfl rfl (mvx rfl (onx rfl (zn rfl (onx rfl (zn rfl (onx rfl (ye rfl rfl (yc 143 (.bool true) rfl (by simp : (.bool (((r0 : Nat) : Int) == ((r0 : Nat) : Int)) : Value) = _) (za rfl (zw rfl rfl (mvx rfl (onx rfl (zn rfl (onx rfl (zn rfl (onx rfl (zg rfl (onx rfl (zb Tryd.underlying37 rfl og (by decide) rfl ?_))))))))))))))))))))))))))))))))
  have hlen9 : (f.ins ++ [nopI]).length = f.ins.length + 1 := by rw [List.length_append]; rfl
  refine onx rfl (yi Tryd.underlying34 rfl rfl (hc9 8 (.slice A5 (f.ins ++ [nopI]).length c5) rfl) (onx rfl (vj Tryd.underlying34 rfl (onx rfl (yx rfl rfl (zo (by omega)) (onx rfl (ye rfl rfl (za rfl (zw rfl rfl (anx rfl (zr ?_)))))))))))
  have hlast : ((f.ins.length : Nat) : Int) = (((f.ins ++ [nopI]).length : Nat) : Int) - 1 := by rw [List.length_append]; simp
  refine zq (rs := [.tmp 6]) (vs := [_]) rfl ⟨rfl, trivial⟩ ?_;exact ⟨congrArg (fun b => Ending.returned (retV [Value.bool b])) (beq_iff_eq.2 hlast), hE20.below (fun q hq => by rw [← hlo]; exact hq)⟩
 ·
  refine zv 24 (.bool true) rfl ((by simp [hz] : (.bool ((kd fs).2.2 != 0) : Value) = _)) (ym rfl (srx (anx rfl (zr (zd (zq (rs := [.tmp 6]) (vs := [_]) rfl ⟨rfl, trivial⟩ ?_))))));exact ⟨rfl, hE3.below (fun q hq => by rw [← hlo]; exact hq)⟩
end Go.Proofs.YtmjbnhjgebjhlaaDoor
