/- Texts of this claim. -/
import Derived.Test.YtmjemknimipnjaaGreatDoorMk19
import Derived.Lib.ItoaNum
import Derived.Lib.SmallJoins
namespace Go.Proofs.YtmjemknimipnjaaGreatDoor
open Go.RowKit
set_option maxRecDepth 100000
def shown (ds : List Nat) (k : Nat) : List Value := (List.range k).map fun j => .int .u8 (48 + nth ds (ds.length - 1 - j))
section
variable (i : Int) (A : Option Addr) (c : Nat) (w : World) (hi : i.natAbs < B18 ^ 30) (hx : Nums8 w A (tens i))
include hi hx
end
end Go.Proofs.YtmjemknimipnjaaGreatDoor
namespace Go.Proofs.YtmjemknimipnjaaGreatDoor
def padk (k l : Nat) : List UInt8 := List.replicate (k - Lib.nDigits l) 48 ++ Lib.decDigits l
def texted (i : Int) (k : Nat) : List UInt8 := (if i < 0 then [45] else []) ++ (if k = 0 then [] else Lib.decDigits (i.natAbs / B18 ^ ((limbs i).length - k)))
/-! ### the number that digits spell -/
theorem val_app (b : Nat) : ∀ (x y : List Nat), val b (x ++ y) = val b x + b ^ x.length * val b y
 | [], y => by simp [val]
 | a :: x, y => by
  rw [List.cons_append, val, val, val_app b x y, List.length_cons, Nat.pow_succ, Nat.mul_add, ← Nat.add_assoc, Nat.mul_comm (b ^ x.length) b, Nat.mul_assoc]
theorem zpz (x y : List UInt8) : qa (x ++ y) = qa x * 10 ^ y.length + qa y := by
 unfold qa;rw [List.reverse_append, List.map_append, val_app, List.length_map, List.length_reverse, Nat.mul_comm, Nat.add_comm]
theorem num10_nil : qa [] = 0 := rfl
theorem num10_zero (r : List UInt8) : qa (48 :: r) = qa r := by
 rw [show (48 : UInt8) :: r = [48] ++ r from rfl, zpz, show qa [48] = 0 from rfl, Nat.zero_mul, Nat.zero_add]
theorem num10_lt {r : List UInt8} (h : r.all qp = true) : qa r < 10 ^ r.length := by
 have h1 := val_lt (b := 10) (l := r.reverse.map dv) (zzv (by rw [List.all_reverse]; exact h));simpa [qa] using h1
def gm : List UInt8 → List UInt8
 | [] => []
 | b :: r => if b = 48 then gm r else b :: r
theorem ot : ∀ r, qa (gm r) = qa r
 | [] => rfl
 | b :: r => by
  rw [gm]; split
  · rename_i h; rw [h, num10_zero, ot r]
  · rfl
theorem strip_drop : ∀ r : List UInt8, ∃ k, k ≤ r.length ∧ gm r = r.drop k ∧ ∀ j, j < k → r[j]? = some 48
 | [] => ⟨0, Nat.le_refl _, rfl, fun j h => by omega⟩
 | b :: r => by
  by_cases h : b = 48
  · obtain ⟨k, h1, h2, h3⟩ := strip_drop r;refine ⟨k + 1, by simp; omega, by rw [gm, if_pos h, h2]; rfl, fun j hj => ?_⟩;cases j with
    | zero => rw [h]; rfl
    | succ j => simpa using h3 j (by omega)
  · exact ⟨0, Nat.zero_le _, by rw [gm, if_neg h]; rfl, fun j h => by omega⟩
theorem strip_head (r : List UInt8) : (gm r).head? ≠ some 48 := by
 induction r with
 | nil => simp [gm]
 | cons b r ih =>
  rw [gm]; split
  · exact ih
  · rename_i h; simpa using h
theorem zfx {r : List UInt8} (h : r.all qp = true) : (gm r).all qp = true := by
 obtain ⟨k, _, e, _⟩ := strip_drop r;rw [e, List.all_eq_true];intro x hx;exact List.all_eq_true.1 h x (List.mem_of_mem_drop hx)
theorem head_num {b : UInt8} {r : List UInt8} (h : (b :: r).all qp = true) (hb : b ≠ 48) : 10 ^ r.length ≤ qa (b :: r) := by
 rw [show b :: r = [b] ++ r from rfl, zpz];have h1 : qp b = true := by rw [List.all_cons, Bool.and_eq_true] at h; exact h.1
 have h2 : 1 ≤ qa [b] := by
  have h3 : qa [b] = dv b := by simp [qa, val]
  rw [h3];unfold qp at h1;simp at h1
  have h4 : b.toNat ≠ 48 := fun e => hb (UInt8.toNat_inj.1 e);unfold dv; omega
 calc 10 ^ r.length = 1 * 10 ^ r.length := (Nat.one_mul _).symm
  _ ≤ qa [b] * 10 ^ r.length := Nat.mul_le_mul_right _ h2
  _ ≤ _ := Nat.le_add_right _ _
theorem B18_len {n : Nat} (h : n = 18 * 30) : B18 ^ 30 = 10 ^ n := by rw [h, B18_pow]
theorem znv {r : List UInt8} (h : r.all qp = true) : (gm r).length ≤ 540 ↔ qa r < B18 ^ 30 := by
 obtain ⟨n, hn⟩ : ∃ n, n = 540 := ⟨_, rfl⟩;rw [← ot r, B18_len (n := n) hn, ← hn];have ha := zfx h;have hh := strip_head r;generalize gm r = s at ha hh
 constructor
 · intro h1;exact Nat.lt_of_lt_of_le (num10_lt ha) (Nat.pow_le_pow_right (by decide) h1)
 · intro h1;cases s with
   | nil => simp
   | cons b s =>
    have h2 := head_num ha (by simpa using hh);rcases Nat.lt_or_ge s.length n with h3 | h3
    · simp; omega
    · have := Nat.pow_le_pow_right (n := 10) (by decide) h3;exact absurd (Nat.lt_of_lt_of_le h1 (Nat.le_trans this h2)) (Nat.lt_irrefl _)
theorem zrx {s : List UInt8} (hs : s.all qp = true) {e k : Nat} {xs : List Nat} (hk : xs.length = k) (he : s.length = e + 18 * k) (hv : val B18 xs = qa (s.drop e)) :
 val B18 (xs ++ [qa ((s.take e).drop (e - 18))]) = qa (s.drop (e - 18)) := by
 have _ := hs;have e1 : s.drop (e - 18) = (s.take e).drop (e - 18) ++ s.drop e := by
  conv => lhs; rw [← List.take_append_drop e s]
  rw [List.drop_append_of_le_length (by rw [List.length_take]; omega)]
 rw [e1, zpz, val_app, hv, hk, List.length_drop, he, show e + 18 * k - e = 18 * k by omega, ← B18_pow];simp only [val]
 rw [Nat.mul_zero, Nat.add_zero, Nat.mul_comm (B18 ^ k), Nat.add_comm]
theorem gi {s : List UInt8} (hs : s.all qp = true) (e : Nat) : qa ((s.take e).drop (e - 18)) < B18 := by
 have h1 : ((s.take e).drop (e - 18)).all qp = true := by
  rw [List.all_eq_true]; intro x hx;exact List.all_eq_true.1 hs x (List.mem_of_mem_take (List.mem_of_mem_drop hx))
 have h2 := num10_lt h1;refine Nat.lt_of_lt_of_le h2 ?_;have h3 : ((s.take e).drop (e - 18)).length ≤ 18 := by rw [List.length_drop, List.length_take]; omega
 have h4 := Nat.pow_le_pow_right (n := 10) (by decide) h3;have h5 : (10 : Nat) ^ 18 = B18 := by decide
 omega
end Go.Proofs.YtmjemknimipnjaaGreatDoor
namespace Go.Proofs.YtmjemknimipnjaaGreatDoor
open Go.RowKit
set_option maxRecDepth 100000
def Tab (w : World) : Prop := ∀ b, Below w.heap.size w b → Lib.TabIs Tryz.prog b "internal/strconv.uint64pow10" .u64 Lib.pow10Tab
theorem Tab.below {w w' : World} (h : Tab w) (hb : Below w.heap.size w w') : Tab w' := fun b hb' => h b (hb.trans (hb'.mono hb.size))
theorem vr (l : List UInt8) : (⟨l.toArray⟩ : ByteArray).size = l.length := by simp [ByteArray.size]
theorem zuk (a : List UInt8) (l h : Nat) : (⟨a.toArray⟩ : ByteArray).extract l h = ⟨((a.take h).drop l).toArray⟩ := by
 apply ByteArray.ext
 rw [ByteArray.data_extract];apply Array.ext'
 simp [List.extract, List.drop_take]
section
variable (i : Int) (A : Option Addr) (c : Nat) (w : World) (hi : i.natAbs < B18 ^ 30) (hx : Nums w A (limbs i)) (ht : Tab w)
include hi hx ht
end
theorem num10_cons (b : UInt8) (r : List UInt8) : qa (b :: r) = dv b * 10 ^ r.length + qa r := by
 rw [show b :: r = [b] ++ r from rfl, zpz];congr 2
theorem uintM : ∀ (r : List UInt8) (acc : Nat), r.all qp = true → acc * 10 ^ r.length + qa r < B18 → Lib.parseUintM (2 ^ 64 - 1) acc r = .ok (acc * 10 ^ r.length + qa r)
 | [], acc, _, _ => by rw [Lib.parseUintM]; simp [num10_nil]
 | b :: r, acc, hd, hl => by
  rw [List.all_cons, Bool.and_eq_true] at hd;have h1 := hd.1;unfold qp at h1;simp at h1
  have e : acc * 10 ^ (b :: r).length + qa (b :: r) = (acc * 10 + dv b) * 10 ^ r.length + qa r := by
   rw [num10_cons, List.length_cons, Nat.pow_succ, Nat.add_mul, Nat.mul_assoc, Nat.mul_comm 10, Nat.add_assoc]
  rw [e] at hl ⊢;have h2 : acc * 10 + dv b ≤ (acc * 10 + dv b) * 10 ^ r.length := Nat.le_mul_of_pos_right _ (Nat.pow_pos (by decide));have h3 : acc * 10 + dv b < B18 := by omega
  unfold B18 at h3;have h4 : dv b = b.toNat - 48 := rfl;rw [Lib.parseUintM, if_pos h1, if_neg (by omega), if_neg (by rw [← h4]; omega), ← h4];exact uintM r _ hd.2 hl
theorem uintB {r : List UInt8} (h0 : r ≠ []) (hd : r.all qp = true) (hl : qa r < B18) : Lib.parseUintB 64 r = .ok (qa r) := by
 rw [Lib.parseUintB, if_neg h0, uintM r 0 hd (by rw [Nat.zero_mul, Nat.zero_add]; exact hl), Nat.zero_mul, Nat.zero_add]
theorem parseU (r : List UInt8) (w : World) (h0 : r ≠ []) (hd : r.all    qp = true) (hl :    qa r < B18) (hs : r.length ≤ 18) :
 Calls Tryz.prog 29 #[.string ⟨r.toArray⟩, .int .i64 10, .int .i64 64] w fun e w' => e = .returned (.tuple #[.int .u64 ((   qa r : Nat) : Int), .nilIface]) ∧ Below w.heap.size w w' :=
 (Tryz.strconv_ParseUint_10_at64_ok ⟨r.toArray⟩ (by rw [     vr]; omega) (   qa r) (uintB h0 hd hl) w).mono fun _ _ ⟨a, b⟩ =>
  ⟨a, by rcases b with rfl | rfl; exact Below.refl _ _; exact Joins.below_bytesWorld _ _ _ _ (Nat.le_refl _)⟩
theorem strip_cons {b : UInt8} {r : List UInt8} (h : b ≠ 48) : gm (b :: r) = b :: r := by rw [gm, if_neg h]
theorem strip_zero (r : List UInt8) : gm (48 :: r) = gm r := by rw [gm, if_pos rfl]
theorem ydk (l : List UInt8) (j : Nat) : (⟨l.toArray⟩ : ByteArray)[j]? = l[j]? := by rw [ba_get]
theorem all_get {p : UInt8 → Bool} {l : List UInt8} {k : Nat} {b : UInt8} (hb : l[k]? = some b) (h : (l.take k).all p = true) (hp : p b = true) : (l.take (k + 1)).all p = true := by
 rw [List.take_add_one, List.all_append, h, hb];simpa using hp
theorem ylq {l : List UInt8} {k : Nat} {b : UInt8} (hb : l[k]? = some b) (h : qp b = false) : l.all qp = false := by
 rw [Bool.eq_false_iff];intro ha;rw [List.all_eq_true.1 ha b (List.mem_of_getElem? hb)] at h;cases h
theorem ynx (l : List UInt8) : (⟨l.toArray⟩ : ByteArray).toList = l := by
 rw [ByteArray.toList_eq]
theorem zxv {u : List UInt8} {e : Nat} (h0 : 0 < e) (he : e ≤ u.length) : (u.take e).drop (e - 18) ≠ [] := by
 intro h;have := congrArg List.length h;rw [List.length_drop, List.length_take] at this;simp at this
 omega
theorem zov {u : List UInt8} (hs : u.all qp = true) (e : Nat) : ((u.take e).drop (e - 18)).all qp = true := by
 rw [List.all_eq_true]; intro x hx;exact List.all_eq_true.1 hs x (List.mem_of_mem_take (List.mem_of_mem_drop hx))
theorem zok (u : List UInt8) (e : Nat) : ((u.take e).drop (e - 18)).length ≤ 18 := by rw [List.length_drop, List.length_take]; omega
section
variable (bs r : List UInt8) (w : World)
theorem wparse_neg (hr : r ≠ []) (hbs : bs = 45 :: r) (hs : bs.length ≤ 140737488355328) : Calls Tryz.prog 24 #[.string ⟨bs.toArray⟩] w (kp w (vx true r) (vw r)) := by
 have hat0 : (⟨bs.toArray⟩ : ByteArray)[0]? = some 45 := by rw [ydk, hbs]; rfl
 have hbl : bs.length = r.length + 1 := by rw [hbs]; rfl
 have hpos : (0 : Int) < ((⟨bs.toArray⟩ : ByteArray).size : Int) := by rw [vr]; omega
 refine yn Tryz.func24 rfl Tryz.ntmps24 rfl ?_;have HF : Per (No) w (fun _ => True) := Per.true_;have LW := erx (No) w;have XLW := grx (No) w;have E := erx (No) w;refine srx (za rfl (qo zr61 ?_));intro gb1 w2 Bb1 Eb1 Gb1;have Gb1 : _ ≤ gb1 := Nat.le_trans E.size Gb1;have GLb1 := Nat.le_trans LW.size Gb1;replace E := E.trans Eb1.no;replace HF := HF.cons (yb Gb1)
 replace E := E.cons (some gb1);replace XLW := Mut.grow XLW (fun k e => Or.inr (Nat.le_trans LW.size ((yb Gb1) k e)))
 refine anx rfl (srx (mvx rfl (za rfl (yz Tryz.underlying9 rfl (za rfl (qe rfl rfl (mvx rfl (yi 13 (.bool true) rfl (by rw [decide_eq_true hpos]) (onx rfl (zv rfl (onx rfl (vj (j := 0) Tryz.underlying9 rfl rfl rfl hat0 (onx rfl (zz rfl rfl (za rfl (zq rfl rfl (anx rfl (zi (srx (mvx rfl (rnx (yg rfl (zg (mvx rfl (za rfl (ve (l := 1) (h := bs.length) Tryz.underlying9 rfl ⟨_, rfl⟩ (vr bs).symm (by omega) (by rw [vr]; omega) (yi 20 (.string ⟨r.toArray⟩) rfl ((by rw [zuk, List.take_length, hbs]; rfl : (.string ((⟨bs.toArray⟩ : ByteArray).extract 1 bs.length) : Value) = _)) (anx rfl (zi (srx (mvx rfl (za rfl (kz rfl rfl (rnx (zp 4 (.bool true) rfl ((by rfl : (.bool true : Value) = _)) ?_)))))))))))))))))))))))))))))))))))
 have hne0 : (⟨r.toArray⟩ : ByteArray).toList ≠ (⟨#[]⟩ : ByteArray).toList := by rw [ynx, show (⟨#[]⟩ : ByteArray).toList = [] from ynx []]; exact hr
 refine zp 22 (.bool false) rfl (by rw [beq_eq_false_iff_ne.2 hne0]) (ye rfl (zn (ze (zi (srx (mvx rfl (za rfl (yz Tryz.underlying9 rfl (mvx rfl (rnx (yc (zp 25 (.int .i64 ((r.length : Nat) : Int)) rfl (by rw [vr]) (zp 26 (.int .i64 ((0 : Nat) : Int)) rfl ((by rfl : (.int .i64 0 : Value) = _)) ?_)))))))))))));replace HF := HF.on E
 replace LW := LW.step E XLW;replace E := erx (Mut [(some gb1)]) w2
 refine qm (ι := Nat) (fun k => [(0, .string ⟨r.toArray⟩), (2, .pointer (some ⟨gb1, 0, none⟩)), (3, .int .i64 0), (4, .bool true), (25, .int .i64 ((r.length : Nat) : Int)), (26, .int .i64 (k : Int))]) (fun k w' => Ext (Mut [(some gb1)]) w2 w' ∧ Blk w' gb1 61 (#[.bool false, .slice none 0 0]) ∧ (k ≤ r.length ∧ (r.take k).all qp = true)) (fun k => r.length - k) 0 ⟨rfl, rfl, rfl, rfl, rfl, rfl, trivial⟩ ⟨Ext.refl _ _, (by exact Bb1), ⟨Nat.zero_le _, rfl⟩⟩ ?_
 have LTb1 := (yo Bb1.lt);rintro k w4 ⟨M3, Bb1, ⟨hk, hall⟩⟩;have XM3 : Gro (Mut [(some gb1)]) (Mut [(some gb1)]) w2 := (Mut.grow Mut.none_ (fun k e => Or.inl (Mut.head k e)));replace E := E.trans M3;replace HF := HF.on E;replace LW := LW.step E XLW;replace E := erx (Mut [(some gb1)]) w4;clear LTb1
 refine srx (za rfl (yv rfl rfl (rnx (zi (zt rfl (fun q => ?_) (fun q => ?_))))))
 ·
  have q := of_decide_eq_true q;have hk1 : k < r.length := by omega
  obtain ⟨b, hb9⟩ : ∃ b, r[k]? = some b := ⟨_, List.getElem?_eq_getElem hk1⟩;have hat : (⟨r.toArray⟩ : ByteArray)[k]? = some b := by rw [ydk]; exact hb9
  refine zn (ze (zi (yc (srx (mvx rfl (anx rfl (srx (mvx rfl (mvx rfl (za rfl (vj (j := k) Tryz.underlying9 rfl rfl rfl hat (za rfl (yv rfl rfl (mvx rfl (yk 33 rfl (fun h => ?_) (fun h => ?_))))))))))))))))
  ·
   have h := of_decide_eq_true h;obtain ⟨e1, e2⟩ := oc (neg := true) (ylq hb9 (by unfold qp; simp; omega))
   refine za rfl (zc rfl (za rfl (zc rfl (za rfl (zc rfl (za rfl (zc rfl (za rfl (zq rfl rfl (rnx (yg rfl (srx (za rfl (qt (cs := #[.bool false, .slice none 0 0]) pl61 zr61 rfl rfl (ya (zr xq rfl rfl Bb1 rfl rfl (Nat.le_of_ble_eq_true rfl) ?_))))))))))))))));intro w5 Bx Eb1;replace Bb1 := Bx;replace E := E.step1 Eb1 Mut.head
   refine anx rfl (zo (zj (zd (zd (zj (zd (zm (rs := [.cell 2 61, .tmp 3]) (vs := [_, _]) rfl ⟨⟨_, rfl, yy Tryz.underlying61 rfl xq Bb1 rfl⟩, rfl, trivial⟩ ?_)))))));exact by rw [e1, e2]; exact jk (LW.step E XLW).toBelow
  ·
   have h := of_decide_eq_false h;refine onx rfl (zv rfl (onx rfl (zv rfl (onx rfl (vj (j := k) Tryz.underlying9 rfl rfl rfl hat (onx rfl (qe rfl rfl (za rfl (zx rfl rfl (rnx (zt rfl (fun h2 => ?_) (fun h2 => ?_))))))))))))
   ·
    have h2 := of_decide_eq_true h2;obtain ⟨e1, e2⟩ := oc (neg := true) (ylq hb9 (by unfold qp; simp; omega));refine srx (za rfl (qt (cs := #[.bool false, .slice none 0 0]) pl61 zr61 rfl rfl (ya (zr xq rfl rfl Bb1 rfl rfl (Nat.le_of_ble_eq_true rfl) ?_))));intro w6 Bx Eb1;replace Bb1 := Bx;replace E := E.step1 Eb1 Mut.head
    refine anx rfl (zo (zj (zd (zd (zj (zd (zm (rs := [.cell 2 61, .tmp 3]) (vs := [_, _]) rfl ⟨⟨_, rfl, yy Tryz.underlying61 rfl xq Bb1 rfl⟩, rfl, trivial⟩ ?_)))))));exact by rw [e1, e2]; exact jk (LW.step E XLW).toBelow
   ·
    have h2 := of_decide_eq_false h2;have hdig : qp b = true := dig_of (by omega) (by omega);refine zn (zf (ze (zg (za rfl (yp rfl rfl (zw (by omega)) (mvx rfl (yd (yt 26 (.int .i64 ((k + 1 : Nat) : Int)) rfl ((by rfl : (.int .i64 ((k : Int) + 1) : Value) = _)) ?_))))))))
    exact yr (k + 1) (by show r.length - (k + 1) < r.length - k; omega) ⟨rfl, rfl, rfl, rfl, rfl, rfl, trivial⟩ ⟨M3.step E XM3, (by exact Bb1), by omega, all_get hb9 hall hdig⟩
 ·
  have q := of_decide_eq_false q;obtain rfl : k = r.length := by omega
  rw [List.take_length] at hall;refine yw (zl (zl (zy (ze (zi (yc ?_))))));replace HF := HF.on E;replace LW := LW.step E XLW;replace M3 := M3.step E XM3;replace E := erx (Mut [(some gb1)]) w4
  refine qm (ι := List UInt8) (fun u => [(0, .string ⟨u.toArray⟩), (2, .pointer (some ⟨gb1, 0, none⟩)), (3, .int .i64 0), (4, .bool true)]) (fun u w' => Ext (Mut [(some gb1)]) w4 w' ∧ Blk w' gb1 61 (#[.bool false, .slice none 0 0]) ∧ (gm u = gm r ∧ u.length ≤ r.length)) (fun u => u.length) r ⟨rfl, rfl, rfl, rfl, trivial⟩ ⟨Ext.refl _ _, (by exact Bb1), ⟨rfl, Nat.le_refl _⟩⟩ ?_
  have LTb1 := (yo Bb1.lt);rintro u w8 ⟨M7, Bb1, ⟨hu1, hu2⟩⟩;have XM7 : Gro (Mut [(some gb1)]) (Mut [(some gb1)]) w4 := (Mut.grow Mut.none_ (fun k e => Or.inl (Mut.head k e)));replace E := E.trans M7;replace HF := HF.on E;replace LW := LW.step E XLW;replace M3 := M3.step E XM3;replace E := erx (Mut [(some gb1)]) w8;clear LTb1
  refine zi (srx (mvx rfl (za rfl (yz Tryz.underlying9 rfl (za rfl (qe rfl rfl (mvx rfl (yi 44 (.bool (decide ((0 : Int) < ((u.length : Nat) : Int)))) rfl (by rw [vr]) (yk 44 rfl (fun h => ?_) (fun h => ?_))))))))))
  ·
   have h := of_decide_eq_true h;obtain ⟨b, u2, hbu⟩ : ∃ b u2, u = b :: u2 := by cases u with | nil => simp at h | cons b u2 => exact ⟨b, u2, rfl⟩
   have hat : (⟨u.toArray⟩ : ByteArray)[0]? = some b := by rw [ydk, hbu]; rfl
   refine onx rfl (zv rfl (onx rfl (vj (j := 0) Tryz.underlying9 rfl rfl rfl hat (onx rfl (zz rfl rfl (za rfl (zq rfl rfl (rnx (zt rfl (fun h2 => ?_) (fun h2 => ?_))))))))))
   ·
    have h2 : b = 48 := UInt8.toNat_inj.1 (by have h7 := of_decide_eq_true h2; have h8 : (48 : UInt8).toNat = 48 := rfl; omega);have hul : u.length = u2.length + 1 := by rw [hbu]; rfl
    refine zn (ze (yc (zg (mvx rfl (za rfl (ve (l := 1) (h := u.length) Tryz.underlying9 rfl ⟨_, rfl⟩ (vr u).symm (by omega) (by rw [vr]; omega) (yi 50 (.string ⟨u2.toArray⟩) rfl ((by rw [zuk, List.take_length, hbu]; rfl : (.string ((⟨u.toArray⟩ : ByteArray).extract 1 u.length) : Value) = _)) (avx rfl (yd (zf ?_))))))))))
    exact yr u2 (by show u2.length < u.length; omega) ⟨rfl, rfl, rfl, rfl, trivial⟩ ⟨M7.step E XM7, (by exact Bb1), by rw [← hu1, hbu, h2, strip_zero], by omega⟩
   ·
    have h2 : b ≠ 48 := fun e => by rw [e] at h2; exact absurd h2 (by decide)
    refine yw (zl (zl (zy (ze (zi (srx (mvx rfl (za rfl (yz Tryz.underlying9 rfl (za rfl (qe rfl rfl (rnx ?_))))))))))));have hstr : gm r = u := by rw [← hu1]; exact by rw [hbu, strip_cons h2]
    have hal9 := zfx hall;rw [hstr] at hal9;have hln9 := znv hall;rw [hstr] at hln9;have hnum : qa u = qa r := by rw [← hstr, ot]
    refine zp 53 (.bool (decide ((540 : Int) < ((u.length : Nat) : Int)))) rfl (by rw [vr]) (zt rfl (fun h3 => ?_) (fun h3 => ?_))
    ·
     have h3 := of_decide_eq_true h3;have e1 : vw r = 2 := by unfold vw; rw [if_pos ⟨hr, hall⟩, if_neg (by omega)]
     have e2 : vx true r = 0 := by unfold vx; rw [if_neg (by rintro ⟨_, _, h⟩; omega)]
     refine srx (za rfl (qt (cs := #[.bool false, .slice none 0 0]) pl61 zr61 rfl rfl (ya (zr xq rfl rfl Bb1 rfl rfl (Nat.le_of_ble_eq_true rfl) ?_))));intro w9 Bx Eb1;replace Bb1 := Bx;replace E := E.step1 Eb1 Mut.head
     refine anx rfl (zo (zd (zm (rs := [.cell 2 61, .tmp 3]) (vs := [_, _]) rfl ⟨⟨_, rfl, yy Tryz.underlying61 rfl xq Bb1 rfl⟩, rfl, trivial⟩ ?_)));exact by rw [e1, e2]; exact jk (LW.step E XLW).toBelow
    ·
     have h3 := of_decide_eq_false h3;have e1 : vw r = 0 := by unfold vw; rw [if_pos ⟨hr, hall⟩, if_pos (by omega)]
     have e2 : vx true r = sgn true (qa r) := by unfold vx; rw [if_pos ⟨hr, hall, by omega⟩]
     refine zn (ze (srx (anx rfl (zi (srx (mvx rfl (za rfl (yz Tryz.underlying9 rfl (anx rfl (yc ?_))))))))));have Ol : World.ownsRow w8 w.heap.size 64 1 (.slice none 0 0) 0 ([]) := oy;have Dl_b1 : Apart ((Value.slice none 0 0).ownBlock) (some gb1) := fun _ e => by cases e
     have Db1_l := Dl_b1.symm;replace HF := HF.cons (jp);replace E := E.cons ((Value.slice none 0 0).ownBlock);replace XLW := Mut.grow XLW (fun k e => Or.inr (Nat.le_trans LW.size ((jp) k e)));replace XM3 := Mut.grow XM3 (fun k e => Or.inr (Nat.le_trans M3.size ((jp) k e)));replace XM7 := Mut.grow XM7 (fun k e => Or.inr (Nat.le_trans M7.size ((jp) k e)))
     refine zp 7 (.int .i64 ((u.length : Int) - 18 * ((0 : Nat) : Int))) rfl (by rw [vr]; simp) ?_;replace HF := HF.on E;replace LW := LW.step E XLW;replace M3 := M3.step E XM3;replace M7 := M7.step E XM7;replace E := erx (Mut [((Value.slice none 0 0).ownBlock), (some gb1)]) w8
     refine qm (ι := Nat × List Nat × Option Addr × Nat) (fun (k, xs, A1, c1) => [(0, .string ⟨u.toArray⟩), (2, .pointer (some ⟨gb1, 0, none⟩)), (3, .int .i64 0), (4, .bool true), (6, .slice A1 k c1), (7, .int .i64 ((u.length : Int) - 18 * (k : Int)))]) (fun (k, xs, A1, c1) w' => Ext (Mut [((Value.slice none 0 0).ownBlock), (some gb1)]) w8 w' ∧ World.ownsRow w' w.heap.size 64 1 (.slice A1 k c1) k (xs.map fun x : Nat => Value.int .u64 (x : Int)) ∧ Blk w' gb1 61 (#[.bool false, .slice none 0 0]) ∧ (∀ q9, ((Value.slice A1 k c1).ownBlock) = some q9 → ((Value.slice none 0 0).ownBlock) = some q9 ∨ w8.heap.size ≤ q9) ∧ (xs.length = k ∧ small B18 xs ∧ val B18 xs = qa (u.drop (u.length - 18 * k)) ∧ 18 * k ≤ u.length + 17)) (fun (k, xs, A1, c1) => u.length + 18 - 18 * k) (0, [], none, 0) ⟨rfl, rfl, rfl, rfl, rfl, rfl, trivial⟩ ⟨Ext.refl _ _, (by exact Ol), (by exact Bb1), (fun _ e => Or.inl e), ⟨rfl, zfz, by rw [Nat.mul_zero, Nat.sub_zero, List.drop_length]; rfl, by omega⟩⟩ ?_
     have LTl := (gk Ol);have LTb1 := (yo Bb1.lt);clear Ol;rintro ⟨k, xs, A1, c1⟩ w11 ⟨M10, Ol, Bb1, KlM10, ⟨hk, hsm, hval, hkl⟩⟩;replace Dl_b1 : Apart ((Value.slice A1 k c1).ownBlock) (some gb1) := Dl_b1.turn KlM10 LTb1;replace Db1_l := Dl_b1.symm
     have XM10 : Gro (Mut [((Value.slice A1 k c1).ownBlock), (some gb1)]) (Mut [((Value.slice none 0 0).ownBlock), (some gb1)]) w8 := (Mut.grow (Mut.grow Mut.none_ (fun k e => Or.inl ((Mut.tail Mut.head) k e))) (fun k e => (KlM10 k e).elim (fun e => Or.inl (Mut.head k e)) Or.inr));replace E := E.trans M10;replace HF := HF.turn E XM10;have ZLW := LW.size
     have XT := fun q9 (h : (Mut [((Value.slice A1 k c1).ownBlock), (some gb1)]) q9) => (XM10 q9 h).elim (XLW q9) (fun h => Or.inr (Nat.le_trans LW.size h));replace LW := LW.step E XLW;replace XLW := XT;have ZM3 := M3.size;have XT := fun q9 (h : (Mut [((Value.slice A1 k c1).ownBlock), (some gb1)]) q9) => (XM10 q9 h).elim (XM3 q9) (fun h => Or.inr (Nat.le_trans M3.size h))
     replace M3 := M3.step E XM3;replace XM3 := XT;have ZM7 := M7.size;have XT := fun q9 (h : (Mut [((Value.slice A1 k c1).ownBlock), (some gb1)]) q9) => (XM10 q9 h).elim (XM7 q9) (fun h => Or.inr (Nat.le_trans M7.size h));replace M7 := M7.step E XM7;replace XM7 := XT;clear ZLW;clear ZM3;clear ZM7;replace E := erx (Mut [((Value.slice A1 k c1).ownBlock), (some gb1)]) w11;clear LTl;clear LTb1
     refine zi (srx (mvx rfl (za rfl (qe rfl rfl (rnx (zt rfl (fun q => ?_) (fun q => ?_)))))))
     ·
      have q := of_decide_eq_true q;obtain ⟨e, he⟩ : ∃ e : Nat, e = u.length - 18 * k := ⟨_, rfl⟩;have he0 : 0 < e := by omega
      have hel : e ≤ u.length := by omega
      refine zn (ze (zi (yc (srx (mvx rfl (mvx rfl (za rfl (qc rfl rfl (zw (by omega)) (za rfl (ow_max rfl rfl (yi 65 (.int .i64 ((e - 18 : Nat) : Int)) rfl ((by congr 1; split <;> omega : (.int .i64 (if (u.length : Int) - 18 * (k : Int) - 18 > 0 then (u.length : Int) - 18 * (k : Int) - 18 else 0) : Value) = _)) (mvx rfl (yi 66 (.int .i64 ((e : Nat) : Int)) rfl ((by rw [show (u.length : Int) - 18 * (k : Int) = ((e : Nat) : Int) by omega] : (.int .i64 ((u.length : Int) - 18 * (k : Int)) : Value) = _)) (za rfl (ve (l := e - 18) (h := e) Tryz.underlying9 rfl ⟨_, rfl⟩ ⟨_, rfl⟩ (Nat.sub_le _ _) (by rw [vr]; exact hel) (yi 67 (.string ⟨((u.take e).drop (e - 18)).toArray⟩) rfl ((by rw [zuk] : (.string ((⟨u.toArray⟩ : ByteArray).extract (e - 18) e) : Value) = _)) (za rfl (yh en29 rfl ((parseU _ _ (zxv he0 hel) (zov hal9 e) (gi hal9 e) (zok u e)).mono ?_)))))))))))))))))))
      rintro e w12 ⟨rfl, hb⟩;refine ⟨_, rfl, ?_⟩;have Ec := Ext.of_below hb No;replace Ol := vi Ol Ec NotIn.nil;replace Bb1 := Bb1.extN Ec NotIn.nil;replace E := E.trans Ec.no
      refine mvx rfl (za rfl (yj rfl rfl (za rfl (yj rfl rfl (avx rfl (anx rfl (zg (mvx rfl (mvx rfl (za rfl (vb (cs := #[.int .u64 ((qa ((u.take e).drop (e - 18)) : Nat) : Int)]) Tryz.underlying59 sz64 zr64 (by decide) rfl (by rw [vz]; rfl) ?_)))))))))));intro gb13 w14 Bb13 Eb13 Gb13
      have Db13_l : Apart (some gb13) ((Value.slice A1 k c1).ownBlock) := Apart.of_lt (gk Ol) Gb13;have Dl_b13 := Db13_l.symm;have Db13_b1 : Apart (some gb13) (some gb1) := Apart.of_lt (yo Bb1.lt) Gb13;have Db1_b13 := Db13_b1.symm;have Gb13 : _ ≤ gb13 := Nat.le_trans E.size Gb13;have GLb13 := Nat.le_trans LW.size Gb13;replace Ol := vi Ol Eb13 NotIn.nil
      replace Bb1 := Bb1.extN Eb13 NotIn.nil;replace E := E.trans Eb13.no;replace HF := HF.cons (yb Gb13);replace E := E.cons (some gb13);replace XLW := Mut.grow XLW (fun k e => Or.inr (Nat.le_trans LW.size ((yb Gb13) k e)));replace XM3 := Mut.grow XM3 (fun k e => Or.inr (Nat.le_trans M3.size ((yb Gb13) k e)))
      replace XM7 := Mut.grow XM7 (fun k e => Or.inr (Nat.le_trans M7.size ((yb Gb13) k e)));replace XM10 := Mut.grow XM10 (fun k e => Or.inr (Nat.le_trans M10.size ((yb Gb13) k e)));replace HF := HF.on E;replace LW := LW.step E XLW;replace M3 := M3.step E XM3;replace M7 := M7.step E XM7;replace M10 := M10.step E XM10
      have SB : ∀ q9, Mut [((Value.slice A1 k c1).ownBlock), (some gb1)] q9 → Mut [(some gb13), ((Value.slice A1 k c1).ownBlock), (some gb1)] q9 := (Mut.skip (Mut.keep (Mut.keep Mut.nil_)));replace HF := HF.less SB;replace XLW := fun k h => XLW k (SB k h);replace XM3 := fun k h => XM3 k (SB k h);replace XM7 := fun k h => XM7 k (SB k h);replace XM10 := fun k h => XM10 k (SB k h);clear SB
      replace E := erx (Mut [((Value.slice A1 k c1).ownBlock), (some gb1)]) w14;replace HF := HF.and (Per.blkN Bb13 (NotIn.cons Db13_l (NotIn.cons Db13_b1 NotIn.nil)))
      refine za rfl (je (news := [.int .u64 ((qa ((u.take e).drop (e - 18)) : Nat) : Int)]) Tryz.underlying59 inf64 rfl (by decide) rfl Ol rfl (kl (HF.on E).here.2 ((HF.on E).here.2).lt rfl) (by simp [Value.oneCell']) (by unfold maxLen; omega) (by omega) (by exact Nat.le_trans LW.size E.size) ?_);intro v0 w15 On En KN;obtain ⟨A2, c2, rfl⟩ := vy On
      replace KN : ∀ q9, ((Value.slice A2 (k + 1) c2).ownBlock) = some q9 → ((Value.slice A1 k c1).ownBlock) = some q9 ∨ w14.heap.size ≤ q9 := KN;have LTb1 := (yo Bb1.lt);replace Bb1 := Bb1.extN En (NotIn.cons Db1_l NotIn.nil);replace Dl_b1 : Apart ((Value.slice A2 (k + 1) c2).ownBlock) (some gb1) := Dl_b1.turn KN LTb1;replace Db1_l := Dl_b1.symm;clear LTb1
      have HY : Gro (Mut [((Value.slice A2 (k + 1) c2).ownBlock), (some gb1)]) (Mut [((Value.slice A1 k c1).ownBlock), (some gb1)]) w14 := (Mut.grow (Mut.grow Mut.none_ (fun k e => Or.inl ((Mut.tail Mut.head) k e))) (fun k e => (KN k e).elim (fun e => Or.inl (Mut.head k e)) (fun h => Or.inr (Nat.le_trans E.size h))))
      replace KlM10 : ∀ q9, ((Value.slice A2 (k + 1) c2).ownBlock) = some q9 → ((Value.slice none 0 0).ownBlock) = some q9 ∨ w8.heap.size ≤ q9 := fun k e => (KN k e).elim (KlM10 k) (fun h => Or.inr (Nat.le_trans M10.size (Nat.le_trans E.size h)));replace E := E.step1 En Mut.head
      have XT := fun q9 (h : (Mut [((Value.slice A2 (k + 1) c2).ownBlock), (some gb1)]) q9) => (HY q9 h).elim (XLW q9) (fun h => Or.inr (Nat.le_trans LW.size h));have XT := fun q9 (h : (Mut [((Value.slice A2 (k + 1) c2).ownBlock), (some gb1)]) q9) => (HY q9 h).elim (XM3 q9) (fun h => Or.inr (Nat.le_trans M3.size h))
      have XT := fun q9 (h : (Mut [((Value.slice A2 (k + 1) c2).ownBlock), (some gb1)]) q9) => (HY q9 h).elim (XM7 q9) (fun h => Or.inr (Nat.le_trans M7.size h));have XT := fun q9 (h : (Mut [((Value.slice A2 (k + 1) c2).ownBlock), (some gb1)]) q9) => (HY q9 h).elim (XM10 q9) (fun h => Or.inr (Nat.le_trans M10.size h));replace M10 := M10.step E XM10;replace XM10 := XT
      replace E := erx (Mut [((Value.slice A2 (k + 1) c2).ownBlock), (some gb1)]) w15;clear HY;replace Ol : World.ownsRow w15 w.heap.size 64 1 (.slice A2 (k + 1) c2) (k + 1) ((xs ++ [qa ((u.take e).drop (e - 18))]).map fun x : Nat => Value.int .u64 (x : Int)) := by
       have e : ((xs.map fun x : Nat => Value.int .u64 (x : Int)) : List Value) ++ ([.int .u64 ((qa ((u.take e).drop (e - 18)) : Nat) : Int)] : List Value) = (xs ++ [qa ((u.take e).drop (e - 18))]).map fun x : Nat => Value.int .u64 (x : Int) := by simp
       rw [← e];exact On
      clear On KN En
      refine avx rfl (yd (zf (ze (zg (mvx rfl (za rfl (qc rfl rfl (zw (by omega)) (avx rfl (yd (yt 7 (.int .i64 ((u.length : Int) - 18 * ((k + 1 : Nat) : Int))) rfl ((by rw [show (u.length : Int) - 18 * (k : Int) - 18 = (u.length : Int) - 18 * ((k + 1 : Nat) : Int) by omega] : (.int .i64 (((u.length : Int) - 18 * (k : Int)) - 18) : Value) = _)) ?_))))))))))
      exact yr (k + 1, xs ++ [qa ((u.take e).drop (e - 18))], A2, c2) (by show u.length + 18 - 18 * (k + 1) < u.length + 18 - 18 * k; omega) ⟨rfl, rfl, rfl, rfl, rfl, rfl, trivial⟩ ⟨M10.step E XM10, (by exact Ol), (by exact Bb1), KlM10, by rw [List.length_append, hk]; rfl, zhk hsm (gi hal9 e), by rw [zrx hal9 hk (by omega : u.length = e + 18 * k) (by rw [hval, he]), show u.length - 18 * (k + 1) = e - 18 by omega], by omega⟩
     ·
      have q := of_decide_eq_false q;have hv9 : val B18 xs = qa r := by rw [hval, show u.length - 18 * k = 0 by omega, List.drop_zero, hnum]
      have Ol9 := Ol;have hown : Own w11 w.heap.size A1 c1 xs := ⟨by rw [hk]; exact Ol9, fun x hx => Nat.lt_trans (hsm x hx) (by decide)⟩;have hform : ∀ w', Nums w' A1 xs → Calls Tryz.prog 30 #[.bool true, .slice A1 k c1] w' (yfv w' (sgn true (qa r))) := fun w' h => by
       have h9 := zyk true A1 c1 xs w' h hsm (by omega);rwa [hk, hv9] at h9
      replace HF := HF.on E;replace LW := LW.step E XLW;have SB : ∀ q9, Mut [(some gb1)] q9 → Mut [((Value.slice A1 k c1).ownBlock), (some gb1)] q9 := (Mut.skip (Mut.keep Mut.nil_));replace HF := HF.less SB;replace XLW := fun k h => XLW k (SB k h);clear SB;replace E := erx (Mut [(some gb1)]) w11;replace HF := HF.and (Per.ownsN Ol (NotIn.cons Dl_b1 NotIn.nil));clear Ol;replace HF := HF.on E
      replace LW := LW.step E XLW;replace E := erx (Mut [(some gb1)]) w11;replace HF := HF.and (Per.ownN hown (NotIn.cons (xc hown Bb1 (by decide)) NotIn.nil));refine yw (zl (zl (zy (ze (srx (mvx rfl (mvx rfl (za rfl (yh en30 rfl ((hform _ ((HF.on E).here.2).nums).mono ?_))))))))));rintro e w16 ⟨A2, c2, rfl, o2, hb⟩;refine ⟨_, rfl, ?_⟩
      have SC := Nat.le_trans LW.size E.size;have Ec := Ext.of_below hb No;replace Bb1 := Bb1.extN Ec NotIn.nil;replace E := E.trans Ec.no;have S2 := SC;replace HF := HF.on E;replace LW := LW.step E XLW;replace E := erx (Mut [(some gb1)]) w16;replace HF := HF.and (Per.ownN o2 (NotIn.cons (xc o2 Bb1 (by decide)) NotIn.nil))
      refine ya (zr xq rfl rfl Bb1 rfl rfl (Nat.le_of_ble_eq_true rfl) ?_);intro w17 Bx Eb1;replace Bb1 := Bx;replace E := E.step1 Eb1 Mut.head;replace HF := HF.on E;replace LW := LW.step E XLW;have SB : ∀ q9, No q9 → Mut [(some gb1)] q9 := (Mut.skip Mut.nil_);replace HF := HF.less SB;replace XLW := fun k h => XLW k (SB k h);clear SB;replace E := erx (No) w17
      replace HF := HF.and (Per.blkN Bb1 NotIn.nil);refine anx rfl (zo (zm (rs := [.cell 2 61, .tmp 3]) (vs := [_, _]) rfl ⟨⟨_, rfl, yy Tryz.underlying61 rfl xq (HF.on E).here.2 rfl⟩, rfl, trivial⟩ ?_));exact by rw [e1, e2]; exact ⟨A2, c2, rfl, ((HF.on E).here.1.2).mono S2, (LW.step E XLW).toBelow⟩
  ·
   have h := of_decide_eq_false h;have hu0 : u = [] := by cases u with | nil => rfl | cons b u2 => simp at h
   refine za rfl (zc rfl (za rfl (zc rfl (za rfl (zc rfl (za rfl (zx rfl rfl (rnx (ye rfl (yw (zl (zl (zy (ze (zi (srx (mvx rfl (za rfl (yz Tryz.underlying9 rfl (za rfl (qe rfl rfl (rnx ?_))))))))))))))))))))));have hstr : gm r = u := by rw [← hu1]; exact by rw [hu0]; rfl
   have hal9 := zfx hall;rw [hstr] at hal9;have hln9 := znv hall;rw [hstr] at hln9;have hnum : qa u = qa r := by rw [← hstr, ot]
   refine zp 53 (.bool (decide ((540 : Int) < ((u.length : Nat) : Int)))) rfl (by rw [vr]) (zt rfl (fun h3 => ?_) (fun h3 => ?_))
   ·
    have h3 := of_decide_eq_true h3;have e1 : vw r = 2 := by unfold vw; rw [if_pos ⟨hr, hall⟩, if_neg (by omega)]
    have e2 : vx true r = 0 := by unfold vx; rw [if_neg (by rintro ⟨_, _, h⟩; omega)]
    refine srx (za rfl (qt (cs := #[.bool false, .slice none 0 0]) pl61 zr61 rfl rfl (ya (zr xq rfl rfl Bb1 rfl rfl (Nat.le_of_ble_eq_true rfl) ?_))));intro w18 Bx Eb1;replace Bb1 := Bx;replace E := E.step1 Eb1 Mut.head
    refine anx rfl (zo (zd (zm (rs := [.cell 2 61, .tmp 3]) (vs := [_, _]) rfl ⟨⟨_, rfl, yy Tryz.underlying61 rfl xq Bb1 rfl⟩, rfl, trivial⟩ ?_)));exact by rw [e1, e2]; exact jk (LW.step E XLW).toBelow
   ·
    have h3 := of_decide_eq_false h3;have e1 : vw r = 0 := by unfold vw; rw [if_pos ⟨hr, hall⟩, if_pos (by omega)]
    have e2 : vx true r = sgn true (qa r) := by unfold vx; rw [if_pos ⟨hr, hall, by omega⟩]
    refine zn (ze (srx (anx rfl (zi (srx (mvx rfl (za rfl (yz Tryz.underlying9 rfl (anx rfl (yc ?_))))))))));have Ol : World.ownsRow w8 w.heap.size 64 1 (.slice none 0 0) 0 ([]) := oy;have Dl_b1 : Apart ((Value.slice none 0 0).ownBlock) (some gb1) := fun _ e => by cases e
    have Db1_l := Dl_b1.symm;replace HF := HF.cons (jp);replace E := E.cons ((Value.slice none 0 0).ownBlock);replace XLW := Mut.grow XLW (fun k e => Or.inr (Nat.le_trans LW.size ((jp) k e)));replace XM3 := Mut.grow XM3 (fun k e => Or.inr (Nat.le_trans M3.size ((jp) k e)));replace XM7 := Mut.grow XM7 (fun k e => Or.inr (Nat.le_trans M7.size ((jp) k e)))
    refine zp 7 (.int .i64 ((u.length : Int) - 18 * ((0 : Nat) : Int))) rfl (by rw [vr]; simp) ?_;replace HF := HF.on E;replace LW := LW.step E XLW;replace M3 := M3.step E XM3;replace M7 := M7.step E XM7;replace E := erx (Mut [((Value.slice none 0 0).ownBlock), (some gb1)]) w8
    refine qm (ι := Nat × List Nat × Option Addr × Nat) (fun (k, xs, A1, c1) => [(0, .string ⟨u.toArray⟩), (2, .pointer (some ⟨gb1, 0, none⟩)), (3, .int .i64 0), (4, .bool true), (6, .slice A1 k c1), (7, .int .i64 ((u.length : Int) - 18 * (k : Int)))]) (fun (k, xs, A1, c1) w' => Ext (Mut [((Value.slice none 0 0).ownBlock), (some gb1)]) w8 w' ∧ World.ownsRow w' w.heap.size 64 1 (.slice A1 k c1) k (xs.map fun x : Nat => Value.int .u64 (x : Int)) ∧ Blk w' gb1 61 (#[.bool false, .slice none 0 0]) ∧ (∀ q9, ((Value.slice A1 k c1).ownBlock) = some q9 → ((Value.slice none 0 0).ownBlock) = some q9 ∨ w8.heap.size ≤ q9) ∧ (xs.length = k ∧ small B18 xs ∧ val B18 xs = qa (u.drop (u.length - 18 * k)) ∧ 18 * k ≤ u.length + 17)) (fun (k, xs, A1, c1) => u.length + 18 - 18 * k) (0, [], none, 0) ⟨rfl, rfl, rfl, rfl, rfl, rfl, trivial⟩ ⟨Ext.refl _ _, (by exact Ol), (by exact Bb1), (fun _ e => Or.inl e), ⟨rfl, zfz, by rw [Nat.mul_zero, Nat.sub_zero, List.drop_length]; rfl, by omega⟩⟩ ?_
    have LTl := (gk Ol);have LTb1 := (yo Bb1.lt);clear Ol;rintro ⟨k, xs, A1, c1⟩ w20 ⟨M19, Ol, Bb1, KlM19, ⟨hk, hsm, hval, hkl⟩⟩;replace Dl_b1 : Apart ((Value.slice A1 k c1).ownBlock) (some gb1) := Dl_b1.turn KlM19 LTb1;replace Db1_l := Dl_b1.symm
    have XM19 : Gro (Mut [((Value.slice A1 k c1).ownBlock), (some gb1)]) (Mut [((Value.slice none 0 0).ownBlock), (some gb1)]) w8 := (Mut.grow (Mut.grow Mut.none_ (fun k e => Or.inl ((Mut.tail Mut.head) k e))) (fun k e => (KlM19 k e).elim (fun e => Or.inl (Mut.head k e)) Or.inr));replace E := E.trans M19;replace HF := HF.turn E XM19;have ZLW := LW.size
    have XT := fun q9 (h : (Mut [((Value.slice A1 k c1).ownBlock), (some gb1)]) q9) => (XM19 q9 h).elim (XLW q9) (fun h => Or.inr (Nat.le_trans LW.size h));replace LW := LW.step E XLW;replace XLW := XT;have ZM3 := M3.size;have XT := fun q9 (h : (Mut [((Value.slice A1 k c1).ownBlock), (some gb1)]) q9) => (XM19 q9 h).elim (XM3 q9) (fun h => Or.inr (Nat.le_trans M3.size h))
    replace M3 := M3.step E XM3;replace XM3 := XT;have ZM7 := M7.size;have XT := fun q9 (h : (Mut [((Value.slice A1 k c1).ownBlock), (some gb1)]) q9) => (XM19 q9 h).elim (XM7 q9) (fun h => Or.inr (Nat.le_trans M7.size h));replace M7 := M7.step E XM7;replace XM7 := XT;clear ZLW;clear ZM3;clear ZM7;replace E := erx (Mut [((Value.slice A1 k c1).ownBlock), (some gb1)]) w20;clear LTl;clear LTb1
    refine zi (srx (mvx rfl (za rfl (qe rfl rfl (rnx (zt rfl (fun q => ?_) (fun q => ?_)))))))
    ·
     have q := of_decide_eq_true q;obtain ⟨e, he⟩ : ∃ e : Nat, e = u.length - 18 * k := ⟨_, rfl⟩;have he0 : 0 < e := by omega
     have hel : e ≤ u.length := by omega
     refine zn (ze (zi (yc (srx (mvx rfl (mvx rfl (za rfl (qc rfl rfl (zw (by omega)) (za rfl (ow_max rfl rfl (yi 65 (.int .i64 ((e - 18 : Nat) : Int)) rfl ((by congr 1; split <;> omega : (.int .i64 (if (u.length : Int) - 18 * (k : Int) - 18 > 0 then (u.length : Int) - 18 * (k : Int) - 18 else 0) : Value) = _)) (mvx rfl (yi 66 (.int .i64 ((e : Nat) : Int)) rfl ((by rw [show (u.length : Int) - 18 * (k : Int) = ((e : Nat) : Int) by omega] : (.int .i64 ((u.length : Int) - 18 * (k : Int)) : Value) = _)) (za rfl (ve (l := e - 18) (h := e) Tryz.underlying9 rfl ⟨_, rfl⟩ ⟨_, rfl⟩ (Nat.sub_le _ _) (by rw [vr]; exact hel) (yi 67 (.string ⟨((u.take e).drop (e - 18)).toArray⟩) rfl ((by rw [zuk] : (.string ((⟨u.toArray⟩ : ByteArray).extract (e - 18) e) : Value) = _)) (za rfl (yh en29 rfl ((parseU _ _ (zxv he0 hel) (zov hal9 e) (gi hal9 e) (zok u e)).mono ?_)))))))))))))))))))
     rintro e w21 ⟨rfl, hb⟩;refine ⟨_, rfl, ?_⟩;have Ec := Ext.of_below hb No;replace Ol := vi Ol Ec NotIn.nil;replace Bb1 := Bb1.extN Ec NotIn.nil;replace E := E.trans Ec.no
     refine mvx rfl (za rfl (yj rfl rfl (za rfl (yj rfl rfl (avx rfl (anx rfl (zg (mvx rfl (mvx rfl (za rfl (vb (cs := #[.int .u64 ((qa ((u.take e).drop (e - 18)) : Nat) : Int)]) Tryz.underlying59 sz64 zr64 (by decide) rfl (by rw [vz]; rfl) ?_)))))))))));intro gb22 w23 Bb22 Eb22 Gb22
     have Db22_l : Apart (some gb22) ((Value.slice A1 k c1).ownBlock) := Apart.of_lt (gk Ol) Gb22;have Dl_b22 := Db22_l.symm;have Db22_b1 : Apart (some gb22) (some gb1) := Apart.of_lt (yo Bb1.lt) Gb22;have Db1_b22 := Db22_b1.symm;have Gb22 : _ ≤ gb22 := Nat.le_trans E.size Gb22;have GLb22 := Nat.le_trans LW.size Gb22;replace Ol := vi Ol Eb22 NotIn.nil
     replace Bb1 := Bb1.extN Eb22 NotIn.nil;replace E := E.trans Eb22.no;replace HF := HF.cons (yb Gb22);replace E := E.cons (some gb22);replace XLW := Mut.grow XLW (fun k e => Or.inr (Nat.le_trans LW.size ((yb Gb22) k e)));replace XM3 := Mut.grow XM3 (fun k e => Or.inr (Nat.le_trans M3.size ((yb Gb22) k e)))
     replace XM7 := Mut.grow XM7 (fun k e => Or.inr (Nat.le_trans M7.size ((yb Gb22) k e)));replace XM19 := Mut.grow XM19 (fun k e => Or.inr (Nat.le_trans M19.size ((yb Gb22) k e)));replace HF := HF.on E;replace LW := LW.step E XLW;replace M3 := M3.step E XM3;replace M7 := M7.step E XM7;replace M19 := M19.step E XM19
     have SB : ∀ q9, Mut [((Value.slice A1 k c1).ownBlock), (some gb1)] q9 → Mut [(some gb22), ((Value.slice A1 k c1).ownBlock), (some gb1)] q9 := (Mut.skip (Mut.keep (Mut.keep Mut.nil_)));replace HF := HF.less SB;replace XLW := fun k h => XLW k (SB k h);replace XM3 := fun k h => XM3 k (SB k h);replace XM7 := fun k h => XM7 k (SB k h);replace XM19 := fun k h => XM19 k (SB k h);clear SB
     replace E := erx (Mut [((Value.slice A1 k c1).ownBlock), (some gb1)]) w23;replace HF := HF.and (Per.blkN Bb22 (NotIn.cons Db22_l (NotIn.cons Db22_b1 NotIn.nil)))
     refine za rfl (je (news := [.int .u64 ((qa ((u.take e).drop (e - 18)) : Nat) : Int)]) Tryz.underlying59 inf64 rfl (by decide) rfl Ol rfl (kl (HF.on E).here.2 ((HF.on E).here.2).lt rfl) (by simp [Value.oneCell']) (by unfold maxLen; omega) (by omega) (by exact Nat.le_trans LW.size E.size) ?_);intro v0 w24 On En KN;obtain ⟨A2, c2, rfl⟩ := vy On
     replace KN : ∀ q9, ((Value.slice A2 (k + 1) c2).ownBlock) = some q9 → ((Value.slice A1 k c1).ownBlock) = some q9 ∨ w23.heap.size ≤ q9 := KN;have LTb1 := (yo Bb1.lt);replace Bb1 := Bb1.extN En (NotIn.cons Db1_l NotIn.nil);replace Dl_b1 : Apart ((Value.slice A2 (k + 1) c2).ownBlock) (some gb1) := Dl_b1.turn KN LTb1;replace Db1_l := Dl_b1.symm;clear LTb1
     have HY : Gro (Mut [((Value.slice A2 (k + 1) c2).ownBlock), (some gb1)]) (Mut [((Value.slice A1 k c1).ownBlock), (some gb1)]) w23 := (Mut.grow (Mut.grow Mut.none_ (fun k e => Or.inl ((Mut.tail Mut.head) k e))) (fun k e => (KN k e).elim (fun e => Or.inl (Mut.head k e)) (fun h => Or.inr (Nat.le_trans E.size h))))
     replace KlM19 : ∀ q9, ((Value.slice A2 (k + 1) c2).ownBlock) = some q9 → ((Value.slice none 0 0).ownBlock) = some q9 ∨ w8.heap.size ≤ q9 := fun k e => (KN k e).elim (KlM19 k) (fun h => Or.inr (Nat.le_trans M19.size (Nat.le_trans E.size h)));replace E := E.step1 En Mut.head
     have XT := fun q9 (h : (Mut [((Value.slice A2 (k + 1) c2).ownBlock), (some gb1)]) q9) => (HY q9 h).elim (XLW q9) (fun h => Or.inr (Nat.le_trans LW.size h));have XT := fun q9 (h : (Mut [((Value.slice A2 (k + 1) c2).ownBlock), (some gb1)]) q9) => (HY q9 h).elim (XM3 q9) (fun h => Or.inr (Nat.le_trans M3.size h))
     have XT := fun q9 (h : (Mut [((Value.slice A2 (k + 1) c2).ownBlock), (some gb1)]) q9) => (HY q9 h).elim (XM7 q9) (fun h => Or.inr (Nat.le_trans M7.size h));have XT := fun q9 (h : (Mut [((Value.slice A2 (k + 1) c2).ownBlock), (some gb1)]) q9) => (HY q9 h).elim (XM19 q9) (fun h => Or.inr (Nat.le_trans M19.size h));replace M19 := M19.step E XM19;replace XM19 := XT
     replace E := erx (Mut [((Value.slice A2 (k + 1) c2).ownBlock), (some gb1)]) w24;clear HY;replace Ol : World.ownsRow w24 w.heap.size 64 1 (.slice A2 (k + 1) c2) (k + 1) ((xs ++ [qa ((u.take e).drop (e - 18))]).map fun x : Nat => Value.int .u64 (x : Int)) := by
      have e : ((xs.map fun x : Nat => Value.int .u64 (x : Int)) : List Value) ++ ([.int .u64 ((qa ((u.take e).drop (e - 18)) : Nat) : Int)] : List Value) = (xs ++ [qa ((u.take e).drop (e - 18))]).map fun x : Nat => Value.int .u64 (x : Int) := by simp
      rw [← e];exact On
     clear On KN En
     refine avx rfl (yd (zf (ze (zg (mvx rfl (za rfl (qc rfl rfl (zw (by omega)) (avx rfl (yd (yt 7 (.int .i64 ((u.length : Int) - 18 * ((k + 1 : Nat) : Int))) rfl ((by rw [show (u.length : Int) - 18 * (k : Int) - 18 = (u.length : Int) - 18 * ((k + 1 : Nat) : Int) by omega] : (.int .i64 (((u.length : Int) - 18 * (k : Int)) - 18) : Value) = _)) ?_))))))))))
     exact yr (k + 1, xs ++ [qa ((u.take e).drop (e - 18))], A2, c2) (by show u.length + 18 - 18 * (k + 1) < u.length + 18 - 18 * k; omega) ⟨rfl, rfl, rfl, rfl, rfl, rfl, trivial⟩ ⟨M19.step E XM19, (by exact Ol), (by exact Bb1), KlM19, by rw [List.length_append, hk]; rfl, zhk hsm (gi hal9 e), by rw [zrx hal9 hk (by omega : u.length = e + 18 * k) (by rw [hval, he]), show u.length - 18 * (k + 1) = e - 18 by omega], by omega⟩
    ·
     have q := of_decide_eq_false q;have hv9 : val B18 xs = qa r := by rw [hval, show u.length - 18 * k = 0 by omega, List.drop_zero, hnum]
     have Ol9 := Ol;have hown : Own w20 w.heap.size A1 c1 xs := ⟨by rw [hk]; exact Ol9, fun x hx => Nat.lt_trans (hsm x hx) (by decide)⟩;have hform : ∀ w', Nums w' A1 xs → Calls Tryz.prog 30 #[.bool true, .slice A1 k c1] w' (yfv w' (sgn true (qa r))) := fun w' h => by
      have h9 := zyk true A1 c1 xs w' h hsm (by omega);rwa [hk, hv9] at h9
     replace HF := HF.on E;replace LW := LW.step E XLW;have SB : ∀ q9, Mut [(some gb1)] q9 → Mut [((Value.slice A1 k c1).ownBlock), (some gb1)] q9 := (Mut.skip (Mut.keep Mut.nil_));replace HF := HF.less SB;replace XLW := fun k h => XLW k (SB k h);clear SB;replace E := erx (Mut [(some gb1)]) w20;replace HF := HF.and (Per.ownsN Ol (NotIn.cons Dl_b1 NotIn.nil));clear Ol;replace HF := HF.on E
     replace LW := LW.step E XLW;replace E := erx (Mut [(some gb1)]) w20;replace HF := HF.and (Per.ownN hown (NotIn.cons (xc hown Bb1 (by decide)) NotIn.nil));refine yw (zl (zl (zy (ze (srx (mvx rfl (mvx rfl (za rfl (yh en30 rfl ((hform _ ((HF.on E).here.2).nums).mono ?_))))))))));rintro e w25 ⟨A2, c2, rfl, o2, hb⟩;refine ⟨_, rfl, ?_⟩
     have SC := Nat.le_trans LW.size E.size;have Ec := Ext.of_below hb No;replace Bb1 := Bb1.extN Ec NotIn.nil;replace E := E.trans Ec.no;have S2 := SC;replace HF := HF.on E;replace LW := LW.step E XLW;replace E := erx (Mut [(some gb1)]) w25;replace HF := HF.and (Per.ownN o2 (NotIn.cons (xc o2 Bb1 (by decide)) NotIn.nil))
     refine ya (zr xq rfl rfl Bb1 rfl rfl (Nat.le_of_ble_eq_true rfl) ?_);intro w26 Bx Eb1;replace Bb1 := Bx;replace E := E.step1 Eb1 Mut.head;replace HF := HF.on E;replace LW := LW.step E XLW;have SB : ∀ q9, No q9 → Mut [(some gb1)] q9 := (Mut.skip Mut.nil_);replace HF := HF.less SB;replace XLW := fun k h => XLW k (SB k h);clear SB;replace E := erx (No) w26
     replace HF := HF.and (Per.blkN Bb1 NotIn.nil);refine anx rfl (zo (zm (rs := [.cell 2 61, .tmp 3]) (vs := [_, _]) rfl ⟨⟨_, rfl, yy Tryz.underlying61 rfl xq (HF.on E).here.2 rfl⟩, rfl, trivial⟩ ?_));exact by rw [e1, e2]; exact ⟨A2, c2, rfl, ((HF.on E).here.1.2).mono S2, (LW.step E XLW).toBelow⟩
theorem wparse_pos (hr : r ≠ []) (h45 : r.head? ≠ some 45) (hs : r.length ≤ 140737488355328) : Calls Tryz.prog 24 #[.string ⟨r.toArray⟩] w (kp w (vx false r) (vw r)) := by
 obtain ⟨b0, hb0⟩ : ∃ b, r.head? = some b := by cases r with | nil => exact absurd rfl hr | cons b _ => exact ⟨b, rfl⟩
 have hat0 : (⟨r.toArray⟩ : ByteArray)[0]? = some b0 := by rw [ydk]; cases r with | nil => cases hb0 | cons b _ => simpa using hb0
 have hne : b0.toNat ≠ 45 := fun e => h45 (by rw [hb0, show b0 = 45 from UInt8.toNat_inj.1 e]);have hpos : (0 : Int) < ((⟨r.toArray⟩ : ByteArray).size : Int) := by rw [vr]; have h2 := List.length_pos_iff.2 hr; omega
 refine yn Tryz.func24 rfl Tryz.ntmps24 rfl ?_;have HF : Per (No) w (fun _ => True) := Per.true_;have LW := erx (No) w;have XLW := grx (No) w;have E := erx (No) w;refine srx (za rfl (qo zr61 ?_));intro gb1 w2 Bb1 Eb1 Gb1;have Gb1 : _ ≤ gb1 := Nat.le_trans E.size Gb1;have GLb1 := Nat.le_trans LW.size Gb1;replace E := E.trans Eb1.no;replace HF := HF.cons (yb Gb1)
 replace E := E.cons (some gb1);replace XLW := Mut.grow XLW (fun k e => Or.inr (Nat.le_trans LW.size ((yb Gb1) k e)))
 refine anx rfl (srx (mvx rfl (za rfl (yz Tryz.underlying9 rfl (za rfl (qe rfl rfl (mvx rfl (yi 13 (.bool true) rfl (by rw [decide_eq_true hpos]) (onx rfl (zv rfl (onx rfl (vj (j := 0) Tryz.underlying9 rfl rfl rfl hat0 (onx rfl (zz rfl rfl (za rfl (zq rfl rfl (anx rfl (zi (srx (mvx rfl (rnx (zp 4 (.bool false) rfl ((by rw [beq_eq_false_iff_ne.2 (by omega)] : (.bool (((b0.toNat : Nat) : Int) == 45) : Value) = _)) (zp 18 (.bool false) rfl ((by rw [beq_eq_false_iff_ne.2 (by omega)] : (.bool (((b0.toNat : Nat) : Int) == 45) : Value) = _)) (ye rfl (zn (ze (zi (srx (mvx rfl (za rfl (kz rfl rfl (rnx ?_))))))))))))))))))))))))))))))))
 have hne0 : (⟨r.toArray⟩ : ByteArray).toList ≠ (⟨#[]⟩ : ByteArray).toList := by rw [ynx, show (⟨#[]⟩ : ByteArray).toList = [] from ynx []]; exact hr
 refine zp 22 (.bool false) rfl (by rw [beq_eq_false_iff_ne.2 hne0]) (ye rfl (zn (ze (zi (srx (mvx rfl (za rfl (yz Tryz.underlying9 rfl (mvx rfl (rnx (yc (zp 25 (.int .i64 ((r.length : Nat) : Int)) rfl (by rw [vr]) (zp 26 (.int .i64 ((0 : Nat) : Int)) rfl ((by rfl : (.int .i64 0 : Value) = _)) ?_)))))))))))));replace HF := HF.on E
 replace LW := LW.step E XLW;replace E := erx (Mut [(some gb1)]) w2
 refine qm (ι := Nat) (fun k => [(0, .string ⟨r.toArray⟩), (2, .pointer (some ⟨gb1, 0, none⟩)), (3, .int .i64 0), (4, .bool false), (25, .int .i64 ((r.length : Nat) : Int)), (26, .int .i64 (k : Int))]) (fun k w' => Ext (Mut [(some gb1)]) w2 w' ∧ Blk w' gb1 61 (#[.bool false, .slice none 0 0]) ∧ (k ≤ r.length ∧ (r.take k).all qp = true)) (fun k => r.length - k) 0 ⟨rfl, rfl, rfl, rfl, rfl, rfl, trivial⟩ ⟨Ext.refl _ _, (by exact Bb1), ⟨Nat.zero_le _, rfl⟩⟩ ?_
 have LTb1 := (yo Bb1.lt);rintro k w4 ⟨M3, Bb1, ⟨hk, hall⟩⟩;have XM3 : Gro (Mut [(some gb1)]) (Mut [(some gb1)]) w2 := (Mut.grow Mut.none_ (fun k e => Or.inl (Mut.head k e)));replace E := E.trans M3;replace HF := HF.on E;replace LW := LW.step E XLW;replace E := erx (Mut [(some gb1)]) w4;clear LTb1
 refine srx (za rfl (yv rfl rfl (rnx (zi (zt rfl (fun q => ?_) (fun q => ?_))))))
 ·
  have q := of_decide_eq_true q;have hk1 : k < r.length := by omega
  obtain ⟨b, hb9⟩ : ∃ b, r[k]? = some b := ⟨_, List.getElem?_eq_getElem hk1⟩;have hat : (⟨r.toArray⟩ : ByteArray)[k]? = some b := by rw [ydk]; exact hb9
  refine zn (ze (zi (yc (srx (mvx rfl (anx rfl (srx (mvx rfl (mvx rfl (za rfl (vj (j := k) Tryz.underlying9 rfl rfl rfl hat (za rfl (yv rfl rfl (mvx rfl (yk 33 rfl (fun h => ?_) (fun h => ?_))))))))))))))))
  ·
   have h := of_decide_eq_true h;obtain ⟨e1, e2⟩ := oc (neg := false) (ylq hb9 (by unfold qp; simp; omega))
   refine za rfl (zc rfl (za rfl (zc rfl (za rfl (zc rfl (za rfl (zc rfl (za rfl (zq rfl rfl (rnx (yg rfl (srx (za rfl (qt (cs := #[.bool false, .slice none 0 0]) pl61 zr61 rfl rfl (ya (zr xq rfl rfl Bb1 rfl rfl (Nat.le_of_ble_eq_true rfl) ?_))))))))))))))));intro w5 Bx Eb1;replace Bb1 := Bx;replace E := E.step1 Eb1 Mut.head
   refine anx rfl (zo (zj (zd (zd (zj (zd (zm (rs := [.cell 2 61, .tmp 3]) (vs := [_, _]) rfl ⟨⟨_, rfl, yy Tryz.underlying61 rfl xq Bb1 rfl⟩, rfl, trivial⟩ ?_)))))));exact by rw [e1, e2]; exact jk (LW.step E XLW).toBelow
  ·
   have h := of_decide_eq_false h;refine onx rfl (zv rfl (onx rfl (zv rfl (onx rfl (vj (j := k) Tryz.underlying9 rfl rfl rfl hat (onx rfl (qe rfl rfl (za rfl (zx rfl rfl (rnx (zt rfl (fun h2 => ?_) (fun h2 => ?_))))))))))))
   ·
    have h2 := of_decide_eq_true h2;obtain ⟨e1, e2⟩ := oc (neg := false) (ylq hb9 (by unfold qp; simp; omega));refine srx (za rfl (qt (cs := #[.bool false, .slice none 0 0]) pl61 zr61 rfl rfl (ya (zr xq rfl rfl Bb1 rfl rfl (Nat.le_of_ble_eq_true rfl) ?_))));intro w6 Bx Eb1;replace Bb1 := Bx;replace E := E.step1 Eb1 Mut.head
    refine anx rfl (zo (zj (zd (zd (zj (zd (zm (rs := [.cell 2 61, .tmp 3]) (vs := [_, _]) rfl ⟨⟨_, rfl, yy Tryz.underlying61 rfl xq Bb1 rfl⟩, rfl, trivial⟩ ?_)))))));exact by rw [e1, e2]; exact jk (LW.step E XLW).toBelow
   ·
    have h2 := of_decide_eq_false h2;have hdig : qp b = true := dig_of (by omega) (by omega);refine zn (zf (ze (zg (za rfl (yp rfl rfl (zw (by omega)) (mvx rfl (yd (yt 26 (.int .i64 ((k + 1 : Nat) : Int)) rfl ((by rfl : (.int .i64 ((k : Int) + 1) : Value) = _)) ?_))))))))
    exact yr (k + 1) (by show r.length - (k + 1) < r.length - k; omega) ⟨rfl, rfl, rfl, rfl, rfl, rfl, trivial⟩ ⟨M3.step E XM3, (by exact Bb1), by omega, all_get hb9 hall hdig⟩
 ·
  have q := of_decide_eq_false q;obtain rfl : k = r.length := by omega
  rw [List.take_length] at hall;refine yw (zl (zl (zy (ze (zi (yc ?_))))));replace HF := HF.on E;replace LW := LW.step E XLW;replace M3 := M3.step E XM3;replace E := erx (Mut [(some gb1)]) w4
  refine qm (ι := List UInt8) (fun u => [(0, .string ⟨u.toArray⟩), (2, .pointer (some ⟨gb1, 0, none⟩)), (3, .int .i64 0), (4, .bool false)]) (fun u w' => Ext (Mut [(some gb1)]) w4 w' ∧ Blk w' gb1 61 (#[.bool false, .slice none 0 0]) ∧ (gm u = gm r ∧ u.length ≤ r.length)) (fun u => u.length) r ⟨rfl, rfl, rfl, rfl, trivial⟩ ⟨Ext.refl _ _, (by exact Bb1), ⟨rfl, Nat.le_refl _⟩⟩ ?_
  have LTb1 := (yo Bb1.lt);rintro u w8 ⟨M7, Bb1, ⟨hu1, hu2⟩⟩;have XM7 : Gro (Mut [(some gb1)]) (Mut [(some gb1)]) w4 := (Mut.grow Mut.none_ (fun k e => Or.inl (Mut.head k e)));replace E := E.trans M7;replace HF := HF.on E;replace LW := LW.step E XLW;replace M3 := M3.step E XM3;replace E := erx (Mut [(some gb1)]) w8;clear LTb1
  refine zi (srx (mvx rfl (za rfl (yz Tryz.underlying9 rfl (za rfl (qe rfl rfl (mvx rfl (yi 44 (.bool (decide ((0 : Int) < ((u.length : Nat) : Int)))) rfl (by rw [vr]) (yk 44 rfl (fun h => ?_) (fun h => ?_))))))))))
  ·
   have h := of_decide_eq_true h;obtain ⟨b, u2, hbu⟩ : ∃ b u2, u = b :: u2 := by cases u with | nil => simp at h | cons b u2 => exact ⟨b, u2, rfl⟩
   have hat : (⟨u.toArray⟩ : ByteArray)[0]? = some b := by rw [ydk, hbu]; rfl
   refine onx rfl (zv rfl (onx rfl (vj (j := 0) Tryz.underlying9 rfl rfl rfl hat (onx rfl (zz rfl rfl (za rfl (zq rfl rfl (rnx (zt rfl (fun h2 => ?_) (fun h2 => ?_))))))))))
   ·
    have h2 : b = 48 := UInt8.toNat_inj.1 (by have h7 := of_decide_eq_true h2; have h8 : (48 : UInt8).toNat = 48 := rfl; omega);have hul : u.length = u2.length + 1 := by rw [hbu]; rfl
    refine zn (ze (yc (zg (mvx rfl (za rfl (ve (l := 1) (h := u.length) Tryz.underlying9 rfl ⟨_, rfl⟩ (vr u).symm (by omega) (by rw [vr]; omega) (yi 50 (.string ⟨u2.toArray⟩) rfl ((by rw [zuk, List.take_length, hbu]; rfl : (.string ((⟨u.toArray⟩ : ByteArray).extract 1 u.length) : Value) = _)) (avx rfl (yd (zf ?_))))))))))
    exact yr u2 (by show u2.length < u.length; omega) ⟨rfl, rfl, rfl, rfl, trivial⟩ ⟨M7.step E XM7, (by exact Bb1), by rw [← hu1, hbu, h2, strip_zero], by omega⟩
   ·
    have h2 : b ≠ 48 := fun e => by rw [e] at h2; exact absurd h2 (by decide)
    refine yw (zl (zl (zy (ze (zi (srx (mvx rfl (za rfl (yz Tryz.underlying9 rfl (za rfl (qe rfl rfl (rnx ?_))))))))))));have hstr : gm r = u := by rw [← hu1]; exact by rw [hbu, strip_cons h2]
    have hal9 := zfx hall;rw [hstr] at hal9;have hln9 := znv hall;rw [hstr] at hln9;have hnum : qa u = qa r := by rw [← hstr, ot]
    refine zp 53 (.bool (decide ((540 : Int) < ((u.length : Nat) : Int)))) rfl (by rw [vr]) (zt rfl (fun h3 => ?_) (fun h3 => ?_))
    ·
     have h3 := of_decide_eq_true h3;have e1 : vw r = 2 := by unfold vw; rw [if_pos ⟨hr, hall⟩, if_neg (by omega)]
     have e2 : vx false r = 0 := by unfold vx; rw [if_neg (by rintro ⟨_, _, h⟩; omega)]
     refine srx (za rfl (qt (cs := #[.bool false, .slice none 0 0]) pl61 zr61 rfl rfl (ya (zr xq rfl rfl Bb1 rfl rfl (Nat.le_of_ble_eq_true rfl) ?_))));intro w9 Bx Eb1;replace Bb1 := Bx;replace E := E.step1 Eb1 Mut.head
     refine anx rfl (zo (zd (zm (rs := [.cell 2 61, .tmp 3]) (vs := [_, _]) rfl ⟨⟨_, rfl, yy Tryz.underlying61 rfl xq Bb1 rfl⟩, rfl, trivial⟩ ?_)));exact by rw [e1, e2]; exact jk (LW.step E XLW).toBelow
    ·
     have h3 := of_decide_eq_false h3;have e1 : vw r = 0 := by unfold vw; rw [if_pos ⟨hr, hall⟩, if_pos (by omega)]
     have e2 : vx false r = sgn false (qa r) := by unfold vx; rw [if_pos ⟨hr, hall, by omega⟩]
     refine zn (ze (srx (anx rfl (zi (srx (mvx rfl (za rfl (yz Tryz.underlying9 rfl (anx rfl (yc ?_))))))))));have Ol : World.ownsRow w8 w.heap.size 64 1 (.slice none 0 0) 0 ([]) := oy;have Dl_b1 : Apart ((Value.slice none 0 0).ownBlock) (some gb1) := fun _ e => by cases e
     have Db1_l := Dl_b1.symm;replace HF := HF.cons (jp);replace E := E.cons ((Value.slice none 0 0).ownBlock);replace XLW := Mut.grow XLW (fun k e => Or.inr (Nat.le_trans LW.size ((jp) k e)));replace XM3 := Mut.grow XM3 (fun k e => Or.inr (Nat.le_trans M3.size ((jp) k e)));replace XM7 := Mut.grow XM7 (fun k e => Or.inr (Nat.le_trans M7.size ((jp) k e)))
     refine zp 7 (.int .i64 ((u.length : Int) - 18 * ((0 : Nat) : Int))) rfl (by rw [vr]; simp) ?_;replace HF := HF.on E;replace LW := LW.step E XLW;replace M3 := M3.step E XM3;replace M7 := M7.step E XM7;replace E := erx (Mut [((Value.slice none 0 0).ownBlock), (some gb1)]) w8
     refine qm (ι := Nat × List Nat × Option Addr × Nat) (fun (k, xs, A1, c1) => [(0, .string ⟨u.toArray⟩), (2, .pointer (some ⟨gb1, 0, none⟩)), (3, .int .i64 0), (4, .bool false), (6, .slice A1 k c1), (7, .int .i64 ((u.length : Int) - 18 * (k : Int)))]) (fun (k, xs, A1, c1) w' => Ext (Mut [((Value.slice none 0 0).ownBlock), (some gb1)]) w8 w' ∧ World.ownsRow w' w.heap.size 64 1 (.slice A1 k c1) k (xs.map fun x : Nat => Value.int .u64 (x : Int)) ∧ Blk w' gb1 61 (#[.bool false, .slice none 0 0]) ∧ (∀ q9, ((Value.slice A1 k c1).ownBlock) = some q9 → ((Value.slice none 0 0).ownBlock) = some q9 ∨ w8.heap.size ≤ q9) ∧ (xs.length = k ∧ small B18 xs ∧ val B18 xs = qa (u.drop (u.length - 18 * k)) ∧ 18 * k ≤ u.length + 17)) (fun (k, xs, A1, c1) => u.length + 18 - 18 * k) (0, [], none, 0) ⟨rfl, rfl, rfl, rfl, rfl, rfl, trivial⟩ ⟨Ext.refl _ _, (by exact Ol), (by exact Bb1), (fun _ e => Or.inl e), ⟨rfl, zfz, by rw [Nat.mul_zero, Nat.sub_zero, List.drop_length]; rfl, by omega⟩⟩ ?_
     have LTl := (gk Ol);have LTb1 := (yo Bb1.lt);clear Ol;rintro ⟨k, xs, A1, c1⟩ w11 ⟨M10, Ol, Bb1, KlM10, ⟨hk, hsm, hval, hkl⟩⟩;replace Dl_b1 : Apart ((Value.slice A1 k c1).ownBlock) (some gb1) := Dl_b1.turn KlM10 LTb1;replace Db1_l := Dl_b1.symm
     have XM10 : Gro (Mut [((Value.slice A1 k c1).ownBlock), (some gb1)]) (Mut [((Value.slice none 0 0).ownBlock), (some gb1)]) w8 := (Mut.grow (Mut.grow Mut.none_ (fun k e => Or.inl ((Mut.tail Mut.head) k e))) (fun k e => (KlM10 k e).elim (fun e => Or.inl (Mut.head k e)) Or.inr));replace E := E.trans M10;replace HF := HF.turn E XM10;have ZLW := LW.size
     have XT := fun q9 (h : (Mut [((Value.slice A1 k c1).ownBlock), (some gb1)]) q9) => (XM10 q9 h).elim (XLW q9) (fun h => Or.inr (Nat.le_trans LW.size h));replace LW := LW.step E XLW;replace XLW := XT;have ZM3 := M3.size;have XT := fun q9 (h : (Mut [((Value.slice A1 k c1).ownBlock), (some gb1)]) q9) => (XM10 q9 h).elim (XM3 q9) (fun h => Or.inr (Nat.le_trans M3.size h))
     replace M3 := M3.step E XM3;replace XM3 := XT;have ZM7 := M7.size;have XT := fun q9 (h : (Mut [((Value.slice A1 k c1).ownBlock), (some gb1)]) q9) => (XM10 q9 h).elim (XM7 q9) (fun h => Or.inr (Nat.le_trans M7.size h));replace M7 := M7.step E XM7;replace XM7 := XT;clear ZLW;clear ZM3;clear ZM7;replace E := erx (Mut [((Value.slice A1 k c1).ownBlock), (some gb1)]) w11;clear LTl;clear LTb1
     refine zi (srx (mvx rfl (za rfl (qe rfl rfl (rnx (zt rfl (fun q => ?_) (fun q => ?_)))))))
     ·
      have q := of_decide_eq_true q;obtain ⟨e, he⟩ : ∃ e : Nat, e = u.length - 18 * k := ⟨_, rfl⟩;have he0 : 0 < e := by omega
      have hel : e ≤ u.length := by omega
      refine zn (ze (zi (yc (srx (mvx rfl (mvx rfl (za rfl (qc rfl rfl (zw (by omega)) (za rfl (ow_max rfl rfl (yi 65 (.int .i64 ((e - 18 : Nat) : Int)) rfl ((by congr 1; split <;> omega : (.int .i64 (if (u.length : Int) - 18 * (k : Int) - 18 > 0 then (u.length : Int) - 18 * (k : Int) - 18 else 0) : Value) = _)) (mvx rfl (yi 66 (.int .i64 ((e : Nat) : Int)) rfl ((by rw [show (u.length : Int) - 18 * (k : Int) = ((e : Nat) : Int) by omega] : (.int .i64 ((u.length : Int) - 18 * (k : Int)) : Value) = _)) (za rfl (ve (l := e - 18) (h := e) Tryz.underlying9 rfl ⟨_, rfl⟩ ⟨_, rfl⟩ (Nat.sub_le _ _) (by rw [vr]; exact hel) (yi 67 (.string ⟨((u.take e).drop (e - 18)).toArray⟩) rfl ((by rw [zuk] : (.string ((⟨u.toArray⟩ : ByteArray).extract (e - 18) e) : Value) = _)) (za rfl (yh en29 rfl ((parseU _ _ (zxv he0 hel) (zov hal9 e) (gi hal9 e) (zok u e)).mono ?_)))))))))))))))))))
      rintro e w12 ⟨rfl, hb⟩;refine ⟨_, rfl, ?_⟩;have Ec := Ext.of_below hb No;replace Ol := vi Ol Ec NotIn.nil;replace Bb1 := Bb1.extN Ec NotIn.nil;replace E := E.trans Ec.no
      refine mvx rfl (za rfl (yj rfl rfl (za rfl (yj rfl rfl (avx rfl (anx rfl (zg (mvx rfl (mvx rfl (za rfl (vb (cs := #[.int .u64 ((qa ((u.take e).drop (e - 18)) : Nat) : Int)]) Tryz.underlying59 sz64 zr64 (by decide) rfl (by rw [vz]; rfl) ?_)))))))))));intro gb13 w14 Bb13 Eb13 Gb13
      have Db13_l : Apart (some gb13) ((Value.slice A1 k c1).ownBlock) := Apart.of_lt (gk Ol) Gb13;have Dl_b13 := Db13_l.symm;have Db13_b1 : Apart (some gb13) (some gb1) := Apart.of_lt (yo Bb1.lt) Gb13;have Db1_b13 := Db13_b1.symm;have Gb13 : _ ≤ gb13 := Nat.le_trans E.size Gb13;have GLb13 := Nat.le_trans LW.size Gb13;replace Ol := vi Ol Eb13 NotIn.nil
      replace Bb1 := Bb1.extN Eb13 NotIn.nil;replace E := E.trans Eb13.no;replace HF := HF.cons (yb Gb13);replace E := E.cons (some gb13);replace XLW := Mut.grow XLW (fun k e => Or.inr (Nat.le_trans LW.size ((yb Gb13) k e)));replace XM3 := Mut.grow XM3 (fun k e => Or.inr (Nat.le_trans M3.size ((yb Gb13) k e)))
      replace XM7 := Mut.grow XM7 (fun k e => Or.inr (Nat.le_trans M7.size ((yb Gb13) k e)));replace XM10 := Mut.grow XM10 (fun k e => Or.inr (Nat.le_trans M10.size ((yb Gb13) k e)));replace HF := HF.on E;replace LW := LW.step E XLW;replace M3 := M3.step E XM3;replace M7 := M7.step E XM7;replace M10 := M10.step E XM10
      have SB : ∀ q9, Mut [((Value.slice A1 k c1).ownBlock), (some gb1)] q9 → Mut [(some gb13), ((Value.slice A1 k c1).ownBlock), (some gb1)] q9 := (Mut.skip (Mut.keep (Mut.keep Mut.nil_)));replace HF := HF.less SB;replace XLW := fun k h => XLW k (SB k h);replace XM3 := fun k h => XM3 k (SB k h);replace XM7 := fun k h => XM7 k (SB k h);replace XM10 := fun k h => XM10 k (SB k h);clear SB
      replace E := erx (Mut [((Value.slice A1 k c1).ownBlock), (some gb1)]) w14;replace HF := HF.and (Per.blkN Bb13 (NotIn.cons Db13_l (NotIn.cons Db13_b1 NotIn.nil)))
      refine za rfl (je (news := [.int .u64 ((qa ((u.take e).drop (e - 18)) : Nat) : Int)]) Tryz.underlying59 inf64 rfl (by decide) rfl Ol rfl (kl (HF.on E).here.2 ((HF.on E).here.2).lt rfl) (by simp [Value.oneCell']) (by unfold maxLen; omega) (by omega) (by exact Nat.le_trans LW.size E.size) ?_);intro v0 w15 On En KN;obtain ⟨A2, c2, rfl⟩ := vy On
      replace KN : ∀ q9, ((Value.slice A2 (k + 1) c2).ownBlock) = some q9 → ((Value.slice A1 k c1).ownBlock) = some q9 ∨ w14.heap.size ≤ q9 := KN;have LTb1 := (yo Bb1.lt);replace Bb1 := Bb1.extN En (NotIn.cons Db1_l NotIn.nil);replace Dl_b1 : Apart ((Value.slice A2 (k + 1) c2).ownBlock) (some gb1) := Dl_b1.turn KN LTb1;replace Db1_l := Dl_b1.symm;clear LTb1
      have HY : Gro (Mut [((Value.slice A2 (k + 1) c2).ownBlock), (some gb1)]) (Mut [((Value.slice A1 k c1).ownBlock), (some gb1)]) w14 := (Mut.grow (Mut.grow Mut.none_ (fun k e => Or.inl ((Mut.tail Mut.head) k e))) (fun k e => (KN k e).elim (fun e => Or.inl (Mut.head k e)) (fun h => Or.inr (Nat.le_trans E.size h))))
      replace KlM10 : ∀ q9, ((Value.slice A2 (k + 1) c2).ownBlock) = some q9 → ((Value.slice none 0 0).ownBlock) = some q9 ∨ w8.heap.size ≤ q9 := fun k e => (KN k e).elim (KlM10 k) (fun h => Or.inr (Nat.le_trans M10.size (Nat.le_trans E.size h)));replace E := E.step1 En Mut.head
      have XT := fun q9 (h : (Mut [((Value.slice A2 (k + 1) c2).ownBlock), (some gb1)]) q9) => (HY q9 h).elim (XLW q9) (fun h => Or.inr (Nat.le_trans LW.size h));have XT := fun q9 (h : (Mut [((Value.slice A2 (k + 1) c2).ownBlock), (some gb1)]) q9) => (HY q9 h).elim (XM3 q9) (fun h => Or.inr (Nat.le_trans M3.size h))
      have XT := fun q9 (h : (Mut [((Value.slice A2 (k + 1) c2).ownBlock), (some gb1)]) q9) => (HY q9 h).elim (XM7 q9) (fun h => Or.inr (Nat.le_trans M7.size h));have XT := fun q9 (h : (Mut [((Value.slice A2 (k + 1) c2).ownBlock), (some gb1)]) q9) => (HY q9 h).elim (XM10 q9) (fun h => Or.inr (Nat.le_trans M10.size h));replace M10 := M10.step E XM10;replace XM10 := XT
      replace E := erx (Mut [((Value.slice A2 (k + 1) c2).ownBlock), (some gb1)]) w15;clear HY;replace Ol : World.ownsRow w15 w.heap.size 64 1 (.slice A2 (k + 1) c2) (k + 1) ((xs ++ [qa ((u.take e).drop (e - 18))]).map fun x : Nat => Value.int .u64 (x : Int)) := by
       have e : ((xs.map fun x : Nat => Value.int .u64 (x : Int)) : List Value) ++ ([.int .u64 ((qa ((u.take e).drop (e - 18)) : Nat) : Int)] : List Value) = (xs ++ [qa ((u.take e).drop (e - 18))]).map fun x : Nat => Value.int .u64 (x : Int) := by simp
       rw [← e];exact On
      clear On KN En
      refine avx rfl (yd (zf (ze (zg (mvx rfl (za rfl (qc rfl rfl (zw (by omega)) (avx rfl (yd (yt 7 (.int .i64 ((u.length : Int) - 18 * ((k + 1 : Nat) : Int))) rfl ((by rw [show (u.length : Int) - 18 * (k : Int) - 18 = (u.length : Int) - 18 * ((k + 1 : Nat) : Int) by omega] : (.int .i64 (((u.length : Int) - 18 * (k : Int)) - 18) : Value) = _)) ?_))))))))))
      exact yr (k + 1, xs ++ [qa ((u.take e).drop (e - 18))], A2, c2) (by show u.length + 18 - 18 * (k + 1) < u.length + 18 - 18 * k; omega) ⟨rfl, rfl, rfl, rfl, rfl, rfl, trivial⟩ ⟨M10.step E XM10, (by exact Ol), (by exact Bb1), KlM10, by rw [List.length_append, hk]; rfl, zhk hsm (gi hal9 e), by rw [zrx hal9 hk (by omega : u.length = e + 18 * k) (by rw [hval, he]), show u.length - 18 * (k + 1) = e - 18 by omega], by omega⟩
     ·
      have q := of_decide_eq_false q;have hv9 : val B18 xs = qa r := by rw [hval, show u.length - 18 * k = 0 by omega, List.drop_zero, hnum]
      have Ol9 := Ol;have hown : Own w11 w.heap.size A1 c1 xs := ⟨by rw [hk]; exact Ol9, fun x hx => Nat.lt_trans (hsm x hx) (by decide)⟩;have hform : ∀ w', Nums w' A1 xs → Calls Tryz.prog 30 #[.bool false, .slice A1 k c1] w' (yfv w' (sgn false (qa r))) := fun w' h => by
       have h9 := zyk false A1 c1 xs w' h hsm (by omega);rwa [hk, hv9] at h9
      replace HF := HF.on E;replace LW := LW.step E XLW;have SB : ∀ q9, Mut [(some gb1)] q9 → Mut [((Value.slice A1 k c1).ownBlock), (some gb1)] q9 := (Mut.skip (Mut.keep Mut.nil_));replace HF := HF.less SB;replace XLW := fun k h => XLW k (SB k h);clear SB;replace E := erx (Mut [(some gb1)]) w11;replace HF := HF.and (Per.ownsN Ol (NotIn.cons Dl_b1 NotIn.nil));clear Ol;replace HF := HF.on E
      replace LW := LW.step E XLW;replace E := erx (Mut [(some gb1)]) w11;replace HF := HF.and (Per.ownN hown (NotIn.cons (xc hown Bb1 (by decide)) NotIn.nil));refine yw (zl (zl (zy (ze (srx (mvx rfl (mvx rfl (za rfl (yh en30 rfl ((hform _ ((HF.on E).here.2).nums).mono ?_))))))))));rintro e w16 ⟨A2, c2, rfl, o2, hb⟩;refine ⟨_, rfl, ?_⟩
      have SC := Nat.le_trans LW.size E.size;have Ec := Ext.of_below hb No;replace Bb1 := Bb1.extN Ec NotIn.nil;replace E := E.trans Ec.no;have S2 := SC;replace HF := HF.on E;replace LW := LW.step E XLW;replace E := erx (Mut [(some gb1)]) w16;replace HF := HF.and (Per.ownN o2 (NotIn.cons (xc o2 Bb1 (by decide)) NotIn.nil))
      refine ya (zr xq rfl rfl Bb1 rfl rfl (Nat.le_of_ble_eq_true rfl) ?_);intro w17 Bx Eb1;replace Bb1 := Bx;replace E := E.step1 Eb1 Mut.head;replace HF := HF.on E;replace LW := LW.step E XLW;have SB : ∀ q9, No q9 → Mut [(some gb1)] q9 := (Mut.skip Mut.nil_);replace HF := HF.less SB;replace XLW := fun k h => XLW k (SB k h);clear SB;replace E := erx (No) w17
      replace HF := HF.and (Per.blkN Bb1 NotIn.nil);refine anx rfl (zo (zm (rs := [.cell 2 61, .tmp 3]) (vs := [_, _]) rfl ⟨⟨_, rfl, yy Tryz.underlying61 rfl xq (HF.on E).here.2 rfl⟩, rfl, trivial⟩ ?_));exact by rw [e1, e2]; exact ⟨A2, c2, rfl, ((HF.on E).here.1.2).mono S2, (LW.step E XLW).toBelow⟩
  ·
   have h := of_decide_eq_false h;have hu0 : u = [] := by cases u with | nil => rfl | cons b u2 => simp at h
   refine za rfl (zc rfl (za rfl (zc rfl (za rfl (zc rfl (za rfl (zx rfl rfl (rnx (ye rfl (yw (zl (zl (zy (ze (zi (srx (mvx rfl (za rfl (yz Tryz.underlying9 rfl (za rfl (qe rfl rfl (rnx ?_))))))))))))))))))))));have hstr : gm r = u := by rw [← hu1]; exact by rw [hu0]; rfl
   have hal9 := zfx hall;rw [hstr] at hal9;have hln9 := znv hall;rw [hstr] at hln9;have hnum : qa u = qa r := by rw [← hstr, ot]
   refine zp 53 (.bool (decide ((540 : Int) < ((u.length : Nat) : Int)))) rfl (by rw [vr]) (zt rfl (fun h3 => ?_) (fun h3 => ?_))
   ·
    have h3 := of_decide_eq_true h3;have e1 : vw r = 2 := by unfold vw; rw [if_pos ⟨hr, hall⟩, if_neg (by omega)]
    have e2 : vx false r = 0 := by unfold vx; rw [if_neg (by rintro ⟨_, _, h⟩; omega)]
    refine srx (za rfl (qt (cs := #[.bool false, .slice none 0 0]) pl61 zr61 rfl rfl (ya (zr xq rfl rfl Bb1 rfl rfl (Nat.le_of_ble_eq_true rfl) ?_))));intro w18 Bx Eb1;replace Bb1 := Bx;replace E := E.step1 Eb1 Mut.head
    refine anx rfl (zo (zd (zm (rs := [.cell 2 61, .tmp 3]) (vs := [_, _]) rfl ⟨⟨_, rfl, yy Tryz.underlying61 rfl xq Bb1 rfl⟩, rfl, trivial⟩ ?_)));exact by rw [e1, e2]; exact jk (LW.step E XLW).toBelow
   ·
    have h3 := of_decide_eq_false h3;have e1 : vw r = 0 := by unfold vw; rw [if_pos ⟨hr, hall⟩, if_pos (by omega)]
    have e2 : vx false r = sgn false (qa r) := by unfold vx; rw [if_pos ⟨hr, hall, by omega⟩]
    refine zn (ze (srx (anx rfl (zi (srx (mvx rfl (za rfl (yz Tryz.underlying9 rfl (anx rfl (yc ?_))))))))));have Ol : World.ownsRow w8 w.heap.size 64 1 (.slice none 0 0) 0 ([]) := oy;have Dl_b1 : Apart ((Value.slice none 0 0).ownBlock) (some gb1) := fun _ e => by cases e
    have Db1_l := Dl_b1.symm;replace HF := HF.cons (jp);replace E := E.cons ((Value.slice none 0 0).ownBlock);replace XLW := Mut.grow XLW (fun k e => Or.inr (Nat.le_trans LW.size ((jp) k e)));replace XM3 := Mut.grow XM3 (fun k e => Or.inr (Nat.le_trans M3.size ((jp) k e)));replace XM7 := Mut.grow XM7 (fun k e => Or.inr (Nat.le_trans M7.size ((jp) k e)))
    refine zp 7 (.int .i64 ((u.length : Int) - 18 * ((0 : Nat) : Int))) rfl (by rw [vr]; simp) ?_;replace HF := HF.on E;replace LW := LW.step E XLW;replace M3 := M3.step E XM3;replace M7 := M7.step E XM7;replace E := erx (Mut [((Value.slice none 0 0).ownBlock), (some gb1)]) w8
    refine qm (ι := Nat × List Nat × Option Addr × Nat) (fun (k, xs, A1, c1) => [(0, .string ⟨u.toArray⟩), (2, .pointer (some ⟨gb1, 0, none⟩)), (3, .int .i64 0), (4, .bool false), (6, .slice A1 k c1), (7, .int .i64 ((u.length : Int) - 18 * (k : Int)))]) (fun (k, xs, A1, c1) w' => Ext (Mut [((Value.slice none 0 0).ownBlock), (some gb1)]) w8 w' ∧ World.ownsRow w' w.heap.size 64 1 (.slice A1 k c1) k (xs.map fun x : Nat => Value.int .u64 (x : Int)) ∧ Blk w' gb1 61 (#[.bool false, .slice none 0 0]) ∧ (∀ q9, ((Value.slice A1 k c1).ownBlock) = some q9 → ((Value.slice none 0 0).ownBlock) = some q9 ∨ w8.heap.size ≤ q9) ∧ (xs.length = k ∧ small B18 xs ∧ val B18 xs = qa (u.drop (u.length - 18 * k)) ∧ 18 * k ≤ u.length + 17)) (fun (k, xs, A1, c1) => u.length + 18 - 18 * k) (0, [], none, 0) ⟨rfl, rfl, rfl, rfl, rfl, rfl, trivial⟩ ⟨Ext.refl _ _, (by exact Ol), (by exact Bb1), (fun _ e => Or.inl e), ⟨rfl, zfz, by rw [Nat.mul_zero, Nat.sub_zero, List.drop_length]; rfl, by omega⟩⟩ ?_
    have LTl := (gk Ol);have LTb1 := (yo Bb1.lt);clear Ol;rintro ⟨k, xs, A1, c1⟩ w20 ⟨M19, Ol, Bb1, KlM19, ⟨hk, hsm, hval, hkl⟩⟩;replace Dl_b1 : Apart ((Value.slice A1 k c1).ownBlock) (some gb1) := Dl_b1.turn KlM19 LTb1;replace Db1_l := Dl_b1.symm
    have XM19 : Gro (Mut [((Value.slice A1 k c1).ownBlock), (some gb1)]) (Mut [((Value.slice none 0 0).ownBlock), (some gb1)]) w8 := (Mut.grow (Mut.grow Mut.none_ (fun k e => Or.inl ((Mut.tail Mut.head) k e))) (fun k e => (KlM19 k e).elim (fun e => Or.inl (Mut.head k e)) Or.inr));replace E := E.trans M19;replace HF := HF.turn E XM19;have ZLW := LW.size
    have XT := fun q9 (h : (Mut [((Value.slice A1 k c1).ownBlock), (some gb1)]) q9) => (XM19 q9 h).elim (XLW q9) (fun h => Or.inr (Nat.le_trans LW.size h));replace LW := LW.step E XLW;replace XLW := XT;have ZM3 := M3.size;have XT := fun q9 (h : (Mut [((Value.slice A1 k c1).ownBlock), (some gb1)]) q9) => (XM19 q9 h).elim (XM3 q9) (fun h => Or.inr (Nat.le_trans M3.size h))
    replace M3 := M3.step E XM3;replace XM3 := XT;have ZM7 := M7.size;have XT := fun q9 (h : (Mut [((Value.slice A1 k c1).ownBlock), (some gb1)]) q9) => (XM19 q9 h).elim (XM7 q9) (fun h => Or.inr (Nat.le_trans M7.size h));replace M7 := M7.step E XM7;replace XM7 := XT;clear ZLW;clear ZM3;clear ZM7;replace E := erx (Mut [((Value.slice A1 k c1).ownBlock), (some gb1)]) w20;clear LTl;clear LTb1
    refine zi (srx (mvx rfl (za rfl (qe rfl rfl (rnx (zt rfl (fun q => ?_) (fun q => ?_)))))))
    ·
     have q := of_decide_eq_true q;obtain ⟨e, he⟩ : ∃ e : Nat, e = u.length - 18 * k := ⟨_, rfl⟩;have he0 : 0 < e := by omega
     have hel : e ≤ u.length := by omega
     refine zn (ze (zi (yc (srx (mvx rfl (mvx rfl (za rfl (qc rfl rfl (zw (by omega)) (za rfl (ow_max rfl rfl (yi 65 (.int .i64 ((e - 18 : Nat) : Int)) rfl ((by congr 1; split <;> omega : (.int .i64 (if (u.length : Int) - 18 * (k : Int) - 18 > 0 then (u.length : Int) - 18 * (k : Int) - 18 else 0) : Value) = _)) (mvx rfl (yi 66 (.int .i64 ((e : Nat) : Int)) rfl ((by rw [show (u.length : Int) - 18 * (k : Int) = ((e : Nat) : Int) by omega] : (.int .i64 ((u.length : Int) - 18 * (k : Int)) : Value) = _)) (za rfl (ve (l := e - 18) (h := e) Tryz.underlying9 rfl ⟨_, rfl⟩ ⟨_, rfl⟩ (Nat.sub_le _ _) (by rw [vr]; exact hel) (yi 67 (.string ⟨((u.take e).drop (e - 18)).toArray⟩) rfl ((by rw [zuk] : (.string ((⟨u.toArray⟩ : ByteArray).extract (e - 18) e) : Value) = _)) (za rfl (yh en29 rfl ((parseU _ _ (zxv he0 hel) (zov hal9 e) (gi hal9 e) (zok u e)).mono ?_)))))))))))))))))))
     rintro e w21 ⟨rfl, hb⟩;refine ⟨_, rfl, ?_⟩;have Ec := Ext.of_below hb No;replace Ol := vi Ol Ec NotIn.nil;replace Bb1 := Bb1.extN Ec NotIn.nil;replace E := E.trans Ec.no
     refine mvx rfl (za rfl (yj rfl rfl (za rfl (yj rfl rfl (avx rfl (anx rfl (zg (mvx rfl (mvx rfl (za rfl (vb (cs := #[.int .u64 ((qa ((u.take e).drop (e - 18)) : Nat) : Int)]) Tryz.underlying59 sz64 zr64 (by decide) rfl (by rw [vz]; rfl) ?_)))))))))));intro gb22 w23 Bb22 Eb22 Gb22
     have Db22_l : Apart (some gb22) ((Value.slice A1 k c1).ownBlock) := Apart.of_lt (gk Ol) Gb22;have Dl_b22 := Db22_l.symm;have Db22_b1 : Apart (some gb22) (some gb1) := Apart.of_lt (yo Bb1.lt) Gb22;have Db1_b22 := Db22_b1.symm;have Gb22 : _ ≤ gb22 := Nat.le_trans E.size Gb22;have GLb22 := Nat.le_trans LW.size Gb22;replace Ol := vi Ol Eb22 NotIn.nil
     replace Bb1 := Bb1.extN Eb22 NotIn.nil;replace E := E.trans Eb22.no;replace HF := HF.cons (yb Gb22);replace E := E.cons (some gb22);replace XLW := Mut.grow XLW (fun k e => Or.inr (Nat.le_trans LW.size ((yb Gb22) k e)));replace XM3 := Mut.grow XM3 (fun k e => Or.inr (Nat.le_trans M3.size ((yb Gb22) k e)))
     replace XM7 := Mut.grow XM7 (fun k e => Or.inr (Nat.le_trans M7.size ((yb Gb22) k e)));replace XM19 := Mut.grow XM19 (fun k e => Or.inr (Nat.le_trans M19.size ((yb Gb22) k e)));replace HF := HF.on E;replace LW := LW.step E XLW;replace M3 := M3.step E XM3;replace M7 := M7.step E XM7;replace M19 := M19.step E XM19
     have SB : ∀ q9, Mut [((Value.slice A1 k c1).ownBlock), (some gb1)] q9 → Mut [(some gb22), ((Value.slice A1 k c1).ownBlock), (some gb1)] q9 := (Mut.skip (Mut.keep (Mut.keep Mut.nil_)));replace HF := HF.less SB;replace XLW := fun k h => XLW k (SB k h);replace XM3 := fun k h => XM3 k (SB k h);replace XM7 := fun k h => XM7 k (SB k h);replace XM19 := fun k h => XM19 k (SB k h);clear SB
     replace E := erx (Mut [((Value.slice A1 k c1).ownBlock), (some gb1)]) w23;replace HF := HF.and (Per.blkN Bb22 (NotIn.cons Db22_l (NotIn.cons Db22_b1 NotIn.nil)))
     refine za rfl (je (news := [.int .u64 ((qa ((u.take e).drop (e - 18)) : Nat) : Int)]) Tryz.underlying59 inf64 rfl (by decide) rfl Ol rfl (kl (HF.on E).here.2 ((HF.on E).here.2).lt rfl) (by simp [Value.oneCell']) (by unfold maxLen; omega) (by omega) (by exact Nat.le_trans LW.size E.size) ?_);intro v0 w24 On En KN;obtain ⟨A2, c2, rfl⟩ := vy On
     replace KN : ∀ q9, ((Value.slice A2 (k + 1) c2).ownBlock) = some q9 → ((Value.slice A1 k c1).ownBlock) = some q9 ∨ w23.heap.size ≤ q9 := KN;have LTb1 := (yo Bb1.lt);replace Bb1 := Bb1.extN En (NotIn.cons Db1_l NotIn.nil);replace Dl_b1 : Apart ((Value.slice A2 (k + 1) c2).ownBlock) (some gb1) := Dl_b1.turn KN LTb1;replace Db1_l := Dl_b1.symm;clear LTb1
     have HY : Gro (Mut [((Value.slice A2 (k + 1) c2).ownBlock), (some gb1)]) (Mut [((Value.slice A1 k c1).ownBlock), (some gb1)]) w23 := (Mut.grow (Mut.grow Mut.none_ (fun k e => Or.inl ((Mut.tail Mut.head) k e))) (fun k e => (KN k e).elim (fun e => Or.inl (Mut.head k e)) (fun h => Or.inr (Nat.le_trans E.size h))))
     replace KlM19 : ∀ q9, ((Value.slice A2 (k + 1) c2).ownBlock) = some q9 → ((Value.slice none 0 0).ownBlock) = some q9 ∨ w8.heap.size ≤ q9 := fun k e => (KN k e).elim (KlM19 k) (fun h => Or.inr (Nat.le_trans M19.size (Nat.le_trans E.size h)));replace E := E.step1 En Mut.head
     have XT := fun q9 (h : (Mut [((Value.slice A2 (k + 1) c2).ownBlock), (some gb1)]) q9) => (HY q9 h).elim (XLW q9) (fun h => Or.inr (Nat.le_trans LW.size h));have XT := fun q9 (h : (Mut [((Value.slice A2 (k + 1) c2).ownBlock), (some gb1)]) q9) => (HY q9 h).elim (XM3 q9) (fun h => Or.inr (Nat.le_trans M3.size h))
     have XT := fun q9 (h : (Mut [((Value.slice A2 (k + 1) c2).ownBlock), (some gb1)]) q9) => (HY q9 h).elim (XM7 q9) (fun h => Or.inr (Nat.le_trans M7.size h));have XT := fun q9 (h : (Mut [((Value.slice A2 (k + 1) c2).ownBlock), (some gb1)]) q9) => (HY q9 h).elim (XM19 q9) (fun h => Or.inr (Nat.le_trans M19.size h));replace M19 := M19.step E XM19;replace XM19 := XT
     replace E := erx (Mut [((Value.slice A2 (k + 1) c2).ownBlock), (some gb1)]) w24;clear HY;replace Ol : World.ownsRow w24 w.heap.size 64 1 (.slice A2 (k + 1) c2) (k + 1) ((xs ++ [qa ((u.take e).drop (e - 18))]).map fun x : Nat => Value.int .u64 (x : Int)) := by
      have e : ((xs.map fun x : Nat => Value.int .u64 (x : Int)) : List Value) ++ ([.int .u64 ((qa ((u.take e).drop (e - 18)) : Nat) : Int)] : List Value) = (xs ++ [qa ((u.take e).drop (e - 18))]).map fun x : Nat => Value.int .u64 (x : Int) := by simp
      rw [← e];exact On
     clear On KN En
     refine avx rfl (yd (zf (ze (zg (mvx rfl (za rfl (qc rfl rfl (zw (by omega)) (avx rfl (yd (yt 7 (.int .i64 ((u.length : Int) - 18 * ((k + 1 : Nat) : Int))) rfl ((by rw [show (u.length : Int) - 18 * (k : Int) - 18 = (u.length : Int) - 18 * ((k + 1 : Nat) : Int) by omega] : (.int .i64 (((u.length : Int) - 18 * (k : Int)) - 18) : Value) = _)) ?_))))))))))
     exact yr (k + 1, xs ++ [qa ((u.take e).drop (e - 18))], A2, c2) (by show u.length + 18 - 18 * (k + 1) < u.length + 18 - 18 * k; omega) ⟨rfl, rfl, rfl, rfl, rfl, rfl, trivial⟩ ⟨M19.step E XM19, (by exact Ol), (by exact Bb1), KlM19, by rw [List.length_append, hk]; rfl, zhk hsm (gi hal9 e), by rw [zrx hal9 hk (by omega : u.length = e + 18 * k) (by rw [hval, he]), show u.length - 18 * (k + 1) = e - 18 by omega], by omega⟩
    ·
     have q := of_decide_eq_false q;have hv9 : val B18 xs = qa r := by rw [hval, show u.length - 18 * k = 0 by omega, List.drop_zero, hnum]
     have Ol9 := Ol;have hown : Own w20 w.heap.size A1 c1 xs := ⟨by rw [hk]; exact Ol9, fun x hx => Nat.lt_trans (hsm x hx) (by decide)⟩;have hform : ∀ w', Nums w' A1 xs → Calls Tryz.prog 30 #[.bool false, .slice A1 k c1] w' (yfv w' (sgn false (qa r))) := fun w' h => by
      have h9 := zyk false A1 c1 xs w' h hsm (by omega);rwa [hk, hv9] at h9
     replace HF := HF.on E;replace LW := LW.step E XLW;have SB : ∀ q9, Mut [(some gb1)] q9 → Mut [((Value.slice A1 k c1).ownBlock), (some gb1)] q9 := (Mut.skip (Mut.keep Mut.nil_));replace HF := HF.less SB;replace XLW := fun k h => XLW k (SB k h);clear SB;replace E := erx (Mut [(some gb1)]) w20;replace HF := HF.and (Per.ownsN Ol (NotIn.cons Dl_b1 NotIn.nil));clear Ol;replace HF := HF.on E
     replace LW := LW.step E XLW;replace E := erx (Mut [(some gb1)]) w20;replace HF := HF.and (Per.ownN hown (NotIn.cons (xc hown Bb1 (by decide)) NotIn.nil));refine yw (zl (zl (zy (ze (srx (mvx rfl (mvx rfl (za rfl (yh en30 rfl ((hform _ ((HF.on E).here.2).nums).mono ?_))))))))));rintro e w25 ⟨A2, c2, rfl, o2, hb⟩;refine ⟨_, rfl, ?_⟩
     have SC := Nat.le_trans LW.size E.size;have Ec := Ext.of_below hb No;replace Bb1 := Bb1.extN Ec NotIn.nil;replace E := E.trans Ec.no;have S2 := SC;replace HF := HF.on E;replace LW := LW.step E XLW;replace E := erx (Mut [(some gb1)]) w25;replace HF := HF.and (Per.ownN o2 (NotIn.cons (xc o2 Bb1 (by decide)) NotIn.nil))
     refine ya (zr xq rfl rfl Bb1 rfl rfl (Nat.le_of_ble_eq_true rfl) ?_);intro w26 Bx Eb1;replace Bb1 := Bx;replace E := E.step1 Eb1 Mut.head;replace HF := HF.on E;replace LW := LW.step E XLW;have SB : ∀ q9, No q9 → Mut [(some gb1)] q9 := (Mut.skip Mut.nil_);replace HF := HF.less SB;replace XLW := fun k h => XLW k (SB k h);clear SB;replace E := erx (No) w26
     replace HF := HF.and (Per.blkN Bb1 NotIn.nil);refine anx rfl (zo (zm (rs := [.cell 2 61, .tmp 3]) (vs := [_, _]) rfl ⟨⟨_, rfl, yy Tryz.underlying61 rfl xq (HF.on E).here.2 rfl⟩, rfl, trivial⟩ ?_));exact by rw [e1, e2]; exact ⟨A2, c2, rfl, ((HF.on E).here.1.2).mono S2, (LW.step E XLW).toBelow⟩
end
section
variable (w : World)
theorem zvx (neg : Bool) : Calls Tryz.prog 24 #[.string ⟨(if neg then [45] else [] : List UInt8).toArray⟩] w (kp w 0 4) := by
 cases neg
 · show Calls Tryz.prog 24 #[.string ⟨#[]⟩] w (kp w 0 4)
   refine yn Tryz.func24 rfl Tryz.ntmps24 rfl ?_;have LW := erx (No) w;have XLW := grx (No) w;have E := erx (No) w;refine srx (za rfl (qo zr61 ?_));intro gb1 w2 Bb1 Eb1 Gb1;have Gb1 : _ ≤ gb1 := Nat.le_trans E.size Gb1;have GLb1 := Nat.le_trans LW.size Gb1;replace E := E.trans Eb1.no;replace E := E.cons (some gb1)
   replace XLW := Mut.grow XLW (fun k e => Or.inr (Nat.le_trans LW.size ((yb Gb1) k e)))
   refine anx rfl (srx (mvx rfl (za rfl (yz Tryz.underlying9 rfl (za rfl (qe rfl rfl (mvx rfl (yi 13 (.bool false) rfl (by rfl) (za rfl (zc rfl (za rfl (zc rfl (za rfl (zc rfl (za rfl (zx rfl rfl (anx rfl (zi (srx (mvx rfl (rnx (ye rfl (zn (ze (zi (srx (mvx rfl (za rfl (kz rfl rfl (rnx (zp 22 (.bool true) rfl (by rw [beq_self_eq_true]) (yg rfl (srx (za rfl (qt (cs := #[.bool false, .slice none 0 0]) pl61 zr61 rfl rfl (ya (zr xq rfl rfl Bb1 rfl rfl (Nat.le_of_ble_eq_true rfl) ?_)))))))))))))))))))))))))))))))))))))
   intro w3 Bx Eb1;replace Bb1 := Bx;replace E := E.step1 Eb1 Mut.head;refine anx rfl (zo (zd (zm (rs := [.cell 2 61, .tmp 3]) (vs := [_, _]) rfl ⟨⟨_, rfl, yy Tryz.underlying61 rfl xq Bb1 rfl⟩, rfl, trivial⟩ ?_)));exact jk (LW.step E XLW).toBelow
 · show Calls Tryz.prog 24 #[.string ⟨#[45]⟩] w (kp w 0 4)
   have hat0 : (⟨#[45]⟩ : ByteArray)[0]? = some 45 := rfl;refine yn Tryz.func24 rfl Tryz.ntmps24 rfl ?_;have LW := erx (No) w;have XLW := grx (No) w;have E := erx (No) w;refine srx (za rfl (qo zr61 ?_));intro gb1 w2 Bb1 Eb1 Gb1;have Gb1 : _ ≤ gb1 := Nat.le_trans E.size Gb1;have GLb1 := Nat.le_trans LW.size Gb1;replace E := E.trans Eb1.no;replace E := E.cons (some gb1)
   replace XLW := Mut.grow XLW (fun k e => Or.inr (Nat.le_trans LW.size ((yb Gb1) k e)))
   refine anx rfl (srx (mvx rfl (za rfl (yz Tryz.underlying9 rfl (za rfl (qe rfl rfl (mvx rfl (yi 13 (.bool true) rfl (by rfl) (onx rfl (zv rfl (onx rfl (vj (j := 0) Tryz.underlying9 rfl rfl rfl hat0 (onx rfl (zz rfl rfl (za rfl (zq rfl rfl (anx rfl (zi (srx (mvx rfl (rnx (yg rfl (zg (mvx rfl (za rfl (ve (l := 1) (h := 1) Tryz.underlying9 rfl ⟨_, rfl⟩ rfl (Nat.le_refl _) (Nat.le_refl _) (yi 20 (.string ⟨#[]⟩) rfl ((by rfl : (.string ((⟨#[45]⟩ : ByteArray).extract 1 1) : Value) = _)) (anx rfl (zi (srx (mvx rfl (za rfl (kz rfl rfl (rnx (zp 22 (.bool true) rfl (by rw [beq_self_eq_true]) (yg rfl ?_))))))))))))))))))))))))))))))))))))
   refine srx (za rfl (qt (cs := #[.bool false, .slice none 0 0]) pl61 zr61 rfl rfl (ya (zr xq rfl rfl Bb1 rfl rfl (Nat.le_of_ble_eq_true rfl) ?_))));intro w3 Bx Eb1;replace Bb1 := Bx;replace E := E.step1 Eb1 Mut.head
   refine anx rfl (zo (zd (zm (rs := [.cell 2 61, .tmp 3]) (vs := [_, _]) rfl ⟨⟨_, rfl, yy Tryz.underlying61 rfl xq Bb1 rfl⟩, rfl, trivial⟩ ?_)));exact jk (LW.step E XLW).toBelow
end
theorem parse_any (s : ByteArray) (w : World) (hs : s.size ≤ 140737488355328) : Calls Tryz.prog 24 #[.string s] w (kp w (vx (textN s.data.toList) (zev s.data.toList)) (vw (zev s.data.toList))) := by
 obtain ⟨bs, rfl⟩ : ∃ bs : List UInt8, s = ⟨bs.toArray⟩ := ⟨s.data.toList, by cases s; simp⟩;rw [vr] at hs;show Calls _ _ _ _ (kp w (vx (textN bs.toArray.toList) (zev bs.toArray.toList)) (vw (zev bs.toArray.toList)))
 rw [List.toList_toArray];unfold textN zev;by_cases h : bs.head? = some 45
 · rw [decide_eq_true h, if_pos h];obtain ⟨r, rfl⟩ : ∃ r, bs = 45 :: r := by cases bs with | nil => cases h | cons b r => exact ⟨r, by rw [Option.some.inj h]⟩
   by_cases hr : r = []
   · subst hr;obtain ⟨e1, e2⟩ := zhq (neg := true);show Calls _ _ _ _ (kp w (vx true []) (vw []))
     rw [e1, e2];exact zvx w true
   · exact wparse_neg _ r w hr rfl hs
 · rw [decide_eq_false h, if_neg h];by_cases hr : bs = []
   · subst hr;obtain ⟨e1, e2⟩ := zhq (neg := false);rw [e1, e2];exact zvx w false
   · exact wparse_pos bs w hr h hs
end Go.Proofs.YtmjemknimipnjaaGreatDoor
namespace Go.Proofs.YtmjemknimipnjaaGreatDoor
open Go.RowKit
set_option maxRecDepth 100000
attribute [local irreducible] OW RS
theorem textE_zero {r : List UInt8} (h : vw r = 0) : r ≠ [] ∧ r.all qp = true := by
 unfold vw at h;split at h
 · assumption
 · cases h
theorem textR_dig {r : List UInt8} {b : UInt8} (h : r.head? = some b) (hd : qp b = true) : zev r = r := by
 unfold zev;rw [h, if_neg];intro e;cases e
 revert hd;decide
theorem head_all {r : List UInt8} {b : UInt8} (h : r.head? = some b) (ha : r.all qp = true) : qp b = true := by
 cases r with
 | nil => cases h
 | cons x l =>
  cases h
  rw [List.all_cons, Bool.and_eq_true] at ha;exact ha.1
theorem yak (s : ByteArray) : kf (1, s) = decide (vw s.data.toList = 0) := by
 unfold kf;rw [if_neg (by show ¬ (1 : Int) = 3; decide)];split
 · rename_i h
   refine (decide_eq_false fun e => ?_).symm;obtain ⟨h1, h2⟩ := textE_zero e;cases hh : s.data.toList.head? with
   | none => exact h1 (List.head?_eq_none_iff.1 hh)
   | some b =>
    have h3 := head_all hh h2;have h : s.data.toList.head?.all (fun b => !qp b) = true := h;rw [hh, Option.all_some, h3] at h;cases h
 · rw [if_pos rfl]
theorem conC_str (s : ByteArray) : kf (3, s) = decide (s.size ≤ 20000) := by unfold kf; rw [if_pos rfl]
theorem conC_flt {s : ByteArray} {b : UInt8} (h : s.data.toList.head? = some b) (hd : qp b = true) : kf (2, s) = decide (prE s = 0) := by
 unfold kf;rw [if_neg (by show ¬ (2 : Int) = 3; decide), if_neg (by show ¬ s.data.toList.head?.all (fun b => !qp b) = true; rw [h, Option.all_some, hd]; decide), if_neg (by show ¬ (2 : Int) = 1; decide), if_pos rfl]
theorem zgk {k : Int} {s : ByteArray} (hk : k ≠ 3) (h : ∀ b, s.data.toList.head? = some b → qp b = false) : kf (k, s) = false := by
 unfold kf;rw [if_neg hk, if_pos];show s.data.toList.head?.all (fun b => !qp b) = true
 cases hh : s.data.toList.head? with
 | none => rfl
 | some b => rw [Option.all_some, h b hh]; rfl
theorem conC_other {k : Int} {s : ByteArray} (h3 : k ≠ 3) (h1 : k ≠ 1) (h2 : k ≠ 2) : kf (k, s) = false := by
 unfold kf;rw [if_neg h3];split
 · rfl
 · first | rfl | rw [if_neg h1, if_neg h2]
theorem first_byte {s : ByteArray} (h : 0 < s.size) : ∃ b, s.data.toList.head? = some b ∧ (s.data[0]?).map (·.toNat) = some b.toNat := by
 have h' : 0 < s.data.size := h;refine ⟨s.data[0], ?_, by rw [Array.getElem?_eq_getElem h']; rfl⟩;rw [List.head?_eq_getElem?, Array.getElem?_toList, Array.getElem?_eq_getElem h']
theorem no_byte {s : ByteArray} (h : s.size = 0) : s.data.toList = [] := by
 have h' : s.data.size = 0 := h;exact List.eq_nil_of_length_eq_zero (by rw [Array.length_toList]; exact h')
theorem zbk {s : ByteArray} : (s.toList == (⟨#[]⟩ : ByteArray).toList) = decide (s.size = 0) := by
 rw [ByteArray.toList_eq, ByteArray.toList_eq, Bool.eq_iff_iff];simp only [beq_iff_eq, decide_eq_true_eq]
 constructor
 · intro h;have := congrArg List.length h;exact this
 · intro h;exact no_byte h
section
variable (w : World) {bp op cp bf of cf bl ol cl : Nat} (k : Int) (s : ByteArray) (hs : s.size ≤ 140737488355328) (hT : Tabs bp op cp bf of cf bl ol cl w) (hE : ∃ te pe, w.cell? ⟨2, 0, none⟩ = some (.iface te pe))
include hs hT hE
theorem const_any : Calls Tryz.prog 15 #[.agg #[.int .i64 k, .string s]] w fun e w' => e = .returned (.bool (kf (k, s))) ∧ Below w.heap.size w w' := by
 obtain ⟨te, pe, hE⟩ := hE;refine yn Tryz.func15 rfl Tryz.ntmps15 rfl ?_;have HF : Per (No) w (fun _ => True) := Per.true_;have LW := erx (No) w;have XLW := grx (No) w;have E := erx (No) w;replace HF := HF.on E;replace LW := LW.step E XLW;replace E := erx (No) w;replace HF := HF.and (Per.tabs hT (fun _ h => h.elim));replace HF := HF.on E;replace LW := LW.step E XLW;replace E := erx (No) w
 replace HF := HF.and (Per.cellA hE (fun _ h => h.elim));refine srx (za rfl (vq rfl ?_));intro gb1 w2 Bb1 Eb1 Gb1;have Gb1 : _ ≤ gb1 := Nat.le_trans E.size Gb1;have GLb1 := Nat.le_trans LW.size Gb1;replace E := E.trans Eb1.no;replace HF := HF.cons (yb Gb1);replace E := E.cons (some gb1);replace XLW := Mut.grow XLW (fun k e => Or.inr (Nat.le_trans LW.size ((yb Gb1) k e)))
 replace HF := HF.on E;replace LW := LW.step E XLW;have SB : ∀ q9, No q9 → Mut [(some gb1)] q9 := (Mut.skip Mut.nil_);replace HF := HF.less SB;replace XLW := fun k h => XLW k (SB k h);clear SB;replace E := erx (No) w2;replace HF := HF.and (Per.blkN Bb1 NotIn.nil)
 refine anx rfl (srx (anx rfl (zi (yc (srx (za rfl (zb Tryz.underlying50 rfl sz3 (by decide) rfl (za rfl (zh Tryz.underlying3 rfl rfl (HF.on E).here.2 rfl (za rfl (zz rfl rfl (anx rfl ?_))))))))))));by_cases h3 : k = 3
 ·
  refine zp 4 (.bool true) rfl ((by rw [h3]; rfl : (.bool (k == 3) : Value) = _)) (yg rfl (srx (za rfl (zb Tryz.underlying50 rfl sz9 (by decide) rfl (za rfl (zh Tryz.underlying9 rfl rfl (HF.on E).here.2 rfl (za rfl (yz Tryz.underlying9 rfl (za rfl (gf rfl rfl (anx rfl (zo (zj (zd (zm (rs := [.tmp 2]) (vs := [_]) rfl ⟨rfl, trivial⟩ ?_)))))))))))))))
  exact ⟨by rw [h3, conC_str]; refine congrArg (fun z => Ending.returned (.bool z)) ?_; rw [decide_eq_decide]; omega, (LW.step E XLW).toBelow⟩
 ·
  refine zp 4 (.bool false) rfl ((by congr 1; rw [beq_eq_false_iff_ne]; exact h3 : (.bool (k == 3) : Value) = _)) (ye rfl (srx (za rfl (zb Tryz.underlying50 rfl sz9 (by decide) rfl (za rfl (zh Tryz.underlying9 rfl rfl (HF.on E).here.2 rfl (za rfl (kz rfl rfl (mvx rfl ?_)))))))));by_cases h0 : s.size = 0
  ·
   refine yi 16 (.bool true) rfl (by rw [zbk, decide_eq_true h0]) (za rfl (zc rfl (za rfl (zc rfl (za rfl (zc rfl (za rfl (zc rfl (za rfl (zq rfl rfl (mvx rfl (za rfl (zc rfl (za rfl (zc rfl (za rfl (zc rfl (za rfl (zc rfl (za rfl (zq rfl rfl (anx rfl (yg rfl (zn (zf (ze (srx (mvx rfl (za rfl (zz rfl rfl (anx rfl (zo (zm (rs := [.tmp 2]) (vs := [_]) rfl ⟨rfl, trivial⟩ ?_)))))))))))))))))))))))))))))))))
   exact ⟨by rw [zgk h3 (fun b hb => by rw [no_byte h0] at hb; cases hb)]; rfl, (LW.step E XLW).toBelow⟩
  ·
   refine yi 16 (.bool false) rfl (by rw [zbk, decide_eq_false h0]) ?_;obtain ⟨b, hb0, hb1⟩ := first_byte (show 0 < s.size by omega)
   refine onx rfl (zb Tryz.underlying50 rfl sz9 (by decide) rfl (onx rfl (zh Tryz.underlying9 rfl rfl (HF.on E).here.2 rfl (onx rfl (ym (j := 0) (b := b.toNat) Tryz.underlying9 rfl rfl rfl hb1 (onx rfl (yv rfl rfl (za rfl (zx rfl rfl (mvx rfl ?_))))))))));by_cases hl : b.toNat < 48
   ·
    refine yi 22 (.bool true) rfl ((by rw [decide_eq_true]; omega : (.bool (decide (((b.toNat : Nat) : Int) < 48)) : Value) = _)) (za rfl (zc rfl (za rfl (zc rfl (za rfl (zc rfl (za rfl (zc rfl (za rfl (zq rfl rfl (anx rfl (yg rfl (zn (zf (ze (srx (mvx rfl (za rfl (zz rfl rfl (anx rfl (zo (zm (rs := [.tmp 2]) (vs := [_]) rfl ⟨rfl, trivial⟩ ?_))))))))))))))))))))))
    exact ⟨by rw [zgk h3 (fun b' hb => by rw [hb0] at hb; cases hb; unfold qp; rw [decide_eq_false (by omega)]; rfl)]; rfl, (LW.step E XLW).toBelow⟩
   ·
    refine yi 22 (.bool false) rfl ((by rw [decide_eq_false]; omega : (.bool (decide (((b.toNat : Nat) : Int) < 48)) : Value) = _)) (onx rfl (zb Tryz.underlying50 rfl sz9 (by decide) rfl (onx rfl (zh Tryz.underlying9 rfl rfl (HF.on E).here.2 rfl (onx rfl (ym (j := 0) (b := b.toNat) Tryz.underlying9 rfl rfl rfl hb1 (onx rfl (qe rfl rfl (za rfl (zx rfl rfl (anx rfl ?_)))))))))))
    by_cases hh : 57 < b.toNat
    ·
     refine zp 12 (.bool true) rfl ((by rw [decide_eq_true]; omega : (.bool (decide (57 < ((b.toNat : Nat) : Int))) : Value) = _)) (yg rfl (zn (zf (ze (srx (mvx rfl (za rfl (zz rfl rfl (anx rfl (zo (zm (rs := [.tmp 2]) (vs := [_]) rfl ⟨rfl, trivial⟩ ?_)))))))))))
     exact ⟨by rw [zgk h3 (fun b' hb => by rw [hb0] at hb; cases hb; unfold qp; rw [decide_eq_false (show ¬ b.toNat ≤ 57 by omega), Bool.and_false])]; rfl, (LW.step E XLW).toBelow⟩
    ·
     refine zp 12 (.bool false) rfl ((by rw [decide_eq_false]; omega : (.bool (decide (57 < ((b.toNat : Nat) : Int))) : Value) = _)) ?_;have hd : qp b = true := by unfold qp; rw [decide_eq_true (by omega), decide_eq_true (by omega)]; rfl
     have htr := textR_dig hb0 hd;refine ye rfl (srx (za rfl (zb Tryz.underlying50 rfl sz3 (by decide) rfl (za rfl (zh Tryz.underlying3 rfl rfl (HF.on E).here.2 rfl (za rfl (zz rfl rfl (anx rfl ?_))))))));by_cases h1 : k = 1
     ·
      refine zp 28 (.bool true) rfl ((by rw [h1]; rfl : (.bool (k == 1) : Value) = _)) (yg rfl (zg (za rfl (zb Tryz.underlying50 rfl sz9 (by decide) rfl (za rfl (zh Tryz.underlying9 rfl rfl (HF.on E).here.2 rfl (za rfl (yh en24 rfl ((parse_any s _ hs).mono ?_)))))))));rintro e w3 ⟨A1, c1, rfl, o1, hb⟩;refine ⟨_, rfl, ?_⟩;replace E := blx E hb
      refine mvx rfl (za rfl (yj rfl rfl (za rfl (yj rfl rfl (avx rfl (yd (zf (ze (srx (mvx rfl (za rfl (zz rfl rfl (anx rfl (zo (zm (rs := [.tmp 2]) (vs := [_]) rfl ⟨rfl, trivial⟩ ?_)))))))))))))))
      exact ⟨by rw [h1, yak, htr]; refine congrArg (fun z => Ending.returned (.bool z)) ?_; first | rfl | (rw [Bool.eq_iff_iff]; simp; done), (LW.step E XLW).toBelow⟩
     ·
      refine zp 28 (.bool false) rfl ((by congr 1; rw [beq_eq_false_iff_ne]; exact h1 : (.bool (k == 1) : Value) = _)) (ye rfl (srx (za rfl (zb Tryz.underlying50 rfl sz3 (by decide) rfl (za rfl (zh Tryz.underlying3 rfl rfl (HF.on E).here.2 rfl (za rfl (zz rfl rfl (anx rfl ?_)))))))));by_cases h2 : k = 2
      ·
       refine zp 38 (.bool true) rfl ((by rw [h2]; rfl : (.bool (k == 2) : Value) = _)) (yg rfl (zg (za rfl (zb Tryz.underlying50 rfl sz9 (by decide) rfl (za rfl (zh Tryz.underlying9 rfl rfl (HF.on E).here.2 rfl (za rfl (yh en25 rfl ((realparse_any _ s (HF.on E).here.1.1.2 ⟨te, pe, (HF.on E).here.1.2⟩).mono ?_)))))))));rintro e w4 ⟨rfl, hb⟩
       refine ⟨_, rfl, ?_⟩;replace E := blx E hb;refine mvx rfl (za rfl (yj rfl rfl (za rfl (yj rfl rfl (avx rfl (yd (zf (ze (srx (mvx rfl (za rfl (zz rfl rfl (anx rfl (zo (zm (rs := [.tmp 2]) (vs := [_]) rfl ⟨rfl, trivial⟩ ?_)))))))))))))))
       exact ⟨by rw [h2, conC_flt hb0 hd]; refine congrArg (fun z => Ending.returned (.bool z)) ?_; first | rfl | (rw [Bool.eq_iff_iff]; simp; done), (LW.step E XLW).toBelow⟩
      ·
       refine zp 38 (.bool false) rfl ((by congr 1; rw [beq_eq_false_iff_ne]; exact h2 : (.bool (k == 2) : Value) = _)) (ye rfl (zn (zf (ze (srx (mvx rfl (za rfl (zz rfl rfl (anx rfl (zo (zm (rs := [.tmp 2]) (vs := [_]) rfl ⟨rfl, trivial⟩ ?_)))))))))));exact ⟨by rw [conC_other h3 h1 h2]; rfl, (LW.step E XLW).toBelow⟩
end
end Go.Proofs.YtmjemknimipnjaaGreatDoor
namespace Go.Proofs.YtmjemknimipnjaaGreatDoor
open Go.RowKit
set_option maxRecDepth 100000
attribute [local irreducible] OW RS
theorem byte_at {s : ByteArray} {i : Nat} (h : i < s.size) : ∃ b, s.data.toList[i]? = some b ∧ (s.data[i]?).map (·.toNat) = some b.toNat := by
 have h' : i < s.data.size := h;refine ⟨s.data[i], ?_, by rw [Array.getElem?_eq_getElem h']; rfl⟩;rw [Array.getElem?_toList, Array.getElem?_eq_getElem h']
theorem textR_all {r : List UInt8} (ha : r.all qp = true) : zev r = r := by
 cases r with
 | nil => rfl
 | cons x l => exact textR_dig rfl (head_all rfl ha)
theorem textE_not {r : List UInt8} (h : r.all qp = false) : decide (vw r = 0) = false := decide_eq_false fun e => by
 have := (textE_zero e).2;rw [h] at this;cases this
theorem list_len (s : ByteArray) : s.data.toList.length = s.size := by rw [Array.length_toList]; rfl
theorem rgC_eq (f : LFn) (r : LReg) : rgC f r = (decide (0 ≤ r.fr) && (decide (r.fr ≤ r.to) && (decide (r.to ≤ (f.ins.length : Int)) && ((decide (0 ≤ r.tg) && decide (r.tg < (f.ins.length : Int))) && (decide (0 ≤ r.d) && decide (r.d < f.regs)))))) := rfl
section
variable (w : World) {bp op cp bf of cf bl ol cl : Nat} (k : Int) (s : ByteArray) (hs : s.size ≤ 140737488355328) (hT : Tabs bp op cp bf of cf bl ol cl w) (hE : ∃ te pe, w.cell? ⟨2, 0, none⟩ = some (.iface te pe))
include hs hT hE
theorem rconst_any : Calls Tryz.prog 19 #[.agg #[.int .i64 k, .string s]] w fun e w' => e = .returned (.bool (kf (k, s))) ∧ Below w.heap.size w w' := by
 obtain ⟨te, pe, hE⟩ := hE;have hll := list_len s;refine yn Tryz.func19 rfl Tryz.ntmps19 rfl ?_;have HF : Per (No) w (fun _ => True) := Per.true_;have LW := erx (No) w;have XLW := grx (No) w;have E := erx (No) w;replace HF := HF.on E;replace LW := LW.step E XLW;replace E := erx (No) w;replace HF := HF.and (Per.tabs hT (fun _ h => h.elim));replace HF := HF.on E;replace LW := LW.step E XLW
 replace E := erx (No) w;replace HF := HF.and (Per.cellA hE (fun _ h => h.elim));refine srx (za rfl (vq rfl ?_));intro gb1 w2 Bb1 Eb1 Gb1;have Gb1 : _ ≤ gb1 := Nat.le_trans E.size Gb1;have GLb1 := Nat.le_trans LW.size Gb1;replace E := E.trans Eb1.no;replace HF := HF.cons (yb Gb1);replace E := E.cons (some gb1)
 replace XLW := Mut.grow XLW (fun k e => Or.inr (Nat.le_trans LW.size ((yb Gb1) k e)));replace HF := HF.on E;replace LW := LW.step E XLW;have SB : ∀ q9, No q9 → Mut [(some gb1)] q9 := (Mut.skip Mut.nil_);replace HF := HF.less SB;replace XLW := fun k h => XLW k (SB k h);clear SB;replace E := erx (No) w2;replace HF := HF.and (Per.blkN Bb1 NotIn.nil)
 refine anx rfl (zi (srx (za rfl (zb Tryz.underlying50 rfl sz3 (by decide) rfl (za rfl (zh Tryz.underlying3 rfl rfl (HF.on E).here.2 rfl (rnx (yc (srx (za rfl (zz rfl rfl (anx rfl ?_))))))))))));by_cases h1 : k = 1
 ·
  refine zp 10 (.bool true) rfl ((by rw [h1]; rfl : (.bool (k == 1) : Value) = _)) (yg rfl (zi (srx (anx rfl (yc ?_)))));replace HF := HF.on E;replace LW := LW.step E XLW;replace E := erx (No) w2
  refine qm (ι := Nat) (fun i => [(1, .pointer (some ⟨gb1, 0, none⟩)), (3, .int .i64 ((i : Nat) : Int))]) (fun i w' => Ext (No) w2 w' ∧ (i ≤ s.size ∧ (s.data.toList.take i).all qp = true)) (fun i => s.size - i) 0 ⟨rfl, rfl, trivial⟩ ⟨Ext.refl _ _, ⟨Nat.zero_le _, by rw [List.take_zero]; rfl⟩⟩ ?_;rintro i w4 ⟨M3, ⟨hi, hall⟩⟩;have XM3 := grx (No) w2;replace E := E.trans M3
  replace HF := HF.on E;replace LW := LW.step E XLW;replace E := erx (No) w4;refine zi (srx (mvx rfl (za rfl (zb Tryz.underlying50 rfl sz9 (by decide) rfl (za rfl (zh Tryz.underlying9 rfl rfl (HF.on E).here.2 rfl (za rfl (yz Tryz.underlying9 rfl (za rfl (yv rfl rfl (rnx (zt rfl (fun q => ?_) (fun q => ?_)))))))))))))
  ·
   have q := of_decide_eq_true q;have hlt : i < s.size := by omega
   obtain ⟨b, hb0, hb1⟩ := byte_at hlt;refine zn (ze (zi (yc (srx (za rfl (zb Tryz.underlying50 rfl sz9 (by decide) rfl (za rfl (zh Tryz.underlying9 rfl rfl (HF.on E).here.2 rfl (mvx rfl (za rfl (ym (j := i) (b := b.toNat) Tryz.underlying9 rfl rfl rfl hb1 (za rfl (yv rfl rfl (mvx rfl ?_))))))))))))));by_cases hl : b.toNat < 48
   ·
    refine yi 24 (.bool true) rfl ((by rw [decide_eq_true]; omega : (.bool (decide (((b.toNat : Nat) : Int) < 48)) : Value) = _)) (za rfl (zc rfl (za rfl (zc rfl (za rfl (zc rfl (za rfl (zc rfl (za rfl (zc rfl (za rfl (zq rfl rfl (rnx (yg rfl (srx (anx rfl (zo (zj (zd (zd (zj (zd (zj (zd (zm (rs := [.tmp 2]) (vs := [_]) rfl ⟨rfl, trivial⟩ ?_)))))))))))))))))))))))))
    exact ⟨by rw [h1, yak, textE_not (vf hb0 (by unfold qp; rw [decide_eq_false (by omega)]; rfl))]; rfl, (LW.step E XLW).toBelow⟩
   ·
    refine yi 24 (.bool false) rfl ((by rw [decide_eq_false]; omega : (.bool (decide (((b.toNat : Nat) : Int) < 48)) : Value) = _)) (onx rfl (zb Tryz.underlying50 rfl sz9 (by decide) rfl (onx rfl (zh Tryz.underlying9 rfl rfl (HF.on E).here.2 rfl (onx rfl (zv rfl (onx rfl (ym (j := i) (b := b.toNat) Tryz.underlying9 rfl rfl rfl hb1 (onx rfl (qe rfl rfl (za rfl (zx rfl rfl (rnx ?_)))))))))))))
    by_cases hh : 57 < b.toNat
    ·
     refine zp 30 (.bool true) rfl ((by rw [decide_eq_true]; omega : (.bool (decide (57 < ((b.toNat : Nat) : Int))) : Value) = _)) (yg rfl (srx (anx rfl (zo (zj (zd (zd (zj (zd (zj (zd (zm (rs := [.tmp 2]) (vs := [_]) rfl ⟨rfl, trivial⟩ ?_))))))))))))
     exact ⟨by rw [h1, yak, textE_not (vf hb0 (by unfold qp; rw [decide_eq_false (show ¬ b.toNat ≤ 57 by omega), Bool.and_false]))]; rfl, (LW.step E XLW).toBelow⟩
    ·
     refine zp 30 (.bool false) rfl ((by rw [decide_eq_false]; omega : (.bool (decide (57 < ((b.toNat : Nat) : Int))) : Value) = _)) (ye rfl (zn (zf (ze (zg (mvx rfl (za rfl (yp rfl rfl (zw (by omega)) (avx rfl (yd ?_))))))))))
     exact yr (i + 1) (by show s.size - (i + 1) < s.size - i; omega) ⟨rfl, rfl, trivial⟩ ⟨M3.step E XM3, ⟨hlt, gh hb0 hall (by unfold qp; rw [decide_eq_true (by omega), decide_eq_true (by omega)]; rfl)⟩⟩
  ·
   have q := of_decide_eq_false q;have hall2 := kh hall (by omega);have htr := textR_all hall2;refine yw (zl (zl (zy (ze (srx (za rfl (zb Tryz.underlying50 rfl sz9 (by decide) rfl (za rfl (zh Tryz.underlying9 rfl rfl (HF.on E).here.2 rfl (za rfl (yh en27 rfl ((read_any s _ hs).mono ?_))))))))))))
   rintro e w5 ⟨A1, c1, rfl, o1, hb⟩;refine ⟨_, rfl, ?_⟩;replace E := blx E hb;refine mvx rfl (za rfl (yj rfl rfl (za rfl (yj rfl rfl (za rfl (qo zr72 ?_))))));intro gb6 w7 Bb6 Eb6 Gb6;have Gb6 : _ ≤ gb6 := Nat.le_trans E.size Gb6;have GLb6 := Nat.le_trans LW.size Gb6;replace E := E.trans Eb6.no;replace E := E.cons (some gb6)
   replace XLW := Mut.grow XLW (fun k e => Or.inr (Nat.le_trans LW.size ((yb Gb6) k e)));refine ya (gz zdv rfl rfl Bb6 rfl rfl rfl ?_);intro w8 Bx Eb6;replace Bb6 : Blk w8 gb6 72 #[.bool (decide (vx (textN s.data.toList) (zev s.data.toList) < 0)), .slice A1 (tens (vx (textN s.data.toList) (zev s.data.toList))).length c1] := Bx;replace E := E.step1 Eb6 Mut.head
   replace LW := LW.step E XLW;have SB : ∀ q9, No q9 → Mut [(some gb6)] q9 := (Mut.skip Mut.nil_);replace XLW := fun k h => XLW k (SB k h);clear SB;replace E := erx (No) w8;refine anx rfl (srx (mvx rfl (za rfl (zz rfl rfl (anx rfl (zo (zj (zd (zm (rs := [.tmp 2]) (vs := [_]) rfl ⟨rfl, trivial⟩ ?_)))))))))
   exact ⟨by rw [h1, yak, htr]; refine congrArg (fun z => Ending.returned (.bool z)) ?_; first | rfl | (rw [Bool.eq_iff_iff]; simp; done), (LW.step E XLW).toBelow⟩
 ·
  refine zp 10 (.bool false) rfl ((by congr 1; rw [beq_eq_false_iff_ne]; exact h1 : (.bool (k == 1) : Value) = _)) (ye rfl (srx (za rfl (zz rfl rfl (anx rfl ?_)))));by_cases h2 : k = 2
  ·
   refine zp 39 (.bool true) rfl ((by rw [h2]; rfl : (.bool (k == 2) : Value) = _)) (yg rfl (zi (srx (za rfl (zb Tryz.underlying50 rfl sz9 (by decide) rfl (za rfl (zh Tryz.underlying9 rfl rfl (HF.on E).here.2 rfl (za rfl (kz rfl rfl (mvx rfl ?_))))))))));by_cases h0 : s.size = 0
   ·
    refine yi 44 (.bool true) rfl (by rw [zbk, decide_eq_true h0]) (za rfl (zc rfl (za rfl (zc rfl (za rfl (zc rfl (za rfl (zc rfl (za rfl (zq rfl rfl (mvx rfl (za rfl (zc rfl (za rfl (zc rfl (za rfl (zc rfl (za rfl (zc rfl (za rfl (zq rfl rfl (rnx (yg rfl (srx (anx rfl (zo (zd (zj (zd (zm (rs := [.tmp 2]) (vs := [_]) rfl ⟨rfl, trivial⟩ ?_))))))))))))))))))))))))))))))
    exact ⟨by rw [zgk (by omega) (fun b hb => by rw [no_byte h0] at hb; cases hb)]; rfl, (LW.step E XLW).toBelow⟩
   ·
    refine yi 44 (.bool false) rfl (by rw [zbk, decide_eq_false h0]) ?_;obtain ⟨b, hb0, hb1⟩ := first_byte (show 0 < s.size by omega)
    refine onx rfl (zb Tryz.underlying50 rfl sz9 (by decide) rfl (onx rfl (zh Tryz.underlying9 rfl rfl (HF.on E).here.2 rfl (onx rfl (ym (j := 0) (b := b.toNat) Tryz.underlying9 rfl rfl rfl hb1 (onx rfl (yv rfl rfl (za rfl (zx rfl rfl (mvx rfl ?_))))))))));by_cases hl : b.toNat < 48
    ·
     refine yi 50 (.bool true) rfl ((by rw [decide_eq_true]; omega : (.bool (decide (((b.toNat : Nat) : Int) < 48)) : Value) = _)) (za rfl (zc rfl (za rfl (zc rfl (za rfl (zc rfl (za rfl (zc rfl (za rfl (zq rfl rfl (rnx (yg rfl (srx (anx rfl (zo (zd (zj (zd (zm (rs := [.tmp 2]) (vs := [_]) rfl ⟨rfl, trivial⟩ ?_)))))))))))))))))))
     exact ⟨by rw [zgk (by omega) (fun b' hb => by rw [hb0] at hb; cases hb; unfold qp; rw [decide_eq_false (by omega)]; rfl)]; rfl, (LW.step E XLW).toBelow⟩
    ·
     refine yi 50 (.bool false) rfl ((by rw [decide_eq_false]; omega : (.bool (decide (((b.toNat : Nat) : Int) < 48)) : Value) = _)) (onx rfl (zb Tryz.underlying50 rfl sz9 (by decide) rfl (onx rfl (zh Tryz.underlying9 rfl rfl (HF.on E).here.2 rfl (onx rfl (ym (j := 0) (b := b.toNat) Tryz.underlying9 rfl rfl rfl hb1 (onx rfl (qe rfl rfl (za rfl (zx rfl rfl (rnx ?_)))))))))))
     by_cases hh : 57 < b.toNat
     ·
      refine zp 55 (.bool true) rfl ((by rw [decide_eq_true]; omega : (.bool (decide (57 < ((b.toNat : Nat) : Int))) : Value) = _)) (yg rfl (srx (anx rfl (zo (zd (zj (zd (zm (rs := [.tmp 2]) (vs := [_]) rfl ⟨rfl, trivial⟩ ?_))))))))
      exact ⟨by rw [zgk (by omega) (fun b' hb => by rw [hb0] at hb; cases hb; unfold qp; rw [decide_eq_false (show ¬ b.toNat ≤ 57 by omega), Bool.and_false])]; rfl, (LW.step E XLW).toBelow⟩
     ·
      refine zp 55 (.bool false) rfl ((by rw [decide_eq_false]; omega : (.bool (decide (57 < ((b.toNat : Nat) : Int))) : Value) = _)) ?_;have hd : qp b = true := by unfold qp; rw [decide_eq_true (by omega), decide_eq_true (by omega)]; rfl
      refine ye rfl (zn (ze (srx (za rfl (zb Tryz.underlying50 rfl sz9 (by decide) rfl (za rfl (zh Tryz.underlying9 rfl rfl (HF.on E).here.2 rfl (za rfl (yh en28 rfl ((realparse_any_r _ s (HF.on E).here.1.1.2 ⟨te, pe, (HF.on E).here.1.2⟩).mono ?_))))))))));rintro e w9 ⟨rfl, hb⟩;refine ⟨_, rfl, ?_⟩;replace E := blx E hb
      refine mvx rfl (za rfl (yj rfl rfl (za rfl (yj rfl rfl (avx rfl (anx rfl (srx (mvx rfl (za rfl (zz rfl rfl (anx rfl (zo (zj (zd (zm (rs := [.tmp 2]) (vs := [_]) rfl ⟨rfl, trivial⟩ ?_)))))))))))))))
      exact ⟨by rw [h2, conC_flt hb0 hd]; refine congrArg (fun z => Ending.returned (.bool z)) ?_; first | rfl | (rw [Bool.eq_iff_iff]; simp; done), (LW.step E XLW).toBelow⟩
  ·
   refine zp 39 (.bool false) rfl ((by congr 1; rw [beq_eq_false_iff_ne]; exact h2 : (.bool (k == 2) : Value) = _)) (ye rfl (srx (za rfl (zz rfl rfl (anx rfl ?_)))));by_cases h3 : k = 3
   ·
    refine zp 64 (.bool true) rfl ((by rw [h3]; rfl : (.bool (k == 3) : Value) = _)) (yg rfl (srx (za rfl (zb Tryz.underlying50 rfl sz9 (by decide) rfl (za rfl (zh Tryz.underlying9 rfl rfl (HF.on E).here.2 rfl (za rfl (yz Tryz.underlying9 rfl (za rfl (gf rfl rfl (anx rfl (zo (zj (zd (zm (rs := [.tmp 2]) (vs := [_]) rfl ⟨rfl, trivial⟩ ?_)))))))))))))))
    exact ⟨by rw [h3, conC_str]; refine congrArg (fun z => Ending.returned (.bool z)) ?_; rw [decide_eq_decide]; omega, (LW.step E XLW).toBelow⟩
   ·
    refine zp 64 (.bool false) rfl ((by congr 1; rw [beq_eq_false_iff_ne]; exact h3 : (.bool (k == 3) : Value) = _)) (ye rfl (zn (zf (ze (srx (anx rfl (zo (zm (rs := [.tmp 2]) (vs := [_]) rfl ⟨rfl, trivial⟩ ?_))))))));exact ⟨by rw [conC_other h3 h1 h2]; rfl, (LW.step E XLW).toBelow⟩
end
/-! ### heads -/
def gy (f : LFn) : Prop := 0 ≤ f.regs ∧ f.regs ≤ 65536 ∧ 0 ≤ f.params ∧ f.params ≤ f.regs ∧ 0 ≤ f.frees ∧ 0 ≤ f.bound ∧ f.ins.length ≠ 0
instance (f : LFn) : Decidable (gy f) := by unfold gy; infer_instance
def strC (s : ByteArray) : Bool := decide (s.size ≤ 20000)
def kd (f : LFn) (n : Nat) : Bool := decide (0 < n) || (decide (f.params = 0) && (decide (f.frees = 0) && !f.gen))
theorem zaq (f : LFn) (n : Nat) : gg f n = (decide (gy f) && ((f.name :: f.names).all strC && (f.consts.all kf && kd f n))) := by
 rw [Bool.eq_iff_iff, Bool.and_eq_true, decide_eq_true_iff];unfold gg gy kd strC;simp only [Bool.and_eq_true, decide_eq_true_eq, List.all_cons, and_assoc]
theorem jv {f : LFn} {n : Nat} (h : ¬ gy f) : gg f n = false := by rw [zaq, decide_eq_false h]; rfl
theorem xy {f : LFn} {n k : Nat} {s : ByteArray} (h : (f.name :: f.names)[k]? = some s) (hs : strC s = false) : gg f n = false := by rw [zaq, vf h hs, Bool.false_and, Bool.and_false]
theorem ydv {f : LFn} {n k : Nat} {c : Int × ByteArray} (h : f.consts[k]? = some c) (hs : kf c = false) : gg f n = false := by rw [zaq, vf h hs, Bool.false_and, Bool.and_false, Bool.and_false]
theorem zjz {f : LFn} {n : Nat} (h : gy f) (h1 : (f.name :: f.names).all strC = true) (h2 : f.consts.all kf = true) : gg f n = kd f n := by rw [zaq, decide_eq_true h, h1, h2]; rfl
def StrRow (m : Nat) (w : World) (A : Option Addr) (xs : List ByteArray) : Prop := RowS m w 1 (fun w g o x => w.cell? ⟨g, o, none⟩ = some (.string x)) A xs
theorem StrRow.low {m : Nat} {X : Nat → Prop} {w w' : World} {A : Option Addr} {xs : List ByteArray} (h : StrRow m w A xs) (k : Low m X w w') : StrRow m w' A xs := RowS.low h fun _ _ _ hg hc => k.cell hg hc
theorem StrRow.cell {m : Nat} {w : World} {A : Option Addr} {xs : List ByteArray} (h : StrRow m w A xs) {j : Nat} {x : ByteArray} (hj : xs[j]? = some x) : ∃ g o, A = some ⟨g, o, none⟩ ∧ g < m ∧ w.cell? ⟨g, o + j, none⟩ = some (.string x) := by
 obtain ⟨g, o, e, hg, hc⟩ := RowS.at h hj;exact ⟨g, o, e, hg, by rwa [Nat.mul_one] at hc⟩
theorem Per.strRow {m : Nat} {X : Nat → Prop} {w : World} {A : Option Addr} {xs : List ByteArray} (h : StrRow m w A xs) (hX : ∀ k, X k → m ≤ k) : Per X w (fun z => StrRow m z A xs) := fun _ hb => h.low ⟨hb, hX⟩
def zlq (xs : List ByteArray) : List Value := xs.map fun x => .string x
theorem strRow_owns {w : World} {lo c n : Nat} {A : Option Addr} {xs : List ByteArray} (h : w.ownsRow lo 9 1 (.slice A n c) n (zlq xs)) (hn : n = xs.length) : StrRow w.heap.size w A xs := fun h0 => by
 subst hn;obtain ⟨g, hA, _, hg, hc⟩ := owns_cells h (List.length_pos_iff.2 h0);refine ⟨g, 0, hA, hg, fun j x hj => ?_⟩;show w.cell? ⟨g, 0 + j * 1, none⟩ = _
 rw [Nat.zero_add, Nat.mul_one];refine hc j _ ?_;unfold zlq;rw [List.getElem?_map, hj]; rfl
theorem StrsA.readsV {n : Nat} {w : World} {A : Option Addr} {xs : List ByteArray} (h : StrsA n w A xs) {B : Nat} (hB : n ≤ B) : Reads w B 1 A xs.length (zlq xs) := by
 refine ⟨by unfold zlq; simp, fun h0 => ?_⟩;obtain ⟨g, o, e, hg, hc⟩ := h.row (fun e => by rw [e] at h0; simp [zlq] at h0);refine ⟨_, e, by show g < B; omega, fun j u hj => ?_⟩;unfold zlq at hj;rw [List.getElem?_map, Option.map_eq_some_iff] at hj;obtain ⟨x, hx, rfl⟩ := hj;have h9 := hc j x hx;rw [Nat.mul_one] at h9;rw [Lib.add_plain];exact h9
theorem ConsA.at {n : Nat} {w : World} {A : Option Addr} {xs : List (Int × ByteArray)} (h : ConsA n w A xs) {j : Nat} {x : Int × ByteArray} (hj : xs[j]? = some x) : ∃ g o, A = some ⟨g, o, none⟩ ∧ g < n ∧ oo w g (o + j * 2) [.int .i64 x.1, .string x.2] := h.row.at hj
section
variable (w : World) {bp op cp bf of cf bl ol cl : Nat} (p : Pl) (f : LFn) (n0 n : Nat) (hF : FnA n0 w p f) (hs : ∀ c ∈ f.consts, c.2.size ≤ 140737488355328) (hT : Tabs bp op cp bf of cf bl ol cl w) (hE : ∃ te pe, w.cell? ⟨2, 0, none⟩ = some (.iface te pe))
include hF hs hT hE
set_option maxHeartbeats 1000000 in
theorem head_any : Calls Tryz.prog 7 #[fnV p f, .int .i64 ((n : Nat) : Int)] w fun e w' => e = .returned (.bool (gg f n)) ∧ Below w.heap.size w w' := by
 obtain ⟨te, pe, hE⟩ := hE;have hnl := hF.names.len;have hcl := hF.consts.len;have hsz := hF.size;refine yn Tryz.func7 rfl Tryz.ntmps7 rfl ?_;have HF : Per (No) w (fun _ => True) := Per.true_;have LW := erx (No) w;have XLW := grx (No) w;have E := erx (No) w;replace HF := HF.on E;replace LW := LW.step E XLW;replace E := erx (No) w;replace HF := HF.and (Per.fnA hF (fun _ h => h.elim))
 replace HF := HF.on E;replace LW := LW.step E XLW;replace E := erx (No) w;replace HF := HF.and (Per.tabs hT (fun _ h => h.elim));replace HF := HF.on E;replace LW := LW.step E XLW;replace E := erx (No) w;replace HF := HF.and (Per.cellA hE (fun _ h => h.elim));refine srx (za rfl (vq rfl ?_));intro gb1 w2 Bb1 Eb1 Gb1;have Gb1 : _ ≤ gb1 := Nat.le_trans E.size Gb1
 have GLb1 := Nat.le_trans LW.size Gb1;replace E := E.trans Eb1.no;replace HF := HF.cons (yb Gb1);replace E := E.cons (some gb1);replace XLW := Mut.grow XLW (fun k e => Or.inr (Nat.le_trans LW.size ((yb Gb1) k e)));replace HF := HF.on E;replace LW := LW.step E XLW;have SB : ∀ q9, No q9 → Mut [(some gb1)] q9 := (Mut.skip Mut.nil_);replace HF := HF.less SB
 replace XLW := fun k h => XLW k (SB k h);clear SB;replace E := erx (No) w2;replace HF := HF.and (Per.blkN Bb1 NotIn.nil);refine anx rfl (zi (srx (za rfl (zb Tryz.underlying37 rfl sz3 (by decide) rfl (za rfl (zh Tryz.underlying3 rfl rfl (HF.on E).here.2 rfl (za rfl (yv rfl rfl (mvx rfl (yk 12 rfl (fun h1 => ?_) (fun h1 => ?_)))))))))))
 ·
  replace h1 := of_decide_eq_true h1
  refine za rfl (zc rfl (za rfl (zc rfl (za rfl (zc rfl (za rfl (zq rfl rfl (mvx rfl (za rfl (zc rfl (za rfl (zc rfl (za rfl (zc rfl (za rfl (zq rfl rfl (mvx rfl (za rfl (zc rfl (za rfl (zc rfl (za rfl (zc rfl (za rfl (zc rfl (za rfl (zc rfl (za rfl (zq rfl rfl (mvx rfl (za rfl (zc rfl (za rfl (zc rfl (za rfl (zc rfl (za rfl (zq rfl rfl (mvx rfl (za rfl (zc rfl (za rfl (zc rfl (za rfl (zc rfl (za rfl (zq rfl rfl (mvx rfl (za rfl (zc rfl (za rfl (zc rfl (za rfl (zc rfl (za rfl (zc rfl (za rfl (zq rfl rfl (rnx (yg rfl (srx (anx rfl ?_))))))))))))))))))))))))))))))))))))))))))))))))))))))))))))))
  refine zo (zd (zm (rs := [.tmp 4]) (vs := [_]) rfl ⟨rfl, trivial⟩ ?_));exact ⟨by rw [jv (by unfold gy; omega)]; rfl, (LW.step E XLW).toBelow⟩
 replace h1 := of_decide_eq_false h1;refine onx rfl (zb Tryz.underlying37 rfl sz3 (by decide) rfl (onx rfl (zh Tryz.underlying3 rfl rfl (HF.on E).here.2 rfl (onx rfl (qe rfl rfl (za rfl (zx rfl rfl (mvx rfl (yk 17 rfl (fun h2 => ?_) (fun h2 => ?_))))))))))
 ·
  replace h2 := of_decide_eq_true h2
  refine za rfl (zc rfl (za rfl (zc rfl (za rfl (zc rfl (za rfl (zq rfl rfl (mvx rfl (za rfl (zc rfl (za rfl (zc rfl (za rfl (zc rfl (za rfl (zc rfl (za rfl (zc rfl (za rfl (zq rfl rfl (mvx rfl (za rfl (zc rfl (za rfl (zc rfl (za rfl (zc rfl (za rfl (zq rfl rfl (mvx rfl (za rfl (zc rfl (za rfl (zc rfl (za rfl (zc rfl (za rfl (zq rfl rfl (mvx rfl (za rfl (zc rfl (za rfl (zc rfl (za rfl (zc rfl (za rfl (zc rfl (za rfl (zq rfl rfl (rnx (yg rfl (srx (anx rfl (zo (zd (zm (rs := [.tmp 4]) (vs := [_]) rfl ⟨rfl, trivial⟩ ?_))))))))))))))))))))))))))))))))))))))))))))))))))))))))
  exact ⟨by rw [jv (by unfold gy; omega)]; rfl, (LW.step E XLW).toBelow⟩
 replace h2 := of_decide_eq_false h2;refine onx rfl (zb Tryz.underlying37 rfl sz3 (by decide) rfl (onx rfl (zh Tryz.underlying3 rfl rfl (HF.on E).here.2 rfl (onx rfl (yv rfl rfl (za rfl (zx rfl rfl (mvx rfl (yk 22 rfl (fun h3 => ?_) (fun h3 => ?_))))))))))
 ·
  replace h3 := of_decide_eq_true h3
  refine za rfl (zc rfl (za rfl (zc rfl (za rfl (zc rfl (za rfl (zc rfl (za rfl (zc rfl (za rfl (zq rfl rfl (mvx rfl (za rfl (zc rfl (za rfl (zc rfl (za rfl (zc rfl (za rfl (zq rfl rfl (mvx rfl (za rfl (zc rfl (za rfl (zc rfl (za rfl (zc rfl (za rfl (zq rfl rfl (mvx rfl (za rfl (zc rfl (za rfl (zc rfl (za rfl (zc rfl (za rfl (zc rfl (za rfl (zq rfl rfl (rnx (yg rfl (srx (anx rfl (zo (zd (zm (rs := [.tmp 4]) (vs := [_]) rfl ⟨rfl, trivial⟩ ?_)))))))))))))))))))))))))))))))))))))))))))))))
  exact ⟨by rw [jv (by unfold gy; omega)]; rfl, (LW.step E XLW).toBelow⟩
 replace h3 := of_decide_eq_false h3
 refine onx rfl (zb Tryz.underlying37 rfl sz3 (by decide) rfl (onx rfl (zh Tryz.underlying3 rfl rfl (HF.on E).here.2 rfl (onx rfl (zb Tryz.underlying37 rfl sz3 (by decide) rfl (onx rfl (zh Tryz.underlying3 rfl rfl (HF.on E).here.2 rfl (onx rfl (qe rfl rfl (za rfl (zx rfl rfl (mvx rfl (yk 29 rfl (fun h4 => ?_) (fun h4 => ?_))))))))))))))
 ·
  replace h4 := of_decide_eq_true h4
  refine za rfl (zc rfl (za rfl (zc rfl (za rfl (zc rfl (za rfl (zq rfl rfl (mvx rfl (za rfl (zc rfl (za rfl (zc rfl (za rfl (zc rfl (za rfl (zq rfl rfl (mvx rfl (za rfl (zc rfl (za rfl (zc rfl (za rfl (zc rfl (za rfl (zc rfl (za rfl (zq rfl rfl (rnx (yg rfl (srx (anx rfl (zo (zd (zm (rs := [.tmp 4]) (vs := [_]) rfl ⟨rfl, trivial⟩ ?_))))))))))))))))))))))))))))))))))
  exact ⟨by rw [jv (by unfold gy; omega)]; rfl, (LW.step E XLW).toBelow⟩
 replace h4 := of_decide_eq_false h4;refine onx rfl (zb Tryz.underlying37 rfl sz3 (by decide) rfl (onx rfl (zh Tryz.underlying3 rfl rfl (HF.on E).here.2 rfl (onx rfl (yv rfl rfl (za rfl (zx rfl rfl (mvx rfl (yk 34 rfl (fun h5 => ?_) (fun h5 => ?_))))))))))
 ·
  replace h5 := of_decide_eq_true h5
  refine za rfl (zc rfl (za rfl (zc rfl (za rfl (zc rfl (za rfl (zq rfl rfl (mvx rfl (za rfl (zc rfl (za rfl (zc rfl (za rfl (zc rfl (za rfl (zc rfl (za rfl (zq rfl rfl (rnx (yg rfl (srx (anx rfl (zo (zd (zm (rs := [.tmp 4]) (vs := [_]) rfl ⟨rfl, trivial⟩ ?_)))))))))))))))))))))))))
  exact ⟨by rw [jv (by unfold gy; omega)]; rfl, (LW.step E XLW).toBelow⟩
 replace h5 := of_decide_eq_false h5;refine onx rfl (zb Tryz.underlying37 rfl sz3 (by decide) rfl (onx rfl (zh Tryz.underlying3 rfl rfl (HF.on E).here.2 rfl (onx rfl (yv rfl rfl (za rfl (zx rfl rfl (mvx rfl (yk 39 rfl (fun h6 => ?_) (fun h6 => ?_))))))))))
 ·
  replace h6 := of_decide_eq_true h6;refine za rfl (zc rfl (za rfl (zc rfl (za rfl (zc rfl (za rfl (zc rfl (za rfl (zq rfl rfl (rnx (yg rfl (srx (anx rfl (zo (zd (zm (rs := [.tmp 4]) (vs := [_]) rfl ⟨rfl, trivial⟩ ?_))))))))))))))));exact ⟨by rw [jv (by unfold gy; omega)]; rfl, (LW.step E XLW).toBelow⟩
 replace h6 := of_decide_eq_false h6;refine onx rfl (zb Tryz.underlying37 rfl sz34 (by decide) rfl (onx rfl (zh Tryz.underlying34 rfl rfl (HF.on E).here.2 rfl (onx rfl (qr Tryz.underlying34 rfl (onx rfl (zz rfl rfl (za rfl (zx rfl rfl (rnx (zt rfl (fun h7 => ?_) (fun h7 => ?_))))))))))))
 ·
  refine zp 44 (.bool true) rfl (congrArg Value.bool h7) ?_;replace h7 := eq_of_beq h7;refine srx (anx rfl (zo (zd (zm (rs := [.tmp 4]) (vs := [_]) rfl ⟨rfl, trivial⟩ ?_))));exact ⟨by rw [jv (by unfold gy; omega)]; rfl, (LW.step E XLW).toBelow⟩
 refine zp 44 (.bool false) rfl (congrArg Value.bool h7) ?_;replace h7 := beq_eq_false_iff_ne.1 h7
 refine zn (ze (zi (srx (za rfl (zb Tryz.underlying37 rfl sz9 (by decide) rfl (za rfl (zh Tryz.underlying9 rfl rfl (HF.on E).here.2 rfl (za rfl (vb (cs := #[.string f.name]) Tryz.underlying32 sz9 zr9 (by decide) rfl (by rw [vz]; rfl) ?_)))))))));intro gb3 w4 Bb3 Eb3 Gb3;have Gb3 : _ ≤ gb3 := Nat.le_trans E.size Gb3
 have GLb3 := Nat.le_trans LW.size Gb3;replace E := E.trans Eb3.no;replace HF := HF.cons (yb Gb3);replace E := E.cons (some gb3);replace XLW := Mut.grow XLW (fun k e => Or.inr (Nat.le_trans LW.size ((yb Gb3) k e)));replace HF := HF.on E;replace LW := LW.step E XLW;have SB : ∀ q9, No q9 → Mut [(some gb3)] q9 := (Mut.skip Mut.nil_);replace HF := HF.less SB
 replace XLW := fun k h => XLW k (SB k h);clear SB;replace E := erx (No) w4;replace HF := HF.and (Per.blkN Bb3 NotIn.nil);refine za rfl (zb Tryz.underlying37 rfl sz32 (by decide) rfl (za rfl (zh Tryz.underlying32 rfl rfl (HF.on E).here.1.2 rfl ?_)));have hN : gy f := by unfold gy; omega
 have hFn := (HF.on E).here.1.1.1.1.2;have hTn := (HF.on E).here.1.1.1.2;have hEn := (HF.on E).here.1.1.2;have Bf := (HF.on E).here.1.2;have Bx := (HF.on E).here.2;have hL0 : Ext No w w4 := (LW.step E XLW)
 have O1 : w4.ownsRow w.heap.size 9 1 (.slice (some ⟨gb3, 0, none⟩) 1 1) 1 (zlq [f.name]) := ⟨by simp [zlq], Or.inr ⟨gb3, 1, _, rfl, GLb3, Bx, Nat.le_refl _, by unfold maxLen; omega, by simp, by simp [zlq]⟩⟩
 refine za rfl (ow_appendS (n' := 1 + f.names.length) (xs' := zlq (f.name :: f.names)) Tryz.underlying32 inf9 rfl (by decide) rfl O1 rfl (hFn.names.readsV (Nat.le_refl _)) (fun u hu => by obtain ⟨x, _, rfl⟩ := List.mem_map.1 hu; rfl) rfl (by unfold zlq; rfl) (by unfold maxLen; omega) (by omega) hL0.size ?_);rintro A6 c6 wX O2 E2 N2
 have hLX : Ext No w wX := hL0.step E2 (fun q hq => Or.inr (own_ge O1 q hq));have hrow0 : StrRow wX.heap.size wX A6 (f.name :: f.names) := strRow_owns O2 (by rw [List.length_cons, Nat.add_comm]);have b1 := blk_other Bf O1 (by decide) E2;have hFX := hF.low (X := No) ⟨hLX, fun _ h => h.elim⟩;have hTX := (Per.tabs hT (X := No) (fun _ h => h.elim)) _ hLX
 have hEX := (Per.cellA hE (X := No) (fun _ h => h.elim)) _ hLX;have R_b1 := b1;have LWn : Ext No w wX := hLX;clear HF E LW XLW;have HF : Per (No) wX (fun _ => True) := Per.true_;have LW := LWn;clear LWn;have XLW : Gro (No) (No) w := Mut.none_;have E := erx (No) wX;replace HF := HF.on E;replace LW := LW.step E XLW;replace E := erx (No) wX;replace HF := HF.and (Per.blk R_b1 (fun h => h.elim))
 replace HF := HF.on E;replace LW := LW.step E XLW;replace E := erx (No) wX;replace HF := HF.and (Per.fnA hFX (fun _ h => h.elim));replace HF := HF.on E;replace LW := LW.step E XLW;replace E := erx (No) wX;replace HF := HF.and (Per.tabs hTX (fun _ h => h.elim));replace HF := HF.on E;replace LW := LW.step E XLW;replace E := erx (No) wX;replace HF := HF.and (Per.cellA hEX (fun _ h => h.elim))
 replace HF := HF.on E;replace LW := LW.step E XLW;replace E := erx (No) wX;replace HF := HF.and (Per.strRow hrow0 (fun _ h => h.elim));refine za rfl (qr Tryz.underlying32 rfl (mvx rfl (rnx (yc ?_))));replace HF := HF.on E;replace LW := LW.step E XLW;replace E := erx (No) wX
 refine qm (ι := Nat) (fun k => [(1, .int .i64 ((n : Nat) : Int)), (2, .pointer (some ⟨gb1, 0, none⟩)), (50, .slice A6 (1 + f.names.length) c6), (51, .int .i64 ((1 + f.names.length : Nat) : Int)), (52, .int .i64 ((k : Nat) : Int))]) (fun k w' => Ext (No) wX w' ∧ (k ≤ 1 + f.names.length ∧ ((f.name :: f.names).take k).all strC = true)) (fun k => 1 + f.names.length - k) 0 ⟨rfl, rfl, rfl, rfl, rfl, trivial⟩ ⟨Ext.refl _ _, ⟨Nat.zero_le _, by rw [List.take_zero]; rfl⟩⟩ ?_
 rintro k w6 ⟨M5, ⟨hk, hall⟩⟩;have XM5 := grx (No) wX;replace E := E.trans M5;replace HF := HF.on E;replace LW := LW.step E XLW;replace E := erx (No) w6;refine srx (za rfl (yv rfl rfl (rnx (zi (zt rfl (fun q => ?_) (fun q => ?_))))))
 ·
  have q := of_decide_eq_true q;have hlt : k < (f.name :: f.names).length := by rw [List.length_cons]; omega
  obtain ⟨y, hy⟩ : ∃ y, (f.name :: f.names)[k]? = some y := ⟨_, List.getElem?_eq_getElem hlt⟩;obtain ⟨g, o, hB, hg, hc⟩ := ((HF.on E).here.2).cell hy
  refine zn (ze (zi (yc (srx (za rfl (vu (j := k) Tryz.underlying32 sz9 (congrArg (fun z ↦ some (Value.slice z (1 + f.names.length) c6)) hB) rfl rfl (by omega) (za rfl (yx Tryz.underlying9 rfl rfl hc (anx rfl (srx (mvx rfl (za rfl (yz Tryz.underlying9 rfl (za rfl (qe rfl rfl (rnx ?_))))))))))))))));by_cases hin : y.size ≤ 20000
  ·
   refine zp 58 (.bool false) rfl ((by rw [decide_eq_false (by omega)] : (.bool (decide (20000 < ((y.size : Nat) : Int))) : Value) = _)) (ye rfl (zn (zf (ze (zg (za rfl (yp rfl rfl (zw (by omega)) (mvx rfl (yd ?_)))))))))
   exact yr (k + 1) (by show 1 + f.names.length - (k + 1) < 1 + f.names.length - k; omega) ⟨rfl, rfl, rfl, rfl, rfl, trivial⟩ ⟨M5.step E XM5, ⟨by omega, gh hy hall (decide_eq_true hin)⟩⟩
  ·
   refine zp 58 (.bool true) rfl ((by rw [decide_eq_true (by omega)] : (.bool (decide (20000 < ((y.size : Nat) : Int))) : Value) = _)) (yg rfl (srx (anx rfl (zo (zj (zd (zd (zj (zd (zm (rs := [.tmp 4]) (vs := [_]) rfl ⟨rfl, trivial⟩ ?_))))))))));exact ⟨by rw [xy hy (decide_eq_false hin)]; rfl, (LW.step E XLW).toBelow⟩
 ·
  have q := of_decide_eq_false q;have hall2 := kh hall (by rw [List.length_cons]; omega)
  refine yw (zl (zl (zy (ze (zi (srx (za rfl (zb Tryz.underlying37 rfl sz33 (by decide) rfl (za rfl (zh Tryz.underlying33 rfl rfl (HF.on E).here.1.1.1.1.2 rfl (za rfl (qr Tryz.underlying33 rfl (mvx rfl (rnx (yc ?_)))))))))))))));replace HF := HF.on E;replace LW := LW.step E XLW;replace E := erx (No) w6
  refine qm (ι := Nat) (fun k => [(1, .int .i64 ((n : Nat) : Int)), (2, .pointer (some ⟨gb1, 0, none⟩)), (61, .slice p.ac f.consts.length p.cc), (62, .int .i64 ((f.consts.length : Nat) : Int)), (63, .int .i64 ((k : Nat) : Int))]) (fun k w' => Ext (No) w6 w' ∧ (k ≤ f.consts.length ∧ (f.consts.take k).all kf = true)) (fun k => f.consts.length - k) 0 ⟨rfl, rfl, rfl, rfl, rfl, trivial⟩ ⟨Ext.refl _ _, ⟨Nat.zero_le _, by rw [List.take_zero]; rfl⟩⟩ ?_
  rintro k w8 ⟨M7, ⟨hk2, hall3⟩⟩;have XM7 := grx (No) w6;replace E := E.trans M7;replace HF := HF.on E;replace LW := LW.step E XLW;replace E := erx (No) w8;refine srx (za rfl (yv rfl rfl (rnx (zi (zt rfl (fun q2 => ?_) (fun q2 => ?_))))))
  ·
   have q2 := of_decide_eq_true q2;have hlt : k < f.consts.length := by omega
   obtain ⟨y, hy⟩ : ∃ y, f.consts[k]? = some y := ⟨_, List.getElem?_eq_getElem hlt⟩;obtain ⟨g, o, hB, hg, hc⟩ := ((HF.on E).here.1.1.1.2).consts.at hy
   refine zn (ze (zi (yc (srx (za rfl (qq (j := k) Tryz.underlying33 sz50 (congrArg (fun z ↦ some (Value.slice z f.consts.length p.cc)) hB) rfl rfl hlt (za rfl (xk (cs := #[.int .i64 y.1, .string y.2]) Tryz.underlying50 rfl sz50 rfl rfl (fun j v hj ↦ hc j v (by simpa using hj)) (za rfl (qo zr50 ?_))))))))));intro gb9 w10 Bb9 Eb9 Gb9
   have Gb9 : _ ≤ gb9 := Nat.le_trans E.size Gb9;have GLb9 := Nat.le_trans LW.size Gb9;replace E := E.trans Eb9.no;replace HF := HF.cons (yb Gb9);replace E := E.cons (some gb9);replace XLW := Mut.grow XLW (fun k e => Or.inr (Nat.le_trans LW.size ((yb Gb9) k e)));replace XM7 := Mut.grow XM7 (fun k e => Or.inr (Nat.le_trans M7.size ((yb Gb9) k e)))
   refine ya (gz sz50 rfl rfl Bb9 rfl rfl rfl ?_);intro w11 Bx Eb9;replace Bb9 : Blk w11 gb9 50 #[.int .i64 y.1, .string y.2] := Bx;replace E := E.step1 Eb9 Mut.head
   refine rnx (srx (za rfl (yf Tryz.underlying50 rfl sz50 rfl Bb9 rfl (za rfl (yh en15 rfl ((const_any _ y.1 y.2 (hs y (List.mem_of_getElem? hy)) (HF.on E).here.1.1.2 ⟨te, pe, (HF.on E).here.1.2⟩).mono ?_))))));rintro e w12 ⟨rfl, hb⟩;refine ⟨_, rfl, ?_⟩;have Ec := Ext.of_below hb No;replace Bb9 := Bb9.extN Ec NotIn.nil;replace E := E.trans Ec.no
   refine za rfl (vd rfl (rnx ?_));by_cases hin : kf y = true
   ·
    refine zp 69 (.bool false) rfl ((by rw [show kf (y.1, y.2) = true from hin]; rfl : (.bool (!(kf (y.1, y.2))) : Value) = _)) (ye rfl (zn (zf (ze (zg (za rfl (yp rfl rfl (zw (by omega)) (mvx rfl (yd ?_)))))))))
    exact yr (k + 1) (by show f.consts.length - (k + 1) < f.consts.length - k; omega) ⟨rfl, rfl, rfl, rfl, rfl, trivial⟩ ⟨M7.step E XM7, ⟨by omega, gh hy hall3 hin⟩⟩
   ·
    have hin := Bool.eq_false_iff.2 hin;refine zp 69 (.bool true) rfl ((by rw [show kf (y.1, y.2) = false from hin]; rfl : (.bool (!(kf (y.1, y.2))) : Value) = _)) (yg rfl (srx (anx rfl (zo (zj (zd (zd (zj (zd (zm (rs := [.tmp 4]) (vs := [_]) rfl ⟨rfl, trivial⟩ ?_))))))))))
    exact ⟨by rw [ydv hy hin]; rfl, (LW.step E XLW).toBelow⟩
  ·
   have q2 := of_decide_eq_false q2;have hall4 := kh hall3 (by omega);refine yw (zl (zl (zy (ze (srx (mvx rfl (za rfl (qe rfl rfl (mvx rfl (yk 73 rfl (fun t1 => ?_) (fun t1 => ?_)))))))))))
   ·
    replace t1 := of_decide_eq_true t1
    refine za rfl (zc rfl (za rfl (zc rfl (za rfl (zc rfl (za rfl (zc rfl (za rfl (qj rfl rfl (za rfl (qj rfl rfl (za rfl (qj rfl rfl (za rfl (zc rfl (za rfl (zc rfl (za rfl (qj rfl rfl (za rfl (qj rfl rfl (za rfl (qj rfl rfl (za rfl (zc rfl (za rfl (zq rfl rfl (anx rfl (zo (zm (rs := [.tmp 4]) (vs := [_]) rfl ⟨rfl, trivial⟩ ?_))))))))))))))))))))))))))))))
    exact ⟨by rw [zjz hN hall2 hall4]; refine congrArg (fun z => Ending.returned (.bool z)) ?_; clear hF hs hT hFX hTX hall2 hall4 hall3 hall HF E LW; first | rfl | (simp_all [kd]; done) | (simp_all [kd]; omega) | (simp_all [kd]; rfl), (LW.step E XLW).toBelow⟩
   ·
    replace t1 := of_decide_eq_false t1;refine onx rfl (zb Tryz.underlying37 rfl sz3 (by decide) rfl (onx rfl (zh Tryz.underlying3 rfl rfl (HF.on E).here.1.1.1.1.2 rfl (onx rfl (zz rfl rfl (onx rfl (zv rfl (yk 77 rfl (fun t2 => ?_) (fun t2 => ?_)))))))))
    ·
     replace t2 := eq_of_beq t2;refine onx rfl (zb Tryz.underlying37 rfl sz3 (by decide) rfl (onx rfl (zh Tryz.underlying3 rfl rfl (HF.on E).here.1.1.1.1.2 rfl (onx rfl (zz rfl rfl (onx rfl (zq rfl rfl (onx rfl (zv rfl (yk 82 rfl (fun t3 => ?_) (fun t3 => ?_)))))))))))
     ·
      replace t3 := eq_of_beq t3;refine onx rfl (zb Tryz.underlying37 rfl sz4 (by decide) rfl (onx rfl (zh Tryz.underlying4 rfl rfl (HF.on E).here.1.1.1.1.2 rfl (onx rfl (vd rfl (onx rfl (zq rfl rfl (za rfl (zx rfl rfl (anx rfl (zo (zm (rs := [.tmp 4]) (vs := [_]) rfl ⟨rfl, trivial⟩ ?_))))))))))))
      exact ⟨by rw [zjz hN hall2 hall4]; refine congrArg (fun z => Ending.returned (.bool z)) ?_; clear hF hs hT hFX hTX hall2 hall4 hall3 hall HF E LW; first | rfl | (simp_all [kd]; done) | (simp_all [kd]; omega) | (simp_all [kd]; rfl), (LW.step E XLW).toBelow⟩
     ·
      replace t3 := beq_eq_false_iff_ne.1 t3;refine za rfl (zc rfl (za rfl (zc rfl (za rfl (zc rfl (onx rfl (zx rfl rfl (za rfl (zx rfl rfl (anx rfl (zo (zm (rs := [.tmp 4]) (vs := [_]) rfl ⟨rfl, trivial⟩ ?_))))))))))))
      exact ⟨by rw [zjz hN hall2 hall4]; refine congrArg (fun z => Ending.returned (.bool z)) ?_; clear hF hs hT hFX hTX hall2 hall4 hall3 hall HF E LW; first | rfl | (simp_all [kd]; done) | (simp_all [kd]; omega) | (simp_all [kd]; rfl), (LW.step E XLW).toBelow⟩
    ·
     replace t2 := beq_eq_false_iff_ne.1 t2;refine za rfl (zc rfl (za rfl (zc rfl (za rfl (zc rfl (onx rfl (zx rfl rfl (onx rfl (zv rfl (za rfl (zc rfl (za rfl (zc rfl (za rfl (zc rfl (onx rfl (zx rfl rfl (za rfl (zx rfl rfl (anx rfl (zo (zm (rs := [.tmp 4]) (vs := [_]) rfl ⟨rfl, trivial⟩ ?_))))))))))))))))))))))
     exact ⟨by rw [zjz hN hall2 hall4]; refine congrArg (fun z => Ending.returned (.bool z)) ?_; clear hF hs hT hFX hTX hall2 hall4 hall3 hall HF E LW; first | rfl | (simp_all [kd]; done) | (simp_all [kd]; omega) | (simp_all [kd]; rfl), (LW.step E XLW).toBelow⟩
end
end Go.Proofs.YtmjemknimipnjaaGreatDoor
namespace Go.Proofs.YtmjemknimipnjaaGreatDoor
open Go.RowKit
set_option maxRecDepth 100000
attribute [local irreducible] OW RS
theorem jt {f : LFn} {n : Nat} (h : kd f n = false) : gg f n = false := by rw [zaq, h, Bool.and_false, Bool.and_false, Bool.and_false]
theorem headC_all {f : LFn} {n : Nat} (h : gy f) (h0 : kd f n = true) (h1 : f.name.size ≤ 20000) (h2 : f.names.all strC = true) (h3 : f.consts.all kf = true) : gg f n = true := by rw [zaq, decide_eq_true h, h0, h3, List.all_cons, h2, show strC f.name = true from decide_eq_true h1]; rfl
theorem headC_nm {f : LFn} {n k : Nat} {s : ByteArray} (h : f.names[k]? = some s) (hs : strC s = false) : gg f n = false := xy (k := k + 1) (by simpa using h) hs
theorem gx {f : LFn} {n : Nat} (h0 : n = 0) (h : f.params ≠ 0 ∨ f.frees ≠ 0 ∨ f.gen = true) : kd f n = false := by
 unfold kd;rw [decide_eq_false (by omega), Bool.false_or];rcases h with h | h | h
 · rw [decide_eq_false h]; rfl
 · rw [decide_eq_false h, Bool.false_and, Bool.and_false]
 · rw [h, Bool.not_true, Bool.and_false, Bool.and_false]
theorem lastC_yes {f : LFn} {n : Nat} (h : n ≠ 0 ∨ (f.params = 0 ∧ f.frees = 0 ∧ f.gen = false)) : kd f n = true := by
 unfold kd;rcases h with h | ⟨h1, h2, h3⟩
 · rw [decide_eq_true (by omega)]; rfl
 · rw [decide_eq_true h1, decide_eq_true h2, h3]; simp
theorem StrsA.cell {n : Nat} {w : World} {A : Option Addr} {xs : List ByteArray} (h : StrsA n w A xs) {j : Nat} {x : ByteArray} (hj : xs[j]? = some x) : ∃ g o, A = some ⟨g, o, none⟩ ∧ g < n ∧ w.cell? ⟨g, o + j, none⟩ = some (.string x) := by
 obtain ⟨g, o, e, hg, hc⟩ := h.row.at hj;exact ⟨g, o, e, hg, by rwa [Nat.mul_one] at hc⟩
def rgN (f : LFn) (r : LReg) : Prop := 0 ≤ r.fr ∧ r.fr ≤ r.to ∧ r.to ≤ (f.ins.length : Int) ∧ 0 ≤ r.tg ∧ r.tg < (f.ins.length : Int) ∧ 0 ≤ r.d ∧ r.d < f.regs
theorem rgC_yes {f : LFn} {r : LReg} (h : rgN f r) : rgC f r = true := by
 obtain ⟨h1, h2, h3, h4, h5, h6, h7⟩ := h;rw [rgC_eq, decide_eq_true h1, decide_eq_true h2, decide_eq_true h3, decide_eq_true h4, decide_eq_true h5, decide_eq_true h6, decide_eq_true h7]; rfl
theorem oh {f : LFn} {r : LReg} (h : ¬ rgN f r) : rgC f r = false := by
 rw [rgC_eq, Bool.eq_false_iff];intro h2;simp only [Bool.and_eq_true, decide_eq_true_eq] at h2
 exact h ⟨h2.1, h2.2.1, h2.2.2.1, h2.2.2.2.1.1, h2.2.2.2.1.2, h2.2.2.2.2.1, h2.2.2.2.2.2⟩
section
variable (w : World) {bp op cp bf of cf bl ol cl : Nat} (p : Pl) (f : LFn) (n0 n : Nat) (hF : FnA n0 w p f) (hs : ∀ c ∈ f.consts, c.2.size ≤ 140737488355328) (hT : Tabs bp op cp bf of cf bl ol cl w) (hE : ∃ te pe, w.cell? ⟨2, 0, none⟩ = some (.iface te pe))
include hF hs hT hE
set_option maxHeartbeats 1000000 in
theorem rhead_any : Calls Tryz.prog 10 #[fnV p f, .int .i64 ((n : Nat) : Int)] w fun e w' => e = .returned (.bool (gg f n)) ∧ Below w.heap.size w w' := by
 obtain ⟨te, pe, hE⟩ := hE;have hnl := hF.names.len;have hcl := hF.consts.len;have hsz := hF.size;refine yn Tryz.func10 rfl Tryz.ntmps10 rfl ?_;have HF : Per (No) w (fun _ => True) := Per.true_;have LW := erx (No) w;have XLW := grx (No) w;have E := erx (No) w;replace HF := HF.on E;replace LW := LW.step E XLW;replace E := erx (No) w;replace HF := HF.and (Per.fnA hF (fun _ h => h.elim))
 replace HF := HF.on E;replace LW := LW.step E XLW;replace E := erx (No) w;replace HF := HF.and (Per.tabs hT (fun _ h => h.elim));replace HF := HF.on E;replace LW := LW.step E XLW;replace E := erx (No) w;replace HF := HF.and (Per.cellA hE (fun _ h => h.elim));refine srx (za rfl (vq rfl ?_));intro gb1 w2 Bb1 Eb1 Gb1;have Gb1 : _ ≤ gb1 := Nat.le_trans E.size Gb1
 have GLb1 := Nat.le_trans LW.size Gb1;replace E := E.trans Eb1.no;replace HF := HF.cons (yb Gb1);replace E := E.cons (some gb1);replace XLW := Mut.grow XLW (fun k e => Or.inr (Nat.le_trans LW.size ((yb Gb1) k e)));replace HF := HF.on E;replace LW := LW.step E XLW;have SB : ∀ q9, No q9 → Mut [(some gb1)] q9 := (Mut.skip Mut.nil_);replace HF := HF.less SB
 replace XLW := fun k h => XLW k (SB k h);clear SB;replace E := erx (No) w2;replace HF := HF.and (Per.blkN Bb1 NotIn.nil);refine anx rfl (zi (srx (za rfl (zb Tryz.underlying37 rfl sz3 (by decide) rfl (za rfl (zh Tryz.underlying3 rfl rfl (HF.on E).here.2 rfl (za rfl (yv rfl rfl (mvx rfl (yk 10 rfl (fun h1 => ?_) (fun h1 => ?_)))))))))))
 ·
  replace h1 := of_decide_eq_true h1
  refine za rfl (zc rfl (za rfl (zc rfl (za rfl (zc rfl (za rfl (zq rfl rfl (mvx rfl (za rfl (zc rfl (za rfl (zc rfl (za rfl (zc rfl (za rfl (zq rfl rfl (mvx rfl (za rfl (zc rfl (za rfl (zc rfl (za rfl (zc rfl (za rfl (zc rfl (za rfl (zc rfl (za rfl (zq rfl rfl (mvx rfl (za rfl (zc rfl (za rfl (zc rfl (za rfl (zc rfl (za rfl (zq rfl rfl (mvx rfl (za rfl (zc rfl (za rfl (zc rfl (za rfl (zc rfl (za rfl (zq rfl rfl (mvx rfl (za rfl (zc rfl (za rfl (zc rfl (za rfl (zc rfl (za rfl (zc rfl (za rfl (zq rfl rfl (rnx (yg rfl (srx (anx rfl ?_))))))))))))))))))))))))))))))))))))))))))))))))))))))))))))))
  refine zo (zd (zm (rs := [.tmp 4]) (vs := [_]) rfl ⟨rfl, trivial⟩ ?_));exact ⟨by rw [jv (by unfold gy; omega)]; rfl, (LW.step E XLW).toBelow⟩
 replace h1 := of_decide_eq_false h1;refine onx rfl (zb Tryz.underlying37 rfl sz3 (by decide) rfl (onx rfl (zh Tryz.underlying3 rfl rfl (HF.on E).here.2 rfl (onx rfl (qe rfl rfl (za rfl (zx rfl rfl (mvx rfl (yk 15 rfl (fun h2 => ?_) (fun h2 => ?_))))))))))
 ·
  replace h2 := of_decide_eq_true h2
  refine za rfl (zc rfl (za rfl (zc rfl (za rfl (zc rfl (za rfl (zq rfl rfl (mvx rfl (za rfl (zc rfl (za rfl (zc rfl (za rfl (zc rfl (za rfl (zc rfl (za rfl (zc rfl (za rfl (zq rfl rfl (mvx rfl (za rfl (zc rfl (za rfl (zc rfl (za rfl (zc rfl (za rfl (zq rfl rfl (mvx rfl (za rfl (zc rfl (za rfl (zc rfl (za rfl (zc rfl (za rfl (zq rfl rfl (mvx rfl (za rfl (zc rfl (za rfl (zc rfl (za rfl (zc rfl (za rfl (zc rfl (za rfl (zq rfl rfl (rnx (yg rfl (srx (anx rfl (zo (zd (zm (rs := [.tmp 4]) (vs := [_]) rfl ⟨rfl, trivial⟩ ?_))))))))))))))))))))))))))))))))))))))))))))))))))))))))
  exact ⟨by rw [jv (by unfold gy; omega)]; rfl, (LW.step E XLW).toBelow⟩
 replace h2 := of_decide_eq_false h2;refine onx rfl (zb Tryz.underlying37 rfl sz3 (by decide) rfl (onx rfl (zh Tryz.underlying3 rfl rfl (HF.on E).here.2 rfl (onx rfl (yv rfl rfl (za rfl (zx rfl rfl (mvx rfl (yk 20 rfl (fun h3 => ?_) (fun h3 => ?_))))))))))
 ·
  replace h3 := of_decide_eq_true h3
  refine za rfl (zc rfl (za rfl (zc rfl (za rfl (zc rfl (za rfl (zc rfl (za rfl (zc rfl (za rfl (zq rfl rfl (mvx rfl (za rfl (zc rfl (za rfl (zc rfl (za rfl (zc rfl (za rfl (zq rfl rfl (mvx rfl (za rfl (zc rfl (za rfl (zc rfl (za rfl (zc rfl (za rfl (zq rfl rfl (mvx rfl (za rfl (zc rfl (za rfl (zc rfl (za rfl (zc rfl (za rfl (zc rfl (za rfl (zq rfl rfl (rnx (yg rfl (srx (anx rfl (zo (zd (zm (rs := [.tmp 4]) (vs := [_]) rfl ⟨rfl, trivial⟩ ?_)))))))))))))))))))))))))))))))))))))))))))))))
  exact ⟨by rw [jv (by unfold gy; omega)]; rfl, (LW.step E XLW).toBelow⟩
 replace h3 := of_decide_eq_false h3
 refine onx rfl (zb Tryz.underlying37 rfl sz3 (by decide) rfl (onx rfl (zh Tryz.underlying3 rfl rfl (HF.on E).here.2 rfl (onx rfl (zb Tryz.underlying37 rfl sz3 (by decide) rfl (onx rfl (zh Tryz.underlying3 rfl rfl (HF.on E).here.2 rfl (onx rfl (qe rfl rfl (za rfl (zx rfl rfl (mvx rfl (yk 27 rfl (fun h4 => ?_) (fun h4 => ?_))))))))))))))
 ·
  replace h4 := of_decide_eq_true h4
  refine za rfl (zc rfl (za rfl (zc rfl (za rfl (zc rfl (za rfl (zq rfl rfl (mvx rfl (za rfl (zc rfl (za rfl (zc rfl (za rfl (zc rfl (za rfl (zq rfl rfl (mvx rfl (za rfl (zc rfl (za rfl (zc rfl (za rfl (zc rfl (za rfl (zc rfl (za rfl (zq rfl rfl (rnx (yg rfl (srx (anx rfl (zo (zd (zm (rs := [.tmp 4]) (vs := [_]) rfl ⟨rfl, trivial⟩ ?_))))))))))))))))))))))))))))))))))
  exact ⟨by rw [jv (by unfold gy; omega)]; rfl, (LW.step E XLW).toBelow⟩
 replace h4 := of_decide_eq_false h4;refine onx rfl (zb Tryz.underlying37 rfl sz3 (by decide) rfl (onx rfl (zh Tryz.underlying3 rfl rfl (HF.on E).here.2 rfl (onx rfl (yv rfl rfl (za rfl (zx rfl rfl (mvx rfl (yk 32 rfl (fun h5 => ?_) (fun h5 => ?_))))))))))
 ·
  replace h5 := of_decide_eq_true h5
  refine za rfl (zc rfl (za rfl (zc rfl (za rfl (zc rfl (za rfl (zq rfl rfl (mvx rfl (za rfl (zc rfl (za rfl (zc rfl (za rfl (zc rfl (za rfl (zc rfl (za rfl (zq rfl rfl (rnx (yg rfl (srx (anx rfl (zo (zd (zm (rs := [.tmp 4]) (vs := [_]) rfl ⟨rfl, trivial⟩ ?_)))))))))))))))))))))))))
  exact ⟨by rw [jv (by unfold gy; omega)]; rfl, (LW.step E XLW).toBelow⟩
 replace h5 := of_decide_eq_false h5;refine onx rfl (zb Tryz.underlying37 rfl sz3 (by decide) rfl (onx rfl (zh Tryz.underlying3 rfl rfl (HF.on E).here.2 rfl (onx rfl (yv rfl rfl (za rfl (zx rfl rfl (mvx rfl (yk 37 rfl (fun h6 => ?_) (fun h6 => ?_))))))))))
 ·
  replace h6 := of_decide_eq_true h6;refine za rfl (zc rfl (za rfl (zc rfl (za rfl (zc rfl (za rfl (zc rfl (za rfl (zq rfl rfl (rnx (yg rfl (srx (anx rfl (zo (zd (zm (rs := [.tmp 4]) (vs := [_]) rfl ⟨rfl, trivial⟩ ?_))))))))))))))));exact ⟨by rw [jv (by unfold gy; omega)]; rfl, (LW.step E XLW).toBelow⟩
 replace h6 := of_decide_eq_false h6;refine onx rfl (zb Tryz.underlying37 rfl sz34 (by decide) rfl (onx rfl (zh Tryz.underlying34 rfl rfl (HF.on E).here.2 rfl (onx rfl (qr Tryz.underlying34 rfl (onx rfl (zz rfl rfl (za rfl (zx rfl rfl (rnx ?_))))))))));by_cases h7 : f.ins.length = 0
 ·
  refine zp 42 (.bool true) rfl ((by rw [h7]; rfl : (.bool ((((f.ins.length : Nat)) : Int) == 0) : Value) = _)) (yg rfl (srx (anx rfl (zo (zd (zm (rs := [.tmp 4]) (vs := [_]) rfl ⟨rfl, trivial⟩ ?_))))));exact ⟨by rw [jv (by unfold gy; omega)]; rfl, (LW.step E XLW).toBelow⟩
 ·
  refine zp 42 (.bool false) rfl ((by congr 1; rw [beq_eq_false_iff_ne]; omega : (.bool ((((f.ins.length : Nat)) : Int) == 0) : Value) = _)) ?_;have hN : gy f := by unfold gy; omega
  refine ye rfl (zn (ze (zi (srx (mvx rfl (za rfl (zz rfl rfl (mvx rfl ?_))))))));by_cases hz : n = 0
  ·
   refine yi 45 (.bool true) rfl ((by rw [hz]; rfl : (.bool (((n : Nat) : Int) == 0) : Value) = _)) (onx rfl (zb Tryz.underlying37 rfl sz3 (by decide) rfl (onx rfl (zh Tryz.underlying3 rfl rfl (HF.on E).here.2 rfl (onx rfl (qw rfl rfl (onx rfl (zv rfl (yk 49 rfl (fun h1 => ?_) (fun h1 => ?_))))))))))
   ·
    refine za rfl (zc rfl (za rfl (zc rfl (za rfl (zc rfl (onx rfl (zq rfl rfl (onx rfl (zv rfl (za rfl (zc rfl (za rfl (zc rfl (onx rfl (zq rfl rfl (za rfl (zq rfl rfl (rnx (yg rfl (srx (anx rfl (zo (zd (zm (rs := [.tmp 4]) (vs := [_]) rfl ⟨rfl, trivial⟩ ?_))))))))))))))))))))))))
    exact ⟨by first | (rw [jt (gx hz (Or.inl (bne_iff_ne.1 h1)))]; rfl) | (rw [jt (gx hz (Or.inr (Or.inl (bne_iff_ne.1 h2))))]; rfl) | (rw [jt (gx hz (Or.inr (Or.inr h3)))]; rfl) | (rw [xy (k := 0) rfl (decide_eq_false (by omega))]; rfl), (LW.step E XLW).toBelow⟩
   refine onx rfl (zb Tryz.underlying37 rfl sz3 (by decide) rfl (onx rfl (zh Tryz.underlying3 rfl rfl (HF.on E).here.2 rfl (onx rfl (qw rfl rfl (onx rfl (zx rfl rfl (onx rfl (zv rfl (yk 54 rfl (fun h2 => ?_) (fun h2 => ?_)))))))))))
   ·
    refine za rfl (zc rfl (za rfl (zc rfl (onx rfl (zq rfl rfl (za rfl (zq rfl rfl (rnx (yg rfl (srx (anx rfl (zo (zd (zm (rs := [.tmp 4]) (vs := [_]) rfl ⟨rfl, trivial⟩ ?_))))))))))))))
    exact ⟨by first | (rw [jt (gx hz (Or.inl (bne_iff_ne.1 h1)))]; rfl) | (rw [jt (gx hz (Or.inr (Or.inl (bne_iff_ne.1 h2))))]; rfl) | (rw [jt (gx hz (Or.inr (Or.inr h3)))]; rfl) | (rw [xy (k := 0) rfl (decide_eq_false (by omega))]; rfl), (LW.step E XLW).toBelow⟩
   refine onx rfl (zb Tryz.underlying37 rfl sz4 (by decide) rfl (onx rfl (zh Tryz.underlying4 rfl rfl (HF.on E).here.2 rfl (onx rfl (zx rfl rfl (za rfl (zq rfl rfl (rnx (zt rfl (fun h3 => ?_) (fun h3 => ?_))))))))))
   ·
    refine zp 58 (.bool true) rfl (congrArg Value.bool h3) (srx (anx rfl (zo (zd (zm (rs := [.tmp 4]) (vs := [_]) rfl ⟨rfl, trivial⟩ ?_)))))
    exact ⟨by first | (rw [jt (gx hz (Or.inl (bne_iff_ne.1 h1)))]; rfl) | (rw [jt (gx hz (Or.inr (Or.inl (bne_iff_ne.1 h2))))]; rfl) | (rw [jt (gx hz (Or.inr (Or.inr h3)))]; rfl) | (rw [xy (k := 0) rfl (decide_eq_false (by omega))]; rfl), (LW.step E XLW).toBelow⟩
   refine zp 58 (.bool false) rfl (congrArg Value.bool h3) (zn (ze (zi (srx (za rfl (zb Tryz.underlying37 rfl sz9 (by decide) rfl (za rfl (zh Tryz.underlying9 rfl rfl (HF.on E).here.2 rfl (za rfl (yz Tryz.underlying9 rfl (za rfl (qe rfl rfl (rnx (zt rfl (fun h4 => ?_) (fun h4 => ?_)))))))))))))))
   ·
    refine zp 62 (.bool true) rfl (congrArg Value.bool h4) ?_;replace h4 := of_decide_eq_true h4;refine srx (anx rfl (zo (zd (zm (rs := [.tmp 4]) (vs := [_]) rfl ⟨rfl, trivial⟩ ?_))))
    exact ⟨by first | (rw [jt (gx hz (Or.inl (bne_iff_ne.1 h1)))]; rfl) | (rw [jt (gx hz (Or.inr (Or.inl (bne_iff_ne.1 h2))))]; rfl) | (rw [jt (gx hz (Or.inr (Or.inr h3)))]; rfl) | (rw [xy (k := 0) rfl (decide_eq_false (by omega))]; rfl), (LW.step E XLW).toBelow⟩
   refine zp 62 (.bool false) rfl (congrArg Value.bool h4) ?_;replace h4 := of_decide_eq_false h4;refine zn (ze (zi (srx (anx rfl (yc ?_)))));have hla : kd f n = true := lastC_yes (Or.inr ⟨by simpa using h1, by simpa using h2, h3⟩);have hna : f.name.size ≤ 20000 := by omega
   replace HF := HF.on E;replace LW := LW.step E XLW;replace E := erx (No) w2
   refine qm (ι := Nat) (fun k => [(1, .int .i64 ((n : Nat) : Int)), (2, .pointer (some ⟨gb1, 0, none⟩)), (5, .int .i64 ((k : Nat) : Int))]) (fun k w' => Ext (No) w2 w' ∧ (k ≤ f.names.length ∧ (f.names.take k).all strC = true)) (fun k => f.names.length - k) 0 ⟨rfl, rfl, rfl, trivial⟩ ⟨Ext.refl _ _, ⟨Nat.zero_le _, by rw [List.take_zero]; rfl⟩⟩ ?_;rintro k w4 ⟨M3, ⟨hk, hall⟩⟩
   have XM3 := grx (No) w2;replace E := E.trans M3;replace HF := HF.on E;replace LW := LW.step E XLW;replace E := erx (No) w4
   refine zi (srx (mvx rfl (za rfl (zb Tryz.underlying37 rfl sz32 (by decide) rfl (za rfl (zh Tryz.underlying32 rfl rfl (HF.on E).here.2 rfl (za rfl (qr Tryz.underlying32 rfl (za rfl (yv rfl rfl (rnx (zt rfl (fun q => ?_) (fun q => ?_)))))))))))))
   ·
    have q := of_decide_eq_true q;have hlt : k < f.names.length := by omega
    obtain ⟨y, hy⟩ : ∃ y, f.names[k]? = some y := ⟨_, List.getElem?_eq_getElem hlt⟩;obtain ⟨g, o, hB, hg, hc⟩ := ((HF.on E).here.1.1.1.2).names.cell hy
    refine zn (ze (zi (yc (srx (za rfl (zb Tryz.underlying37 rfl sz32 (by decide) rfl (za rfl (zh Tryz.underlying32 rfl rfl (HF.on E).here.2 rfl (mvx rfl (za rfl (vu (j := k) Tryz.underlying32 sz9 (congrArg (fun z ↦ some (Value.slice z f.names.length p.cn)) hB) rfl rfl (by omega) (za rfl (yx Tryz.underlying9 rfl rfl hc (za rfl (yz Tryz.underlying9 rfl (za rfl (qe rfl rfl (rnx ?_))))))))))))))))))
    by_cases hin : y.size ≤ 20000
    ·
     refine zp 76 (.bool false) rfl ((by rw [decide_eq_false (by omega)] : (.bool (decide (20000 < ((y.size : Nat) : Int))) : Value) = _)) (ye rfl (zn (zf (ze (zg (mvx rfl (za rfl (yp rfl rfl (zw (by omega)) (avx rfl (yd ?_))))))))))
     exact yr (k + 1) (by show f.names.length - (k + 1) < f.names.length - k; omega) ⟨rfl, rfl, rfl, trivial⟩ ⟨M3.step E XM3, ⟨by omega, gh hy hall (decide_eq_true hin)⟩⟩
    ·
     refine zp 76 (.bool true) rfl ((by rw [decide_eq_true (by omega)] : (.bool (decide (20000 < ((y.size : Nat) : Int))) : Value) = _)) (yg rfl (srx (anx rfl (zo (zj (zd (zd (zj (zd (zm (rs := [.tmp 4]) (vs := [_]) rfl ⟨rfl, trivial⟩ ?_))))))))));exact ⟨by rw [headC_nm hy (decide_eq_false hin)]; rfl, (LW.step E XLW).toBelow⟩
   ·
    have q := of_decide_eq_false q;have hall2 := kh hall (by omega);refine yw (zl (zl (zy (ze (zi (srx (anx rfl (yc ?_))))))));replace HF := HF.on E;replace LW := LW.step E XLW;replace E := erx (No) w4
    refine qm (ι := Nat) (fun k => [(1, .int .i64 ((n : Nat) : Int)), (2, .pointer (some ⟨gb1, 0, none⟩)), (6, .int .i64 ((k : Nat) : Int))]) (fun k w' => Ext (No) w4 w' ∧ (k ≤ f.consts.length ∧ (f.consts.take k).all kf = true)) (fun k => f.consts.length - k) 0 ⟨rfl, rfl, rfl, trivial⟩ ⟨Ext.refl _ _, ⟨Nat.zero_le _, by rw [List.take_zero]; rfl⟩⟩ ?_;rintro k w6 ⟨M5, ⟨hk2, hall3⟩⟩
    have XM5 := grx (No) w4;replace E := E.trans M5;replace HF := HF.on E;replace LW := LW.step E XLW;replace E := erx (No) w6
    refine zi (srx (mvx rfl (za rfl (zb Tryz.underlying37 rfl sz33 (by decide) rfl (za rfl (zh Tryz.underlying33 rfl rfl (HF.on E).here.2 rfl (za rfl (qr Tryz.underlying33 rfl (za rfl (yv rfl rfl (rnx (zt rfl (fun q2 => ?_) (fun q2 => ?_)))))))))))))
    ·
     have q2 := of_decide_eq_true q2;have hlt : k < f.consts.length := by omega
     obtain ⟨y, hy⟩ : ∃ y, f.consts[k]? = some y := ⟨_, List.getElem?_eq_getElem hlt⟩;obtain ⟨g, o, hB, hg, hc⟩ := ((HF.on E).here.1.1.1.2).consts.at hy
     refine zn (ze (zi (yc (srx (za rfl (zb Tryz.underlying37 rfl sz33 (by decide) rfl (za rfl (zh Tryz.underlying33 rfl rfl (HF.on E).here.2 rfl (mvx rfl (za rfl (qq (j := k) Tryz.underlying33 sz50 (congrArg (fun z ↦ some (Value.slice z f.consts.length p.cc)) hB) rfl rfl hlt (za rfl (xk (cs := #[.int .i64 y.1, .string y.2]) Tryz.underlying50 rfl sz50 rfl rfl (fun j v hj ↦ hc j v (by simpa using hj)) (za rfl (yh en19 rfl ((rconst_any _ y.1 y.2 (hs y (List.mem_of_getElem? hy)) (HF.on E).here.1.1.2 ⟨te, pe, (HF.on E).here.1.2⟩).mono ?_))))))))))))))))
     rintro e w7 ⟨rfl, hb⟩;refine ⟨_, rfl, ?_⟩;replace E := blx E hb;refine za rfl (vd rfl (rnx ?_));by_cases hin : kf y = true
     ·
      refine zp 90 (.bool false) rfl ((by rw [show kf (y.1, y.2) = true from hin]; rfl : (.bool (!(kf (y.1, y.2))) : Value) = _)) (ye rfl (zn (zf (ze (zg (mvx rfl (za rfl (yp rfl rfl (zw (by omega)) (avx rfl (yd ?_))))))))))
      exact yr (k + 1) (by show f.consts.length - (k + 1) < f.consts.length - k; omega) ⟨rfl, rfl, rfl, trivial⟩ ⟨M5.step E XM5, ⟨by omega, gh hy hall3 hin⟩⟩
     ·
      have hin := Bool.eq_false_iff.2 hin;refine zp 90 (.bool true) rfl ((by rw [show kf (y.1, y.2) = false from hin]; rfl : (.bool (!(kf (y.1, y.2))) : Value) = _)) (yg rfl (srx (anx rfl (zo (zj (zd (zd (zj (zd (zm (rs := [.tmp 4]) (vs := [_]) rfl ⟨rfl, trivial⟩ ?_))))))))))
      exact ⟨by rw [ydv hy hin]; rfl, (LW.step E XLW).toBelow⟩
    ·
     have q2 := of_decide_eq_false q2;have hall4 := kh hall3 (by omega);refine yw (zl (zl (zy (ze (srx (anx rfl (zo (zm (rs := [.tmp 4]) (vs := [_]) rfl ⟨rfl, trivial⟩ ?_))))))));exact ⟨by rw [headC_all hN hla hna hall2 hall4]; rfl, (LW.step E XLW).toBelow⟩
  ·
   refine yi 45 (.bool false) rfl ((by congr 1; rw [beq_eq_false_iff_ne]; omega : (.bool (((n : Nat) : Int) == 0) : Value) = _)) (za rfl (zc rfl (za rfl (zc rfl (za rfl (zc rfl (za rfl (zc rfl (za rfl (qj rfl rfl (za rfl (qj rfl rfl (za rfl (qj rfl rfl (za rfl (zc rfl (za rfl (zc rfl (za rfl (qj rfl rfl (za rfl (qj rfl rfl (za rfl (zc rfl (za rfl (zx rfl rfl (rnx (ye rfl (zn (ze (zi (srx (za rfl (zb Tryz.underlying37 rfl sz9 (by decide) rfl (za rfl (zh Tryz.underlying9 rfl rfl (HF.on E).here.2 rfl (za rfl (yz Tryz.underlying9 rfl (za rfl (qe rfl rfl (rnx (zt rfl (fun h1 => ?_) (fun h1 => ?_)))))))))))))))))))))))))))))))))))))))))))
   ·
    refine zp 62 (.bool true) rfl (congrArg Value.bool h1) ?_;replace h1 := of_decide_eq_true h1;refine srx (anx rfl (zo (zd (zm (rs := [.tmp 4]) (vs := [_]) rfl ⟨rfl, trivial⟩ ?_))));exact ⟨by rw [xy (k := 0) rfl (decide_eq_false (by omega))]; rfl, (LW.step E XLW).toBelow⟩
   refine zp 62 (.bool false) rfl (congrArg Value.bool h1) ?_;replace h1 := of_decide_eq_false h1;refine zn (ze (zi (srx (anx rfl (yc ?_)))));have hla : kd f n = true := lastC_yes (Or.inl hz);have hna : f.name.size ≤ 20000 := by omega
   replace HF := HF.on E;replace LW := LW.step E XLW;replace E := erx (No) w2
   refine qm (ι := Nat) (fun k => [(1, .int .i64 ((n : Nat) : Int)), (2, .pointer (some ⟨gb1, 0, none⟩)), (5, .int .i64 ((k : Nat) : Int))]) (fun k w' => Ext (No) w2 w' ∧ (k ≤ f.names.length ∧ (f.names.take k).all strC = true)) (fun k => f.names.length - k) 0 ⟨rfl, rfl, rfl, trivial⟩ ⟨Ext.refl _ _, ⟨Nat.zero_le _, by rw [List.take_zero]; rfl⟩⟩ ?_;rintro k w9 ⟨M8, ⟨hk, hall⟩⟩
   have XM8 := grx (No) w2;replace E := E.trans M8;replace HF := HF.on E;replace LW := LW.step E XLW;replace E := erx (No) w9
   refine zi (srx (mvx rfl (za rfl (zb Tryz.underlying37 rfl sz32 (by decide) rfl (za rfl (zh Tryz.underlying32 rfl rfl (HF.on E).here.2 rfl (za rfl (qr Tryz.underlying32 rfl (za rfl (yv rfl rfl (rnx (zt rfl (fun q => ?_) (fun q => ?_)))))))))))))
   ·
    have q := of_decide_eq_true q;have hlt : k < f.names.length := by omega
    obtain ⟨y, hy⟩ : ∃ y, f.names[k]? = some y := ⟨_, List.getElem?_eq_getElem hlt⟩;obtain ⟨g, o, hB, hg, hc⟩ := ((HF.on E).here.1.1.1.2).names.cell hy
    refine zn (ze (zi (yc (srx (za rfl (zb Tryz.underlying37 rfl sz32 (by decide) rfl (za rfl (zh Tryz.underlying32 rfl rfl (HF.on E).here.2 rfl (mvx rfl (za rfl (vu (j := k) Tryz.underlying32 sz9 (congrArg (fun z ↦ some (Value.slice z f.names.length p.cn)) hB) rfl rfl (by omega) (za rfl (yx Tryz.underlying9 rfl rfl hc (za rfl (yz Tryz.underlying9 rfl (za rfl (qe rfl rfl (rnx ?_))))))))))))))))))
    by_cases hin : y.size ≤ 20000
    ·
     refine zp 76 (.bool false) rfl ((by rw [decide_eq_false (by omega)] : (.bool (decide (20000 < ((y.size : Nat) : Int))) : Value) = _)) (ye rfl (zn (zf (ze (zg (mvx rfl (za rfl (yp rfl rfl (zw (by omega)) (avx rfl (yd ?_))))))))))
     exact yr (k + 1) (by show f.names.length - (k + 1) < f.names.length - k; omega) ⟨rfl, rfl, rfl, trivial⟩ ⟨M8.step E XM8, ⟨by omega, gh hy hall (decide_eq_true hin)⟩⟩
    ·
     refine zp 76 (.bool true) rfl ((by rw [decide_eq_true (by omega)] : (.bool (decide (20000 < ((y.size : Nat) : Int))) : Value) = _)) (yg rfl (srx (anx rfl (zo (zj (zd (zd (zj (zd (zm (rs := [.tmp 4]) (vs := [_]) rfl ⟨rfl, trivial⟩ ?_))))))))));exact ⟨by rw [headC_nm hy (decide_eq_false hin)]; rfl, (LW.step E XLW).toBelow⟩
   ·
    have q := of_decide_eq_false q;have hall2 := kh hall (by omega);refine yw (zl (zl (zy (ze (zi (srx (anx rfl (yc ?_))))))));replace HF := HF.on E;replace LW := LW.step E XLW;replace E := erx (No) w9
    refine qm (ι := Nat) (fun k => [(1, .int .i64 ((n : Nat) : Int)), (2, .pointer (some ⟨gb1, 0, none⟩)), (6, .int .i64 ((k : Nat) : Int))]) (fun k w' => Ext (No) w9 w' ∧ (k ≤ f.consts.length ∧ (f.consts.take k).all kf = true)) (fun k => f.consts.length - k) 0 ⟨rfl, rfl, rfl, trivial⟩ ⟨Ext.refl _ _, ⟨Nat.zero_le _, by rw [List.take_zero]; rfl⟩⟩ ?_;rintro k w11 ⟨M10, ⟨hk2, hall3⟩⟩
    have XM10 := grx (No) w9;replace E := E.trans M10;replace HF := HF.on E;replace LW := LW.step E XLW;replace E := erx (No) w11
    refine zi (srx (mvx rfl (za rfl (zb Tryz.underlying37 rfl sz33 (by decide) rfl (za rfl (zh Tryz.underlying33 rfl rfl (HF.on E).here.2 rfl (za rfl (qr Tryz.underlying33 rfl (za rfl (yv rfl rfl (rnx (zt rfl (fun q2 => ?_) (fun q2 => ?_)))))))))))))
    ·
     have q2 := of_decide_eq_true q2;have hlt : k < f.consts.length := by omega
     obtain ⟨y, hy⟩ : ∃ y, f.consts[k]? = some y := ⟨_, List.getElem?_eq_getElem hlt⟩;obtain ⟨g, o, hB, hg, hc⟩ := ((HF.on E).here.1.1.1.2).consts.at hy
     refine zn (ze (zi (yc (srx (za rfl (zb Tryz.underlying37 rfl sz33 (by decide) rfl (za rfl (zh Tryz.underlying33 rfl rfl (HF.on E).here.2 rfl (mvx rfl (za rfl (qq (j := k) Tryz.underlying33 sz50 (congrArg (fun z ↦ some (Value.slice z f.consts.length p.cc)) hB) rfl rfl hlt (za rfl (xk (cs := #[.int .i64 y.1, .string y.2]) Tryz.underlying50 rfl sz50 rfl rfl (fun j v hj ↦ hc j v (by simpa using hj)) (za rfl (yh en19 rfl ((rconst_any _ y.1 y.2 (hs y (List.mem_of_getElem? hy)) (HF.on E).here.1.1.2 ⟨te, pe, (HF.on E).here.1.2⟩).mono ?_))))))))))))))))
     rintro e w12 ⟨rfl, hb⟩;refine ⟨_, rfl, ?_⟩;replace E := blx E hb;refine za rfl (vd rfl (rnx ?_));by_cases hin : kf y = true
     ·
      refine zp 90 (.bool false) rfl ((by rw [show kf (y.1, y.2) = true from hin]; rfl : (.bool (!(kf (y.1, y.2))) : Value) = _)) (ye rfl (zn (zf (ze (zg (mvx rfl (za rfl (yp rfl rfl (zw (by omega)) (avx rfl (yd ?_))))))))))
      exact yr (k + 1) (by show f.consts.length - (k + 1) < f.consts.length - k; omega) ⟨rfl, rfl, rfl, trivial⟩ ⟨M10.step E XM10, ⟨by omega, gh hy hall3 hin⟩⟩
     ·
      have hin := Bool.eq_false_iff.2 hin;refine zp 90 (.bool true) rfl ((by rw [show kf (y.1, y.2) = false from hin]; rfl : (.bool (!(kf (y.1, y.2))) : Value) = _)) (yg rfl (srx (anx rfl (zo (zj (zd (zd (zj (zd (zm (rs := [.tmp 4]) (vs := [_]) rfl ⟨rfl, trivial⟩ ?_))))))))))
      exact ⟨by rw [ydv hy hin]; rfl, (LW.step E XLW).toBelow⟩
    ·
     have q2 := of_decide_eq_false q2;have hall4 := kh hall3 (by omega);refine yw (zl (zl (zy (ze (srx (anx rfl (zo (zm (rs := [.tmp 4]) (vs := [_]) rfl ⟨rfl, trivial⟩ ?_))))))));exact ⟨by rw [headC_all hN hla hna hall2 hall4]; rfl, (LW.step E XLW).toBelow⟩
end
section
variable (w : World) (p : Pl) (f : LFn) (n0 : Nat) (hF : FnA n0 w p f)
include hF
theorem regions_any : Calls Tryz.prog 12 #[fnV p f] w fun e w' => e = .returned (.bool (f.rgs.all (rgC f))) ∧ Below w.heap.size w w' := by
 have hil := hF.ins.len;have hrl := hF.rgs.len;have hsz := hF.size;refine yn Tryz.func12 rfl Tryz.ntmps12 rfl ?_;have HF : Per (No) w (fun _ => True) := Per.true_;have LW := erx (No) w;have XLW := grx (No) w;have E := erx (No) w;replace HF := HF.on E;replace LW := LW.step E XLW;replace E := erx (No) w;replace HF := HF.and (Per.fnA hF (fun _ h => h.elim))
 refine srx (za rfl (vq rfl ?_));intro gb1 w2 Bb1 Eb1 Gb1;have Gb1 : _ ≤ gb1 := Nat.le_trans E.size Gb1;have GLb1 := Nat.le_trans LW.size Gb1;replace E := E.trans Eb1.no;replace HF := HF.cons (yb Gb1);replace E := E.cons (some gb1);replace XLW := Mut.grow XLW (fun k e => Or.inr (Nat.le_trans LW.size ((yb Gb1) k e)));replace HF := HF.on E;replace LW := LW.step E XLW
 have SB : ∀ q9, No q9 → Mut [(some gb1)] q9 := (Mut.skip Mut.nil_);replace HF := HF.less SB;replace XLW := fun k h => XLW k (SB k h);clear SB;replace E := erx (No) w2;replace HF := HF.and (Per.blkN Bb1 NotIn.nil)
 refine anx rfl (srx (za rfl (zb Tryz.underlying37 rfl sz34 (by decide) rfl (za rfl (zh Tryz.underlying34 rfl rfl (HF.on E).here.2 rfl (za rfl (qr Tryz.underlying34 rfl (anx rfl (zi (srx (anx rfl (yc ?_))))))))))));replace HF := HF.on E;replace LW := LW.step E XLW;replace E := erx (No) w2
 refine qm (ι := Nat) (fun k => [(1, .pointer (some ⟨gb1, 0, none⟩)), (3, .int .i64 ((f.ins.length : Nat) : Int)), (4, .int .i64 ((k : Nat) : Int))]) (fun k w' => Ext (No) w2 w' ∧ (k ≤ f.rgs.length ∧ (f.rgs.take k).all (rgC f) = true)) (fun k => f.rgs.length - k) 0 ⟨rfl, rfl, rfl, trivial⟩ ⟨Ext.refl _ _, ⟨Nat.zero_le _, by rw [List.take_zero]; rfl⟩⟩ ?_;rintro k w4 ⟨M3, ⟨hk, hall⟩⟩
 have XM3 := grx (No) w2;replace E := E.trans M3;replace HF := HF.on E;replace LW := LW.step E XLW;replace E := erx (No) w4
 refine zi (srx (mvx rfl (za rfl (zb Tryz.underlying37 rfl sz35 (by decide) rfl (za rfl (zh Tryz.underlying35 rfl rfl (HF.on E).here.2 rfl (za rfl (qr Tryz.underlying35 rfl (za rfl (yv rfl rfl (rnx (zt rfl (fun q => ?_) (fun q => ?_)))))))))))))
 ·
  have q := of_decide_eq_true q;obtain ⟨r, hr⟩ : ∃ r, f.rgs[k]? = some r := ⟨_, List.getElem?_eq_getElem (by omega)⟩;obtain ⟨gr, ro, hAr, hgr, hcr⟩ := ((HF.on E).here.1.2).rgs.row.at hr
  refine zn (ze (zi (yc (srx (za rfl (zb Tryz.underlying37 rfl sz35 (by decide) rfl (za rfl (zh Tryz.underlying35 rfl rfl (HF.on E).here.2 rfl (mvx rfl (za rfl (qq (j := k) Tryz.underlying35 sz41 (congrArg (fun z ↦ some (Value.slice z f.rgs.length p.cr)) hAr) rfl rfl (by omega) (za rfl (xk (cs := (regV r).toArray) Tryz.underlying41 rfl sz41 rfl rfl (fun j v hj ↦ hcr j v (by simpa using hj)) (za rfl (qo zr41 ?_)))))))))))))))
  intro gb5 w6 Bb5 Eb5 Gb5;have Gb5 : _ ≤ gb5 := Nat.le_trans E.size Gb5;have GLb5 := Nat.le_trans LW.size Gb5;replace E := E.trans Eb5.no;replace HF := HF.cons (yb Gb5);replace E := E.cons (some gb5);replace XLW := Mut.grow XLW (fun k e => Or.inr (Nat.le_trans LW.size ((yb Gb5) k e)));replace XM3 := Mut.grow XM3 (fun k e => Or.inr (Nat.le_trans M3.size ((yb Gb5) k e)))
  refine ya (gz sz41 rfl rfl Bb5 rfl rfl rfl ?_);intro w7 Bx Eb5;replace Bb5 : Blk w7 gb5 41 #[.int .i64 r.fr, .int .i64 r.to, .int .i64 r.tg, .int .i64 r.d] := Bx;replace E := E.step1 Eb5 Mut.head
  refine rnx (srx (za rfl (zb Tryz.underlying41 rfl sz3 (by decide) rfl (za rfl (zh Tryz.underlying3 rfl rfl Bb5 rfl (za rfl (yv rfl rfl (mvx rfl (yk 24 rfl (fun t1 => ?_) (fun t1 => ?_))))))))))
  ·
   replace t1 := of_decide_eq_true t1
   refine za rfl (zc rfl (za rfl (zc rfl (za rfl (zc rfl (za rfl (zc rfl (za rfl (zc rfl (za rfl (zq rfl rfl (mvx rfl (za rfl (zc rfl (za rfl (zc rfl (za rfl (zc rfl (za rfl (zc rfl (za rfl (zq rfl rfl (mvx rfl (za rfl (zc rfl (za rfl (zc rfl (za rfl (zc rfl (za rfl (zq rfl rfl (mvx rfl (za rfl (zc rfl (za rfl (zc rfl (za rfl (zc rfl (za rfl (zc rfl (za rfl (zq rfl rfl (mvx rfl (za rfl (zc rfl (za rfl (zc rfl (za rfl (zc rfl (za rfl (zq rfl rfl (mvx rfl (za rfl (zc rfl (za rfl (zc rfl (za rfl (zc rfl (za rfl (zc rfl (za rfl (zc rfl (za rfl (zq rfl rfl (rnx (yg rfl (srx ?_)))))))))))))))))))))))))))))))))))))))))))))))))))))))))))))))))))
   refine anx rfl (zo (zj (zd (zd (zj (zd (zm (rs := [.tmp 2]) (vs := [_]) rfl ⟨rfl, trivial⟩ ?_)))))));exact ⟨by rw [vf hr (oh (by unfold rgN; omega))]; rfl, (LW.step E XLW).toBelow⟩
  ·
   replace t1 := of_decide_eq_false t1
   refine onx rfl (zb Tryz.underlying41 rfl sz3 (by decide) rfl (onx rfl (zh Tryz.underlying3 rfl rfl Bb5 rfl (onx rfl (zb Tryz.underlying41 rfl sz3 (by decide) rfl (onx rfl (zh Tryz.underlying3 rfl rfl Bb5 rfl (onx rfl (qe rfl rfl (za rfl (zx rfl rfl (mvx rfl (yk 31 rfl (fun t2 => ?_) (fun t2 => ?_))))))))))))))
   ·
    replace t2 := of_decide_eq_true t2
    refine za rfl (zc rfl (za rfl (zc rfl (za rfl (zc rfl (za rfl (zc rfl (za rfl (zq rfl rfl (mvx rfl (za rfl (zc rfl (za rfl (zc rfl (za rfl (zc rfl (za rfl (zq rfl rfl (mvx rfl (za rfl (zc rfl (za rfl (zc rfl (za rfl (zc rfl (za rfl (zc rfl (za rfl (zq rfl rfl (mvx rfl (za rfl (zc rfl (za rfl (zc rfl (za rfl (zc rfl (za rfl (zq rfl rfl (mvx rfl (za rfl (zc rfl (za rfl (zc rfl (za rfl (zc rfl (za rfl (zc rfl (za rfl (zc rfl (za rfl (zq rfl rfl (rnx (yg rfl (srx (anx rfl (zo (zj (zd (zd ?_)))))))))))))))))))))))))))))))))))))))))))))))))))))))))))
    refine zj (zd (zm (rs := [.tmp 2]) (vs := [_]) rfl ⟨rfl, trivial⟩ ?_));exact ⟨by rw [vf hr (oh (by unfold rgN; omega))]; rfl, (LW.step E XLW).toBelow⟩
   ·
    replace t2 := of_decide_eq_false t2;refine onx rfl (zb Tryz.underlying41 rfl sz3 (by decide) rfl (onx rfl (zh Tryz.underlying3 rfl rfl Bb5 rfl (onx rfl (zv rfl (onx rfl (qe rfl rfl (za rfl (zx rfl rfl (mvx rfl (yk 37 rfl (fun t3 => ?_) (fun t3 => ?_))))))))))))
    ·
     replace t3 := of_decide_eq_true t3
     refine za rfl (zc rfl (za rfl (zc rfl (za rfl (zc rfl (za rfl (zq rfl rfl (mvx rfl (za rfl (zc rfl (za rfl (zc rfl (za rfl (zc rfl (za rfl (zc rfl (za rfl (zq rfl rfl (mvx rfl (za rfl (zc rfl (za rfl (zc rfl (za rfl (zc rfl (za rfl (zq rfl rfl (mvx rfl (za rfl (zc rfl (za rfl (zc rfl (za rfl (zc rfl (za rfl (zc rfl (za rfl (zc rfl (za rfl (zq rfl rfl (rnx (yg rfl (srx (anx rfl (zo (zj (zd (zd (zj (zd (zm (rs := [.tmp 2]) (vs := [_]) rfl ⟨rfl, trivial⟩ ?_)))))))))))))))))))))))))))))))))))))))))))))))))))
     exact ⟨by rw [vf hr (oh (by unfold rgN; omega))]; rfl, (LW.step E XLW).toBelow⟩
    ·
     replace t3 := of_decide_eq_false t3;refine onx rfl (zb Tryz.underlying41 rfl sz3 (by decide) rfl (onx rfl (zh Tryz.underlying3 rfl rfl Bb5 rfl (onx rfl (yv rfl rfl (za rfl (zx rfl rfl (mvx rfl (yk 42 rfl (fun t4 => ?_) (fun t4 => ?_))))))))))
     ·
      replace t4 := of_decide_eq_true t4
      refine za rfl (zc rfl (za rfl (zc rfl (za rfl (zc rfl (za rfl (zc rfl (za rfl (zq rfl rfl (mvx rfl (za rfl (zc rfl (za rfl (zc rfl (za rfl (zc rfl (za rfl (zq rfl rfl (mvx rfl (za rfl (zc rfl (za rfl (zc rfl (za rfl (zc rfl (za rfl (zc rfl (za rfl (zc rfl (za rfl (zq rfl rfl (rnx (yg rfl (srx (anx rfl (zo (zj (zd (zd (zj (zd (zm (rs := [.tmp 2]) (vs := [_]) rfl ⟨rfl, trivial⟩ ?_))))))))))))))))))))))))))))))))))))))))))
      exact ⟨by rw [vf hr (oh (by unfold rgN; omega))]; rfl, (LW.step E XLW).toBelow⟩
     ·
      replace t4 := of_decide_eq_false t4;refine onx rfl (zb Tryz.underlying41 rfl sz3 (by decide) rfl (onx rfl (zh Tryz.underlying3 rfl rfl Bb5 rfl (onx rfl (zv rfl (onx rfl (qz rfl rfl (za rfl (zx rfl rfl (mvx rfl (yk 48 rfl (fun t5 => ?_) (fun t5 => ?_))))))))))))
      ·
       replace t5 := of_decide_eq_true t5
       refine za rfl (zc rfl (za rfl (zc rfl (za rfl (zc rfl (za rfl (zq rfl rfl (mvx rfl (za rfl (zc rfl (za rfl (zc rfl (za rfl (zc rfl (za rfl (zc rfl (za rfl (zc rfl (za rfl (zq rfl rfl (rnx (yg rfl (srx (anx rfl (zo (zj (zd (zd (zj (zd (zm (rs := [.tmp 2]) (vs := [_]) rfl ⟨rfl, trivial⟩ ?_)))))))))))))))))))))))))))))))
       exact ⟨by rw [vf hr (oh (by unfold rgN; omega))]; rfl, (LW.step E XLW).toBelow⟩
      ·
       replace t5 := of_decide_eq_false t5;refine onx rfl (zb Tryz.underlying41 rfl sz3 (by decide) rfl (onx rfl (zh Tryz.underlying3 rfl rfl Bb5 rfl (onx rfl (yv rfl rfl (za rfl (zx rfl rfl (mvx rfl (yk 53 rfl (fun t6 => ?_) (fun t6 => ?_))))))))))
       ·
        replace t6 := of_decide_eq_true t6;refine za rfl (zc rfl (za rfl (zc rfl (za rfl (zc rfl (za rfl (zc rfl (za rfl (zc rfl (za rfl (zq rfl rfl (rnx (yg rfl (srx (anx rfl (zo (zj (zd (zd (zj (zd (zm (rs := [.tmp 2]) (vs := [_]) rfl ⟨rfl, trivial⟩ ?_))))))))))))))))))))))
        exact ⟨by rw [vf hr (oh (by unfold rgN; omega))]; rfl, (LW.step E XLW).toBelow⟩
       ·
        replace t6 := of_decide_eq_false t6
        refine onx rfl (zb Tryz.underlying41 rfl sz3 (by decide) rfl (onx rfl (zh Tryz.underlying3 rfl rfl Bb5 rfl (onx rfl (zb Tryz.underlying37 rfl sz3 (by decide) rfl (onx rfl (zh Tryz.underlying3 rfl rfl (HF.on E).here.2 rfl (onx rfl (qz rfl rfl (za rfl (zx rfl rfl (rnx (zt rfl (fun t7 => ?_) (fun t7 => ?_))))))))))))))
        ·
         refine zp 59 (.bool true) rfl (congrArg Value.bool t7) ?_;replace t7 := of_decide_eq_true t7;refine srx (anx rfl (zo (zj (zd (zd (zj (zd (zm (rs := [.tmp 2]) (vs := [_]) rfl ⟨rfl, trivial⟩ ?_))))))));exact ⟨by rw [vf hr (oh (by unfold rgN; omega))]; rfl, (LW.step E XLW).toBelow⟩
        ·
         refine zp 59 (.bool false) rfl (congrArg Value.bool t7) ?_;replace t7 := of_decide_eq_false t7;refine zn (zf (ze (zg (mvx rfl (za rfl (yp rfl rfl (zw (by omega)) (avx rfl (yd ?_))))))))
         exact yr (k + 1) (by show f.rgs.length - (k + 1) < f.rgs.length - k; omega) ⟨rfl, rfl, rfl, trivial⟩ ⟨M3.step E XM3, ⟨by omega, gh hr hall (rgC_yes (by unfold rgN; omega))⟩⟩
 ·
  have q := of_decide_eq_false q;refine yw (zl (zl (zy (ze (srx (anx rfl (zo (zm (rs := [.tmp 2]) (vs := [_]) rfl ⟨rfl, trivial⟩ ?_))))))));exact ⟨by rw [kh hall (by omega)]; rfl, (LW.step E XLW).toBelow⟩
end
end Go.Proofs.YtmjemknimipnjaaGreatDoor
namespace Go.Proofs.YtmjemknimipnjaaGreatDoor
open Go.RowKit
set_option maxRecDepth 100000
attribute [local irreducible] OW RS flN uD uA uB uT uL rL rK rLo rHi
def res3 (t : Int × Int × Int) : Value := .tuple #[.int .i64 t.1, .int .i64 t.2.1, .int .i64 t.2.2]
theorem zqk {α : Type} {l : List α} {k : Nat} {x : α} (h : l[k]? = some x) : l.drop k = x :: l.drop (k + 1) := by
 obtain ⟨h1, h2⟩ := List.getElem?_eq_some_iff.1 h;rw [List.drop_eq_getElem_cons h1, h2]
theorem bad_step {fs : List LFn} {f : LFn} {k : Nat} {i : LIns} (h : f.ins[k]? = some i) (hi : jq fs f k i = true) : xo fs f k (f.ins.drop k) = xo fs f (k + 1) (f.ins.drop (k + 1)) := by
 rw [zqk h];show (if jq fs f k i = true then _ else _) = _
 rw [if_pos hi]
theorem bad_here {fs : List LFn} {f : LFn} {k : Nat} {i : LIns} (h : f.ins[k]? = some i) (hi : jq fs f k i = false) : xo fs f k (f.ins.drop k) = some k := by
 rw [zqk h];show (if jq fs f k i = true then _ else _) = _
 rw [hi]; rfl
theorem bad_end {fs : List LFn} {f : LFn} {k : Nat} (h : ¬ k < f.ins.length) : xo fs f k (f.ins.drop k) = none := by
 rw [List.drop_of_length_le (by omega)]; rfl
section
variable {fs : List LFn} {f : LFn} {k : Nat} (h : fs[k]? = some f)
include h
theorem go_head (h1 : gg f k = false) : goF fs k (fs.drop k) = ((k : Int), -1, 3) := by
 rw [zqk h];show (if gg f k = true then _ else _) = _
 rw [h1]; rfl
theorem go_ins {j : Nat} (h1 : gg f k = true) (h2 : xo fs f 0 f.ins = some j) : goF fs k (fs.drop k) = ((k : Int), (j : Int), 3) := by
 rw [zqk h];show (if gg f k = true then _ else _) = _
 rw [h1, if_pos rfl, h2]
theorem ku (h1 : gg f k = true) (h2 : xo fs f 0 f.ins = none) (h3 : f.rgs.all (rgC f) = false) : goF fs k (fs.drop k) = ((k : Int), -2, 3) := by
 rw [zqk h];show (if gg f k = true then _ else _) = _
 rw [h1, if_pos rfl, h2];show (if _ then _ else _) = _
 rw [h3]; rfl
theorem go_step (h1 : gg f k = true) (h2 : xo fs f 0 f.ins = none) (h3 : f.rgs.all (rgC f) = true) : goF fs k (fs.drop k) = goF fs (k + 1) (fs.drop (k + 1)) := by
 rw [zqk h];show (if gg f k = true then _ else _) = _
 rw [h1, if_pos rfl, h2];show (if _ then _ else _) = _
 rw [h3]; rfl
end
theorem go_end {fs : List LFn} {k : Nat} (h : ¬ k < fs.length) : goF fs k (fs.drop k) = (0, 0, 0) := by
 rw [List.drop_of_length_le (by omega)]; rfl
theorem zgv {fs : List LFn} (h : fs.length < 1 ∨ 4000 < fs.length) : kw fs = (-1, -1, 3) := if_pos h
theorem yfq {fs : List LFn} (h : ¬ (fs.length < 1 ∨ 4000 < fs.length)) : kw fs = goF fs 0 fs := if_neg h
theorem rgC_tg {f : LFn} {r : LReg} (h : inI r.tg f.ins.length = false) : rgC f r = false := by unfold rgC; rw [h]; simp
theorem rgC_d {f : LFn} {r : LReg} (h : inI r.d f.regs = false) : rgC f r = false := by unfold rgC; rw [h]; simp
theorem rgC_ok {f : LFn} {r : LReg} (h1 : 0 ≤ r.fr) (h2 : r.fr ≤ r.to) (h3 : r.to ≤ (f.ins.length : Int)) (h4 : inI r.tg f.ins.length = true) (h5 : inI r.d f.regs = true) : rgC f r = true := by unfold rgC; rw [h4, h5, decide_eq_true h1, decide_eq_true h2, decide_eq_true h3]; rfl
section
variable (w : World) {bp op cp bf of cf bl ol cl : Nat} (A : Option Addr) (n ca : Nat) (fs : List LFn) (hfs : FsA n w A fs) (hT : Tabs bp op cp bf of cf bl ol cl w) (hE : ∃ te pe, w.cell? ⟨2, 0, none⟩ = some (.iface te pe))
include hfs hT hE
set_option maxHeartbeats 1000000 in
theorem yfz : Calls Tryz.prog 4 #[.agg #[.slice A fs.length ca]] w fun e w' => e = .returned (res3 (kw fs)) ∧ Below w.heap.size w w' := by
 obtain ⟨te, pe, hE⟩ := hE;have hfl := hfs.len;refine yn Tryz.func4 rfl Tryz.ntmps4 rfl ?_;have HF : Per (No) w (fun _ => True) := Per.true_;have LW := erx (No) w;have XLW := grx (No) w;have E := erx (No) w;replace HF := HF.on E;replace LW := LW.step E XLW;replace E := erx (No) w;replace HF := HF.and (Per.fsA hfs (fun _ h => h.elim));replace HF := HF.on E;replace LW := LW.step E XLW
 replace E := erx (No) w;replace HF := HF.and (Per.tabs hT (fun _ h => h.elim));replace HF := HF.on E;replace LW := LW.step E XLW;replace E := erx (No) w;replace HF := HF.and (Per.cellA hE (fun _ h => h.elim));refine srx (za rfl (vq rfl ?_));intro gb1 w2 Bb1 Eb1 Gb1;have Gb1 : _ ≤ gb1 := Nat.le_trans E.size Gb1;have GLb1 := Nat.le_trans LW.size Gb1;replace E := E.trans Eb1.no
 replace HF := HF.cons (yb Gb1);replace E := E.cons (some gb1);replace XLW := Mut.grow XLW (fun k e => Or.inr (Nat.le_trans LW.size ((yb Gb1) k e)));replace HF := HF.on E;replace LW := LW.step E XLW;have SB : ∀ q9, No q9 → Mut [(some gb1)] q9 := (Mut.skip Mut.nil_);replace HF := HF.less SB;replace XLW := fun k h => XLW k (SB k h);clear SB;replace E := erx (No) w2
 replace HF := HF.and (Per.blkN Bb1 NotIn.nil);refine avx rfl (avx rfl (anx rfl (zi (srx (za rfl (zb Tryz.underlying24 rfl sz22 (by decide) rfl (za rfl (zh Tryz.underlying22 rfl rfl (HF.on E).here.2 rfl (za rfl (qr Tryz.underlying22 rfl (za rfl (yv rfl rfl (mvx rfl (yk 14 rfl (fun h1 => ?_) (fun h1 => ?_)))))))))))))))
 ·
  replace h1 := of_decide_eq_true h1;refine za rfl (zc rfl (za rfl (zc rfl (za rfl (zc rfl (za rfl (zc rfl (za rfl (zq rfl rfl (rnx (yg rfl (srx (avx rfl (avx rfl (anx rfl (zo (zd (zm (rs := [.tmp 2, .tmp 3, .tmp 4]) (vs := [_, _, _]) rfl ⟨rfl, rfl, rfl, trivial⟩ ?_))))))))))))))))))
  exact ⟨by rw [zgv (by omega)]; rfl, (LW.step E XLW).toBelow⟩
 replace h1 := of_decide_eq_false h1;refine onx rfl (zb Tryz.underlying24 rfl sz22 (by decide) rfl (onx rfl (zh Tryz.underlying22 rfl rfl (HF.on E).here.2 rfl (onx rfl (qr Tryz.underlying22 rfl (onx rfl (qe rfl rfl (za rfl (zx rfl rfl (rnx (zt rfl (fun h2 => ?_) (fun h2 => ?_))))))))))))
 ·
  refine zp 19 (.bool true) rfl (congrArg Value.bool h2) ?_;replace h2 := of_decide_eq_true h2;refine srx (avx rfl (avx rfl (anx rfl (zo (zd (zm (rs := [.tmp 2, .tmp 3, .tmp 4]) (vs := [_, _, _]) rfl ⟨rfl, rfl, rfl, trivial⟩ ?_))))));exact ⟨by rw [zgv (by omega)]; rfl, (LW.step E XLW).toBelow⟩
 refine zp 19 (.bool false) rfl (congrArg Value.bool h2) ?_;replace h2 := of_decide_eq_false h2;refine zn (ze (zi (srx (za rfl (zb Tryz.underlying24 rfl sz22 (by decide) rfl (za rfl (zh Tryz.underlying22 rfl rfl (HF.on E).here.2 rfl (za rfl (qr Tryz.underlying22 rfl (mvx rfl (rnx (yc ?_))))))))))));have hcg := yfq (fs := fs) (by omega)
 replace HF := HF.on E;replace LW := LW.step E XLW;replace E := erx (No) w2
 refine qm (ι := Nat) (fun k => [(1, .pointer (some ⟨gb1, 0, none⟩)), (21, .slice A fs.length ca), (22, .int .i64 ((fs.length : Nat) : Int)), (23, .int .i64 ((k : Nat) : Int))]) (fun k w' => Ext (No) w2 w' ∧ (k ≤ fs.length ∧ kw fs = goF fs k (fs.drop k))) (fun k => fs.length - k) 0 ⟨rfl, rfl, rfl, rfl, trivial⟩ ⟨Ext.refl _ _, ⟨Nat.zero_le _, hcg⟩⟩ ?_;rintro k w4 ⟨M3, ⟨hk, hgo⟩⟩
 have XM3 := grx (No) w2;replace E := E.trans M3;replace HF := HF.on E;replace LW := LW.step E XLW;replace E := erx (No) w4;refine srx (za rfl (yv rfl rfl (rnx (zi (zt rfl (fun q => ?_) (fun q => ?_))))))
 ·
  have q := of_decide_eq_true q;have hlt : k < fs.length := by omega
  obtain ⟨f, hf⟩ : ∃ f, fs[k]? = some f := ⟨_, List.getElem?_eq_getElem hlt⟩;obtain ⟨g, o, p, hA, hg, hF, hc⟩ := ((HF.on E).here.1.1.1.2).at hf;have hil := hF.ins.len;have hrl := hF.rgs.len;have hcs := hfs.strs f (List.mem_of_getElem? hf);replace HF := HF.on E;replace LW := LW.step E XLW;replace M3 := M3.step E XM3;replace E := erx (No) w4;replace HF := HF.and (Per.fnA hF (fun _ h => h.elim))
  refine zn (ze (zi (yc (srx (mvx rfl (za rfl (qq (j := k) Tryz.underlying22 zkv (congrArg (fun z ↦ some (Value.slice z fs.length ca)) hA) rfl rfl hlt (za rfl (xk (cs := (fnC p f).toArray) Tryz.underlying37 rfl zkv rfl rfl (fun j v hj ↦ hc j v (by simpa using hj)) (za rfl (qo zr37 ?_)))))))))));intro gb5 w6 Bb5 Eb5 Gb5
  have Gb5 : _ ≤ gb5 := Nat.le_trans E.size Gb5;have GLb5 := Nat.le_trans LW.size Gb5;replace E := E.trans Eb5.no;replace HF := HF.cons (yb Gb5);replace E := E.cons (some gb5);replace XLW := Mut.grow XLW (fun k e => Or.inr (Nat.le_trans LW.size ((yb Gb5) k e)));replace XM3 := Mut.grow XM3 (fun k e => Or.inr (Nat.le_trans M3.size ((yb Gb5) k e)))
  refine avx rfl (ya (gz zkv rfl rfl Bb5 rfl rfl rfl ?_));intro w7 Bx Eb5;replace Bb5 : Blk w7 gb5 37 #[.string f.name, .int .i64 f.params, .int .i64 f.regs, .int .i64 f.frees, .bool f.gen, .int .i64 f.bound, .slice p.an f.names.length p.cn, .slice p.ac f.consts.length p.cc, .slice p.ai f.ins.length p.ci, .slice p.ar f.rgs.length p.cr] := Bx;replace E := E.step1 Eb5 Mut.head
  refine rnx (zi (srx (za rfl (yf Tryz.underlying37 rfl zkv rfl Bb5 rfl (mvx rfl (za rfl (yh en7 rfl ((head_any _ p f n k (HF.on E).here.2 hcs (HF.on E).here.1.1.1.2 ⟨te, pe, (HF.on E).here.1.1.2⟩).mono ?_))))))));rintro e w8 ⟨rfl, hb⟩;refine ⟨_, rfl, ?_⟩;have Ec := Ext.of_below hb No;replace Bb5 := Bb5.extN Ec NotIn.nil;replace E := E.trans Ec.no
  refine za rfl (vd rfl (rnx ?_));by_cases h1 : gg f k = true
  ·
   refine zp 31 (.bool false) rfl ((by rw [h1]; rfl : (.bool (!(gg f k)) : Value) = _)) (ye rfl (zn (ze (zi (srx (za rfl (zb Tryz.underlying37 rfl sz34 (by decide) rfl (za rfl (zh Tryz.underlying34 rfl rfl Bb5 rfl (za rfl (qr Tryz.underlying34 rfl (mvx rfl (rnx (yc ?_))))))))))))));replace HF := HF.on E;replace LW := LW.step E XLW
   replace M3 := M3.step E XM3;replace E := erx (Mut [(some gb5)]) w8
   refine qm (ι := Nat) (fun j => [(1, .pointer (some ⟨gb1, 0, none⟩)), (5, .int .i64 ((k : Nat) : Int)), (6, .pointer (some ⟨gb5, 0, none⟩)), (21, .slice A fs.length ca), (22, .int .i64 ((fs.length : Nat) : Int)), (23, .int .i64 ((k : Nat) : Int)), (35, .int .i64 ((f.ins.length : Nat) : Int)), (36, .int .i64 ((j : Nat) : Int))]) (fun j w' => Ext (Mut [(some gb5)]) w8 w' ∧ Blk w' gb5 37 (#[.string f.name, .int .i64 f.params, .int .i64 f.regs, .int .i64 f.frees, .bool f.gen, .int .i64 f.bound, .slice p.an f.names.length p.cn, .slice p.ac f.consts.length p.cc, .slice p.ai f.ins.length p.ci, .slice p.ar f.rgs.length p.cr]) ∧ (j ≤ f.ins.length ∧ xo fs f 0 f.ins = xo fs f j (f.ins.drop j))) (fun j => f.ins.length - j) 0 ⟨rfl, rfl, rfl, rfl, rfl, rfl, rfl, rfl, trivial⟩ ⟨Ext.refl _ _, (by exact Bb5), ⟨Nat.zero_le _, rfl⟩⟩ ?_
   have LTb5 := (yo Bb5.lt);rintro j w10 ⟨M9, Bb5, ⟨hj, hba⟩⟩;have XM9 : Gro (Mut [(some gb5)]) (Mut [(some gb5)]) w8 := (Mut.grow Mut.none_ (fun k e => Or.inl (Mut.head k e)));replace E := E.trans M9;replace HF := HF.on E;replace LW := LW.step E XLW;replace M3 := M3.step E XM3;replace E := erx (Mut [(some gb5)]) w10;clear LTb5
   refine srx (za rfl (yv rfl rfl (rnx (zi (zt rfl (fun q2 => ?_) (fun q2 => ?_))))))
   ·
    have q2 := of_decide_eq_true q2;obtain ⟨i, hi⟩ : ∃ i, f.ins[j]? = some i := ⟨_, List.getElem?_eq_getElem (by omega)⟩
    refine zn (ze (zi (yc (srx (mvx rfl (anx rfl (srx (za rfl (yf Tryz.underlying24 rfl sz24 rfl (HF.on E).here.1.2 rfl (za rfl (yf Tryz.underlying37 rfl zkv rfl Bb5 rfl (mvx rfl (za rfl (yh en8 rfl ((insR_any _ A n ca fs (HF.on E).here.1.1.1.1.2 p f (HF.on E).here.2 j i hi).mono ?_)))))))))))))));rintro e w11 ⟨rfl, hb⟩;refine ⟨_, rfl, ?_⟩
    have Ec := Ext.of_below hb No;replace Bb5 := Bb5.extN Ec NotIn.nil;replace E := E.trans Ec.no;refine za rfl (vd rfl (rnx ?_));by_cases h2 : jq fs f j i = true
    ·
     refine zp 43 (.bool false) rfl ((by rw [h2]; rfl : (.bool (!(jq fs f j i)) : Value) = _)) (ye rfl (zn (zf (ze (zg (za rfl (yp rfl rfl (zw (by omega)) (mvx rfl (yd ?_)))))))))
     exact yr (j + 1) (by show f.ins.length - (j + 1) < f.ins.length - j; omega) ⟨rfl, rfl, rfl, rfl, rfl, rfl, rfl, rfl, trivial⟩ ⟨M9.step E XM9, (by exact Bb5), ⟨by omega, by rw [hba, bad_step hi h2]⟩⟩
    ·
     have h2 := Bool.eq_false_iff.2 h2
     refine zp 43 (.bool true) rfl ((by rw [h2]; rfl : (.bool (!(jq fs f j i)) : Value) = _)) (yg rfl (srx (mvx rfl (mvx rfl (avx rfl (avx rfl (anx rfl (zo (zj (zd (zd (zj (zd (zj (zd (zd (zj (zd (zm (rs := [.tmp 2, .tmp 3, .tmp 4]) (vs := [_, _, _]) rfl ⟨rfl, rfl, rfl, trivial⟩ ?_)))))))))))))))))))
     exact ⟨by rw [hgo, go_ins hf h1 (hba.trans (bad_here hi h2))]; rfl, (LW.step E XLW).toBelow⟩
   ·
    have q2 := of_decide_eq_false q2;have hbn := hba.trans (bad_end (by omega));refine yw (zl (zl (zy (ze (srx (za rfl (zb Tryz.underlying37 rfl sz35 (by decide) rfl (za rfl (zh Tryz.underlying35 rfl rfl Bb5 rfl (za rfl (qr Tryz.underlying35 rfl (mvx rfl (rnx (yc ?_))))))))))))));replace HF := HF.on E
    replace LW := LW.step E XLW;replace M3 := M3.step E XM3;replace E := erx (Mut [(some gb5)]) w10
    refine qm (ι := Nat) (fun j => [(1, .pointer (some ⟨gb1, 0, none⟩)), (5, .int .i64 ((k : Nat) : Int)), (6, .pointer (some ⟨gb5, 0, none⟩)), (21, .slice A fs.length ca), (22, .int .i64 ((fs.length : Nat) : Int)), (23, .int .i64 ((k : Nat) : Int)), (48, .slice p.ar f.rgs.length p.cr), (49, .int .i64 ((f.rgs.length : Nat) : Int)), (50, .int .i64 ((j : Nat) : Int))]) (fun j w' => Ext (Mut [(some gb5)]) w10 w' ∧ Blk w' gb5 37 (#[.string f.name, .int .i64 f.params, .int .i64 f.regs, .int .i64 f.frees, .bool f.gen, .int .i64 f.bound, .slice p.an f.names.length p.cn, .slice p.ac f.consts.length p.cc, .slice p.ai f.ins.length p.ci, .slice p.ar f.rgs.length p.cr]) ∧ (j ≤ f.rgs.length ∧ (f.rgs.take j).all (rgC f) = true)) (fun j => f.rgs.length - j) 0 ⟨rfl, rfl, rfl, rfl, rfl, rfl, rfl, rfl, rfl, trivial⟩ ⟨Ext.refl _ _, (by exact Bb5), ⟨Nat.zero_le _, by rw [List.take_zero]; rfl⟩⟩ ?_
    have LTb5 := (yo Bb5.lt);rintro j w13 ⟨M12, Bb5, ⟨hj, hall⟩⟩;have XM12 : Gro (Mut [(some gb5)]) (Mut [(some gb5)]) w10 := (Mut.grow Mut.none_ (fun k e => Or.inl (Mut.head k e)));replace E := E.trans M12;replace HF := HF.on E;replace LW := LW.step E XLW;replace M3 := M3.step E XM3;replace E := erx (Mut [(some gb5)]) w13;clear LTb5
    refine srx (za rfl (yv rfl rfl (rnx (zi (zt rfl (fun q3 => ?_) (fun q3 => ?_))))))
    ·
     have q3 := of_decide_eq_true q3;obtain ⟨r, hr⟩ : ∃ r, f.rgs[j]? = some r := ⟨_, List.getElem?_eq_getElem (by omega)⟩;obtain ⟨gr, ro, hAr, hgr, hcr⟩ := ((HF.on E).here.2).rgs.row.at hr
     refine zn (ze (zi (yc (srx (za rfl (qq (j := j) Tryz.underlying35 sz41 (congrArg (fun z ↦ some (Value.slice z f.rgs.length p.cr)) hAr) rfl rfl (by omega) (za rfl (xk (cs := (regV r).toArray) Tryz.underlying41 rfl sz41 rfl rfl (fun j v hj ↦ hcr j v (by simpa using hj)) (za rfl (qo zr41 ?_))))))))));intro gb14 w15 Bb14 Eb14 Gb14
     have Db14_b5 : Apart (some gb14) (some gb5) := Apart.of_lt (yo Bb5.lt) Gb14;have Db5_b14 := Db14_b5.symm;have Gb14 : _ ≤ gb14 := Nat.le_trans E.size Gb14;have GLb14 := Nat.le_trans LW.size Gb14;replace Bb5 := Bb5.extN Eb14 NotIn.nil;replace E := E.trans Eb14.no;replace E := E.cons (some gb14);replace XLW := Mut.grow XLW (fun k e => Or.inr (Nat.le_trans LW.size ((yb Gb14) k e)))
     replace XM12 := Mut.grow XM12 (fun k e => Or.inr (Nat.le_trans M12.size ((yb Gb14) k e)));refine ya (gz sz41 rfl rfl Bb14 rfl rfl rfl ?_);intro w16 Bx Eb14;replace Bb14 : Blk w16 gb14 41 #[.int .i64 r.fr, .int .i64 r.to, .int .i64 r.tg, .int .i64 r.d] := Bx;replace Bb5 := Bb5.extN Eb14 (NotIn.cons Db5_b14 NotIn.nil);replace E := E.step1 Eb14 Mut.head
     refine rnx (srx (za rfl (zb Tryz.underlying41 rfl sz3 (by decide) rfl (za rfl (zh Tryz.underlying3 rfl rfl Bb14 rfl (za rfl (yv rfl rfl (mvx rfl (yk 57 rfl (fun t1 => ?_) (fun t1 => ?_))))))))))
     ·
      replace t1 := of_decide_eq_true t1
      refine za rfl (zc rfl (za rfl (zc rfl (za rfl (zc rfl (za rfl (zc rfl (za rfl (zc rfl (za rfl (zq rfl rfl (mvx rfl (za rfl (zc rfl (za rfl (zc rfl (za rfl (zc rfl (za rfl (zc rfl (za rfl (zc rfl (za rfl (zc rfl (za rfl (zq rfl rfl (mvx rfl (za rfl (zc rfl (za rfl (zc rfl (za rfl (zc rfl (za rfl (zc rfl (za rfl (zc rfl (za rfl (zc rfl (za rfl (zc rfl (za rfl (zq rfl rfl (mvx rfl (za rfl (zc rfl (za rfl (zc rfl (za rfl (zc rfl (za rfl (zc rfl (za rfl (zc rfl (za rfl (zc rfl (za rfl (zq rfl rfl (rnx (yg rfl (srx (mvx rfl (avx rfl (avx rfl (avx rfl ?_)))))))))))))))))))))))))))))))))))))))))))))))))))))))))))))))))
      refine rnx (zo (zj (zd (zd (zj (zj (zd (zd (zj (zd (zm (rs := [.tmp 2, .tmp 3, .tmp 4]) (vs := [_, _, _]) rfl ⟨rfl, rfl, rfl, trivial⟩ ?_)))))))))))
      exact ⟨by first | (rw [hgo, ku hf h1 hbn (vf hr (oh (by unfold rgN; omega)))]; rfl) | (rw [hgo, ku hf h1 hbn (vf hr (rgC_tg (by simpa [yq] using t4)))]; rfl) | (rw [hgo, ku hf h1 hbn (vf hr (rgC_d (by simpa [yq] using t5)))]; rfl), (LW.step E XLW).toBelow⟩
     ·
      replace t1 := of_decide_eq_false t1
      refine onx rfl (zb Tryz.underlying41 rfl sz3 (by decide) rfl (onx rfl (zh Tryz.underlying3 rfl rfl Bb14 rfl (onx rfl (zb Tryz.underlying41 rfl sz3 (by decide) rfl (onx rfl (zh Tryz.underlying3 rfl rfl Bb14 rfl (onx rfl (qe rfl rfl (za rfl (zx rfl rfl (mvx rfl (yk 64 rfl (fun t2 => ?_) (fun t2 => ?_))))))))))))))
      ·
       replace t2 := of_decide_eq_true t2
       refine za rfl (zc rfl (za rfl (zc rfl (za rfl (zc rfl (za rfl (zc rfl (za rfl (zc rfl (za rfl (zc rfl (za rfl (zq rfl rfl (mvx rfl (za rfl (zc rfl (za rfl (zc rfl (za rfl (zc rfl (za rfl (zc rfl (za rfl (zc rfl (za rfl (zc rfl (za rfl (zc rfl (za rfl (zq rfl rfl (mvx rfl (za rfl (zc rfl (za rfl (zc rfl (za rfl (zc rfl (za rfl (zc rfl (za rfl (zc rfl (za rfl (zc rfl (za rfl (zq rfl rfl (rnx (yg rfl (srx (mvx rfl (avx rfl (avx rfl (anx rfl (zo (zj (zd (zd (zj ?_)))))))))))))))))))))))))))))))))))))))))))))))))))))))))
       refine zj (zd (zd (zj (zd (zm (rs := [.tmp 2, .tmp 3, .tmp 4]) (vs := [_, _, _]) rfl ⟨rfl, rfl, rfl, trivial⟩ ?_)))))
       exact ⟨by first | (rw [hgo, ku hf h1 hbn (vf hr (oh (by unfold rgN; omega)))]; rfl) | (rw [hgo, ku hf h1 hbn (vf hr (rgC_tg (by simpa [yq] using t4)))]; rfl) | (rw [hgo, ku hf h1 hbn (vf hr (rgC_d (by simpa [yq] using t5)))]; rfl), (LW.step E XLW).toBelow⟩
      ·
       replace t2 := of_decide_eq_false t2
       refine onx rfl (zb Tryz.underlying41 rfl sz3 (by decide) rfl (onx rfl (zh Tryz.underlying3 rfl rfl Bb14 rfl (onx rfl (zb Tryz.underlying37 rfl sz34 (by decide) rfl (onx rfl (zh Tryz.underlying34 rfl rfl Bb5 rfl (onx rfl (qr Tryz.underlying34 rfl (onx rfl (qe rfl rfl (za rfl (zx rfl rfl (mvx rfl (yk 72 rfl (fun t3 => ?_) (fun t3 => ?_))))))))))))))))
       ·
        replace t3 := of_decide_eq_true t3
        refine za rfl (zc rfl (za rfl (zc rfl (za rfl (zc rfl (za rfl (zc rfl (za rfl (zc rfl (za rfl (zc rfl (za rfl (zc rfl (za rfl (zq rfl rfl (mvx rfl (za rfl (zc rfl (za rfl (zc rfl (za rfl (zc rfl (za rfl (zc rfl (za rfl (zc rfl (za rfl (zc rfl (za rfl (zq rfl rfl (rnx (yg rfl (srx (mvx rfl (avx rfl (avx rfl (anx rfl (zo (zj (zd (zd (zj (zj (zd (zd (zj (zd (zm (rs := [.tmp 2, .tmp 3, .tmp 4]) (vs := [_, _, _]) rfl ⟨rfl, rfl, rfl, trivial⟩ ?_))))))))))))))))))))))))))))))))))))))))))))))))
        exact ⟨by first | (rw [hgo, ku hf h1 hbn (vf hr (oh (by unfold rgN; omega)))]; rfl) | (rw [hgo, ku hf h1 hbn (vf hr (rgC_tg (by simpa [yq] using t4)))]; rfl) | (rw [hgo, ku hf h1 hbn (vf hr (rgC_d (by simpa [yq] using t5)))]; rfl), (LW.step E XLW).toBelow⟩
       ·
        replace t3 := of_decide_eq_false t3
        refine onx rfl (zb Tryz.underlying41 rfl sz3 (by decide) rfl (onx rfl (zh Tryz.underlying3 rfl rfl Bb14 rfl (onx rfl (zb Tryz.underlying37 rfl sz34 (by decide) rfl (onx rfl (zh Tryz.underlying34 rfl rfl Bb5 rfl (onx rfl (qr Tryz.underlying34 rfl (onx rfl (yh en9 rfl ((zez _ true r.tg (((f.ins.length : Nat)) : Int)).mono ?_))))))))))))
        rintro e w17 ⟨rfl, hb⟩;refine ⟨_, rfl, ?_⟩;have Ec := Ext.of_below hb No;replace Bb14 := Bb14.extN Ec NotIn.nil;replace Bb5 := Bb5.extN Ec NotIn.nil;replace E := E.trans Ec.no;refine onx rfl (vd rfl (za rfl (zx rfl rfl (mvx rfl (yk 81 rfl (fun t4 => ?_) (fun t4 => ?_))))))
        ·
         refine za rfl (zc rfl (za rfl (zc rfl (za rfl (zc rfl (za rfl (zc rfl (za rfl (zc rfl (za rfl (zc rfl (za rfl (zq rfl rfl (rnx (yg rfl (srx (mvx rfl (avx rfl (avx rfl (anx rfl (zo (zj (zd (zd (zj (zj (zd (zd (zj (zd (zm (rs := [.tmp 2, .tmp 3, .tmp 4]) (vs := [_, _, _]) rfl ⟨rfl, rfl, rfl, trivial⟩ ?_)))))))))))))))))))))))))))))))
         exact ⟨by first | (rw [hgo, ku hf h1 hbn (vf hr (oh (by unfold rgN; omega)))]; rfl) | (rw [hgo, ku hf h1 hbn (vf hr (rgC_tg (by simpa [yq] using t4)))]; rfl) | (rw [hgo, ku hf h1 hbn (vf hr (rgC_d (by simpa [yq] using t5)))]; rfl), (LW.step E XLW).toBelow⟩
        ·
         refine onx rfl (zb Tryz.underlying41 rfl sz3 (by decide) rfl (onx rfl (zh Tryz.underlying3 rfl rfl Bb14 rfl (onx rfl (zb Tryz.underlying37 rfl sz3 (by decide) rfl (onx rfl (zh Tryz.underlying3 rfl rfl Bb5 rfl (onx rfl (yh en9 rfl ((zez _ true r.d f.regs).mono ?_))))))))));rintro e w18 ⟨rfl, hb⟩;refine ⟨_, rfl, ?_⟩
         have Ec := Ext.of_below hb No;replace Bb14 := Bb14.extN Ec NotIn.nil;replace Bb5 := Bb5.extN Ec NotIn.nil;replace E := E.trans Ec.no;refine onx rfl (vd rfl (za rfl (zx rfl rfl (rnx (zt rfl (fun t5 => ?_) (fun t5 => ?_))))))
         ·
          refine zp 88 (.bool true) rfl (congrArg Value.bool t5) (srx (mvx rfl (avx rfl (avx rfl (anx rfl (zo (zj (zd (zd (zj (zj (zd (zd (zj (zd (zm (rs := [.tmp 2, .tmp 3, .tmp 4]) (vs := [_, _, _]) rfl ⟨rfl, rfl, rfl, trivial⟩ ?_))))))))))))))))
          exact ⟨by first | (rw [hgo, ku hf h1 hbn (vf hr (oh (by unfold rgN; omega)))]; rfl) | (rw [hgo, ku hf h1 hbn (vf hr (rgC_tg (by simpa [yq] using t4)))]; rfl) | (rw [hgo, ku hf h1 hbn (vf hr (rgC_d (by simpa [yq] using t5)))]; rfl), (LW.step E XLW).toBelow⟩
         ·
          refine zp 88 (.bool false) rfl (congrArg Value.bool t5) (zn (zf (ze (zg (za rfl (yp rfl rfl (zw (by omega)) (mvx rfl (yd ?_))))))))
          exact yr (j + 1) (by show f.rgs.length - (j + 1) < f.rgs.length - j; omega) ⟨rfl, rfl, rfl, rfl, rfl, rfl, rfl, rfl, rfl, trivial⟩ ⟨M12.step E XM12, (by exact Bb5), ⟨by omega, gh hr hall (rgC_ok (by omega) (by omega) (by omega) (by simpa [yq] using t4) (by simpa [yq] using t5))⟩⟩
    ·
     have q3 := of_decide_eq_false q3;refine yw (zl (zl (zy (zf (ze (zg (za rfl (yp rfl rfl (zw (by omega)) (mvx rfl (yd ?_))))))))))
     exact yr (k + 1) (by show fs.length - (k + 1) < fs.length - k; omega) ⟨rfl, rfl, rfl, rfl, trivial⟩ ⟨M3.step E XM3, ⟨by omega, by rw [hgo, go_step hf h1 hbn (kh hall (by omega))]⟩⟩
  ·
   have h1 := Bool.eq_false_iff.2 h1;refine zp 31 (.bool true) rfl ((by rw [h1]; rfl : (.bool (!(gg f k)) : Value) = _)) (yg rfl (srx (mvx rfl (avx rfl (avx rfl (anx rfl (zo (zd (zj (zd (zd (zj (zd (zm (rs := [.tmp 2, .tmp 3, .tmp 4]) (vs := [_, _, _]) rfl ⟨rfl, rfl, rfl, trivial⟩ ?_))))))))))))))
   exact ⟨by rw [hgo, go_head hf h1]; rfl, (LW.step E XLW).toBelow⟩
 ·
  have q := of_decide_eq_false q;refine yw (zl (zl (zy (ze (srx (avx rfl (avx rfl (anx rfl (zo (zm (rs := [.tmp 2, .tmp 3, .tmp 4]) (vs := [_, _, _]) rfl ⟨rfl, rfl, rfl, trivial⟩ ?_))))))))));exact ⟨by rw [hgo, go_end (by omega)]; rfl, (LW.step E XLW).toBelow⟩
set_option maxHeartbeats 1000000 in
theorem rcheck_any : Calls Tryz.prog 5 #[.agg #[.slice A fs.length ca]] w fun e w' => e = .returned (res3 (kw fs)) ∧ Below w.heap.size w w' := by
 obtain ⟨te, pe, hE⟩ := hE;have hfl := hfs.len;refine yn Tryz.func5 rfl Tryz.ntmps5 rfl ?_;have HF : Per (No) w (fun _ => True) := Per.true_;have LW := erx (No) w;have XLW := grx (No) w;have E := erx (No) w;replace HF := HF.on E;replace LW := LW.step E XLW;replace E := erx (No) w;replace HF := HF.and (Per.fsA hfs (fun _ h => h.elim));replace HF := HF.on E;replace LW := LW.step E XLW
 replace E := erx (No) w;replace HF := HF.and (Per.tabs hT (fun _ h => h.elim));replace HF := HF.on E;replace LW := LW.step E XLW;replace E := erx (No) w;replace HF := HF.and (Per.cellA hE (fun _ h => h.elim));refine srx (za rfl (vq rfl ?_));intro gb1 w2 Bb1 Eb1 Gb1;have Gb1 : _ ≤ gb1 := Nat.le_trans E.size Gb1;have GLb1 := Nat.le_trans LW.size Gb1;replace E := E.trans Eb1.no
 replace HF := HF.cons (yb Gb1);replace E := E.cons (some gb1);replace XLW := Mut.grow XLW (fun k e => Or.inr (Nat.le_trans LW.size ((yb Gb1) k e)));replace HF := HF.on E;replace LW := LW.step E XLW;have SB : ∀ q9, No q9 → Mut [(some gb1)] q9 := (Mut.skip Mut.nil_);replace HF := HF.less SB;replace XLW := fun k h => XLW k (SB k h);clear SB;replace E := erx (No) w2
 replace HF := HF.and (Per.blkN Bb1 NotIn.nil);refine avx rfl (avx rfl (anx rfl (zi (srx (za rfl (zb Tryz.underlying24 rfl sz22 (by decide) rfl (za rfl (zh Tryz.underlying22 rfl rfl (HF.on E).here.2 rfl (za rfl (qr Tryz.underlying22 rfl (za rfl (yv rfl rfl (mvx rfl (yk 12 rfl (fun h1 => ?_) (fun h1 => ?_)))))))))))))))
 ·
  replace h1 := of_decide_eq_true h1;refine za rfl (zc rfl (za rfl (zc rfl (za rfl (zc rfl (za rfl (zc rfl (za rfl (zq rfl rfl (rnx (yg rfl (srx (avx rfl (avx rfl (anx rfl (zo (zd (zm (rs := [.tmp 2, .tmp 3, .tmp 4]) (vs := [_, _, _]) rfl ⟨rfl, rfl, rfl, trivial⟩ ?_))))))))))))))))))
  exact ⟨by rw [zgv (by omega)]; rfl, (LW.step E XLW).toBelow⟩
 replace h1 := of_decide_eq_false h1;refine onx rfl (zb Tryz.underlying24 rfl sz22 (by decide) rfl (onx rfl (zh Tryz.underlying22 rfl rfl (HF.on E).here.2 rfl (onx rfl (qr Tryz.underlying22 rfl (onx rfl (qe rfl rfl (za rfl (zx rfl rfl (rnx (zt rfl (fun h2 => ?_) (fun h2 => ?_))))))))))))
 ·
  refine zp 17 (.bool true) rfl (congrArg Value.bool h2) ?_;replace h2 := of_decide_eq_true h2;refine srx (avx rfl (avx rfl (anx rfl (zo (zd (zm (rs := [.tmp 2, .tmp 3, .tmp 4]) (vs := [_, _, _]) rfl ⟨rfl, rfl, rfl, trivial⟩ ?_))))));exact ⟨by rw [zgv (by omega)]; rfl, (LW.step E XLW).toBelow⟩
 refine zp 17 (.bool false) rfl (congrArg Value.bool h2) ?_;replace h2 := of_decide_eq_false h2;refine zn (ze (zi (srx (anx rfl (yc ?_)))));have hcg := yfq (fs := fs) (by omega);replace HF := HF.on E;replace LW := LW.step E XLW;replace E := erx (No) w2
 refine qm (ι := Nat) (fun k => [(1, .pointer (some ⟨gb1, 0, none⟩)), (5, .int .i64 ((k : Nat) : Int))]) (fun k w' => Ext (No) w2 w' ∧ (k ≤ fs.length ∧ kw fs = goF fs k (fs.drop k))) (fun k => fs.length - k) 0 ⟨rfl, rfl, trivial⟩ ⟨Ext.refl _ _, ⟨Nat.zero_le _, hcg⟩⟩ ?_;rintro k w4 ⟨M3, ⟨hk, hgo⟩⟩;have XM3 := grx (No) w2;replace E := E.trans M3;replace HF := HF.on E
 replace LW := LW.step E XLW;replace E := erx (No) w4;refine zi (srx (mvx rfl (za rfl (zb Tryz.underlying24 rfl sz22 (by decide) rfl (za rfl (zh Tryz.underlying22 rfl rfl (HF.on E).here.2 rfl (za rfl (qr Tryz.underlying22 rfl (za rfl (yv rfl rfl (rnx (zt rfl (fun q => ?_) (fun q => ?_)))))))))))))
 ·
  have q := of_decide_eq_true q;have hlt : k < fs.length := by omega
  obtain ⟨f, hf⟩ : ∃ f, fs[k]? = some f := ⟨_, List.getElem?_eq_getElem hlt⟩;obtain ⟨g, o, p, hA, hg, hF, hc⟩ := ((HF.on E).here.1.1.1.2).at hf;have hil := hF.ins.len;have hrl := hF.rgs.len;have hcs := hfs.strs f (List.mem_of_getElem? hf);replace HF := HF.on E;replace LW := LW.step E XLW;replace M3 := M3.step E XM3;replace E := erx (No) w4;replace HF := HF.and (Per.fnA hF (fun _ h => h.elim))
  refine zn (ze (zi (yc (srx (za rfl (zb Tryz.underlying24 rfl sz22 (by decide) rfl (za rfl (zh Tryz.underlying22 rfl rfl (HF.on E).here.1.2 rfl (mvx rfl (za rfl (qq (j := k) Tryz.underlying22 zkv (congrArg (fun z ↦ some (Value.slice z fs.length ca)) hA) rfl rfl hlt (za rfl (xk (cs := (fnC p f).toArray) Tryz.underlying37 rfl zkv rfl rfl (fun j v hj ↦ hc j v (by simpa using hj)) (za rfl (qo zr37 ?_)))))))))))))))
  intro gb5 w6 Bb5 Eb5 Gb5;have Gb5 : _ ≤ gb5 := Nat.le_trans E.size Gb5;have GLb5 := Nat.le_trans LW.size Gb5;replace E := E.trans Eb5.no;replace HF := HF.cons (yb Gb5);replace E := E.cons (some gb5);replace XLW := Mut.grow XLW (fun k e => Or.inr (Nat.le_trans LW.size ((yb Gb5) k e)));replace XM3 := Mut.grow XM3 (fun k e => Or.inr (Nat.le_trans M3.size ((yb Gb5) k e)))
  refine ya (gz zkv rfl rfl Bb5 rfl rfl rfl ?_);intro w7 Bx Eb5;replace Bb5 : Blk w7 gb5 37 #[.string f.name, .int .i64 f.params, .int .i64 f.regs, .int .i64 f.frees, .bool f.gen, .int .i64 f.bound, .slice p.an f.names.length p.cn, .slice p.ac f.consts.length p.cc, .slice p.ai f.ins.length p.ci, .slice p.ar f.rgs.length p.cr] := Bx;replace E := E.step1 Eb5 Mut.head
  refine rnx (zi (srx (za rfl (yf Tryz.underlying37 rfl zkv rfl Bb5 rfl (mvx rfl (za rfl (yh en10 rfl ((rhead_any _ p f n k (HF.on E).here.2 hcs (HF.on E).here.1.1.1.2 ⟨te, pe, (HF.on E).here.1.1.2⟩).mono ?_))))))));rintro e w8 ⟨rfl, hb⟩;refine ⟨_, rfl, ?_⟩;have Ec := Ext.of_below hb No;replace Bb5 := Bb5.extN Ec NotIn.nil;replace E := E.trans Ec.no
  refine za rfl (vd rfl (rnx ?_));by_cases h1 : gg f k = true
  ·
   refine zp 33 (.bool false) rfl ((by rw [h1]; rfl : (.bool (!(gg f k)) : Value) = _)) (ye rfl (zn (ze (zi (srx (anx rfl (yc ?_)))))));replace HF := HF.on E;replace LW := LW.step E XLW;replace M3 := M3.step E XM3;replace E := erx (Mut [(some gb5)]) w8
   refine qm (ι := Nat) (fun j => [(1, .pointer (some ⟨gb1, 0, none⟩)), (5, .int .i64 ((k : Nat) : Int)), (6, .pointer (some ⟨gb5, 0, none⟩)), (7, .int .i64 ((j : Nat) : Int))]) (fun j w' => Ext (Mut [(some gb5)]) w8 w' ∧ Blk w' gb5 37 (#[.string f.name, .int .i64 f.params, .int .i64 f.regs, .int .i64 f.frees, .bool f.gen, .int .i64 f.bound, .slice p.an f.names.length p.cn, .slice p.ac f.consts.length p.cc, .slice p.ai f.ins.length p.ci, .slice p.ar f.rgs.length p.cr]) ∧ (j ≤ f.ins.length ∧ xo fs f 0 f.ins = xo fs f j (f.ins.drop j))) (fun j => f.ins.length - j) 0 ⟨rfl, rfl, rfl, rfl, trivial⟩ ⟨Ext.refl _ _, (by exact Bb5), ⟨Nat.zero_le _, rfl⟩⟩ ?_
   have LTb5 := (yo Bb5.lt);rintro j w10 ⟨M9, Bb5, ⟨hj, hba⟩⟩;have XM9 : Gro (Mut [(some gb5)]) (Mut [(some gb5)]) w8 := (Mut.grow Mut.none_ (fun k e => Or.inl (Mut.head k e)));replace E := E.trans M9;replace HF := HF.on E;replace LW := LW.step E XLW;replace M3 := M3.step E XM3;replace E := erx (Mut [(some gb5)]) w10;clear LTb5
   refine zi (srx (mvx rfl (za rfl (zb Tryz.underlying37 rfl sz34 (by decide) rfl (za rfl (zh Tryz.underlying34 rfl rfl Bb5 rfl (za rfl (qr Tryz.underlying34 rfl (za rfl (yv rfl rfl (rnx (zt rfl (fun q2 => ?_) (fun q2 => ?_)))))))))))))
   ·
    have q2 := of_decide_eq_true q2;obtain ⟨i, hi⟩ : ∃ i, f.ins[j]? = some i := ⟨_, List.getElem?_eq_getElem (by omega)⟩
    refine zn (ze (zi (yc (srx (za rfl (yf Tryz.underlying24 rfl sz24 rfl (HF.on E).here.1.2 rfl (za rfl (yf Tryz.underlying37 rfl zkv rfl Bb5 rfl (mvx rfl (za rfl (yh en11 rfl ((rinsR_any _ A n ca fs (HF.on E).here.1.1.1.1.2 p f (HF.on E).here.2 j i hi).mono ?_))))))))))));rintro e w11 ⟨rfl, hb⟩;refine ⟨_, rfl, ?_⟩;have Ec := Ext.of_below hb No
    replace Bb5 := Bb5.extN Ec NotIn.nil;replace E := E.trans Ec.no;refine za rfl (vd rfl (rnx ?_));by_cases h2 : jq fs f j i = true
    ·
     refine zp 46 (.bool false) rfl ((by rw [h2]; rfl : (.bool (!(jq fs f j i)) : Value) = _)) (ye rfl (zn (zf (ze (zg (mvx rfl (za rfl (yp rfl rfl (zw (by omega)) (avx rfl (yd ?_))))))))))
     exact yr (j + 1) (by show f.ins.length - (j + 1) < f.ins.length - j; omega) ⟨rfl, rfl, rfl, rfl, trivial⟩ ⟨M9.step E XM9, (by exact Bb5), ⟨by omega, by rw [hba, bad_step hi h2]⟩⟩
    ·
     have h2 := Bool.eq_false_iff.2 h2
     refine zp 46 (.bool true) rfl ((by rw [h2]; rfl : (.bool (!(jq fs f j i)) : Value) = _)) (yg rfl (srx (mvx rfl (mvx rfl (avx rfl (avx rfl (anx rfl (zo (zj (zd (zd (zj (zd (zj (zd (zd (zj (zd (zm (rs := [.tmp 2, .tmp 3, .tmp 4]) (vs := [_, _, _]) rfl ⟨rfl, rfl, rfl, trivial⟩ ?_)))))))))))))))))))
     exact ⟨by rw [hgo, go_ins hf h1 (hba.trans (bad_here hi h2))]; rfl, (LW.step E XLW).toBelow⟩
   ·
    have q2 := of_decide_eq_false q2;have hbn := hba.trans (bad_end (by omega));refine yw (zl (zl (zy (ze (srx (za rfl (yf Tryz.underlying37 rfl zkv rfl Bb5 rfl (za rfl (yh en12 rfl ((regions_any _ p f n (HF.on E).here.2).mono ?_))))))))));rintro e w12 ⟨rfl, hb⟩;refine ⟨_, rfl, ?_⟩;have Ec := Ext.of_below hb No
    replace Bb5 := Bb5.extN Ec NotIn.nil;replace E := E.trans Ec.no;refine za rfl (vd rfl (rnx ?_));by_cases h3 : f.rgs.all (rgC f) = true
    ·
     refine zp 51 (.bool false) rfl ((by rw [h3]; rfl : (.bool (!(f.rgs.all (rgC f))) : Value) = _)) (ye rfl (zn (zf (ze (zg (mvx rfl (za rfl (yp rfl rfl (zw (by omega)) (avx rfl (yd ?_))))))))))
     exact yr (k + 1) (by show fs.length - (k + 1) < fs.length - k; omega) ⟨rfl, rfl, trivial⟩ ⟨M3.step E XM3, ⟨by omega, by rw [hgo, go_step hf h1 hbn h3]⟩⟩
    ·
     have h3 := Bool.eq_false_iff.2 h3;refine zp 51 (.bool true) rfl ((by rw [h3]; rfl : (.bool (!(f.rgs.all (rgC f))) : Value) = _)) (yg rfl (srx (mvx rfl (avx rfl (avx rfl (anx rfl (zo (zj (zd (zd (zj (zd (zm (rs := [.tmp 2, .tmp 3, .tmp 4]) (vs := [_, _, _]) rfl ⟨rfl, rfl, rfl, trivial⟩ ?_)))))))))))))
     exact ⟨by rw [hgo, ku hf h1 hbn h3]; rfl, (LW.step E XLW).toBelow⟩
  ·
   have h1 := Bool.eq_false_iff.2 h1;refine zp 33 (.bool true) rfl ((by rw [h1]; rfl : (.bool (!(gg f k)) : Value) = _)) (yg rfl (srx (mvx rfl (avx rfl (avx rfl (anx rfl (zo (zd (zj (zd (zd (zj (zd (zm (rs := [.tmp 2, .tmp 3, .tmp 4]) (vs := [_, _, _]) rfl ⟨rfl, rfl, rfl, trivial⟩ ?_))))))))))))))
   exact ⟨by rw [hgo, go_head hf h1]; rfl, (LW.step E XLW).toBelow⟩
 ·
  have q := of_decide_eq_false q;refine yw (zl (zl (zy (ze (srx (avx rfl (avx rfl (anx rfl (zo (zm (rs := [.tmp 2, .tmp 3, .tmp 4]) (vs := [_, _, _]) rfl ⟨rfl, rfl, rfl, trivial⟩ ?_))))))))));exact ⟨by rw [hgo, go_end (by omega)]; rfl, (LW.step E XLW).toBelow⟩
end
end Go.Proofs.YtmjemknimipnjaaGreatDoor
namespace Go.Proofs.YtmjemknimipnjaaGreatDoor
open Go.RowKit
set_option maxRecDepth 100000
local instance decI (x : Int) : Decidable (I64 x) := by unfold I64; infer_instance
def oneI : LIns := ⟨41, 0, 0, 0, 0, 0, []⟩
def oneF : LFn := ⟨⟨#[]⟩, 0, 1, 0, false, 0, [], [], [oneI], []⟩
def oneP (g : Nat) : Pl := ⟨none, 0, none, 0, some ⟨g, 0, none⟩, 1, none, 0⟩
theorem check_one : kw [oneF] = (0, 0, 0) := by
 have h : gg oneF 0 = true := by rw [zaq]; rfl
 have h2 : xo [oneF] oneF 0 oneF.ins = none := by decide +kernel
 rw [yfq (by decide)];exact (go_step (fs := [oneF]) (k := 0) rfl h h2 rfl).trans (go_end (by decide))
theorem check_nil : kw [] = (-1, -1, 3) := zgv (by decide)
theorem one_fs {w : World} {g6 g8 : Nat} (h6 : Blk w g6 46 #[.int .i64 41, .int .i64 0, .int .i64 0, .int .i64 0, .int .i64 0, .int .i64 0, .slice none 0 0]) (h8 : Blk w g8 37 (fnC (oneP g6) oneF).toArray) : FsA w.heap.size w (some ⟨g8, 0, none⟩) [oneF] := by
 have hI : InsA w.heap.size w (some ⟨g6, 0, none⟩) [oneI] := by
  refine ⟨by decide, fun _ => ⟨g6, 0, rfl, h6.lt, fun j x hx => ?_⟩⟩;match j, hx with
  | 0, hx =>
   obtain rfl := Option.some.inj hx;refine ⟨⟨by decide, by decide, by decide, by decide, by decide, by decide⟩, none, 0, by decide, ⟨by decide, fun x h => (by cases h), fun h => absurd rfl h⟩, fun i v hv => ?_⟩;show w.cell? ⟨g6, 0 + 0 * 7 + i, none⟩ = _
   rw [show 0 + 0 * 7 + i = i by omega, h6.cell, List.getElem?_toArray];exact hv
  | j + 1, hx => cases hx
 have hF : FnA w.heap.size w (oneP g6) oneF := ⟨by decide, by decide, by decide, by decide, by decide, ⟨by decide, fun x h => (by cases h), fun h => absurd rfl h⟩, ⟨by decide, fun x h => (by cases h), fun h => absurd rfl h⟩, hI, ⟨by decide, fun x h => (by cases h), fun h => absurd rfl h⟩, Nat.le_refl _⟩;refine ⟨by decide, fun _ => ⟨g8, 0, rfl, h8.lt, fun j x hx => ?_⟩, fun f hf c hc => ?_⟩
 · match j, hx with
   | 0, hx =>
    obtain rfl := Option.some.inj hx;refine ⟨oneP g6, hF, fun i v hv => ?_⟩;show w.cell? ⟨g8, 0 + 0 * 10 + i, none⟩ = _
    rw [show 0 + 0 * 10 + i = i by omega, h8.cell, List.getElem?_toArray];exact hv
   | j + 1, hx => cases hx
 · obtain rfl := List.mem_singleton.1 hf;cases hc
theorem no_fs (w : World) : FsA w.heap.size w none [] := ⟨by decide, fun h => absurd rfl h, fun f hf => (by cases hf)⟩
theorem ints_blk {w : World} {g n : Nat} {xs : List Int} (hb : Blk w g 3 (jf xs).toArray) (hg : g < n) (hl : 8 * xs.length ≤ 140737488355000) (hi : ∀ x ∈ xs, I64 x) : IntsA n w (some ⟨g, 0, none⟩) xs :=
 ⟨hl, hi, fun _ => ⟨g, 0, rfl, hg, fun j x hx => by
  show w.cell? ⟨g, 0 + j * 1, none⟩ = _
  rw [hb.cell, List.getElem?_toArray, Nat.zero_add, Nat.mul_one];unfold jf;rw [List.getElem?_map, hx]; rfl⟩⟩
theorem i64_three : ∀ x ∈ [(2 : Int), 3, 2], I64 x := by decide
theorem i64_two : ∀ x ∈ [(3 : Int), 2], I64 x := by decide
def readI : LIns := ⟨21, 1, 2, 0, 0, 0, [3, 2]⟩
theorem ykq : zmx readI = [2, 3, 2] := by decide +kernel
attribute [local irreducible] OW RS
theorem fill1x10 (a0 a1 a2 a3 a4 a5 a6 a7 a8 a9 : Value) : Instr.fill (fun i => some (i * 10, 10)) ((Array.range (1 * 10)).map ((if 1 * 10 = 0 then #[] else (Value.agg #[.string ⟨#[]⟩, .int .i64 0, .int .i64 0, .int .i64 0, .bool false, .int .i64 0, .slice none 0 0, .slice none 0 0, .slice none 0 0, .slice none 0 0]).cells)[· % (if 1 * 10 = 0 then #[] else (Value.agg #[.string ⟨#[]⟩, .int .i64 0, .int .i64 0, .int .i64 0, .bool false, .int .i64 0, .slice none 0 0, .slice none 0 0, .slice none 0 0, .slice none 0 0]).cells).size]!)) [(0, .agg #[a0, a1, a2, a3, a4, a5, a6, a7, a8, a9])] = some #[a0, a1, a2, a3, a4, a5, a6, a7, a8, a9] := by
 rw [vz];kernel_rfl
set_option maxHeartbeats 2000000 in
theorem known_any (w : World) {bp op cp bf of cf bl ol cl : Nat} (hT : Tabs bp op cp bf of cf bl ol cl w) (hE : ∃ te pe, w.cell? ⟨2, 0, none⟩ = some (.iface te pe)) : Calls Tryz.prog 6 #[] w fun e w' => e = .returned (.bool true) ∧ Below w.heap.size w w' := by
 obtain ⟨te, pe, hE⟩ := hE;refine yn Tryz.func6 rfl Tryz.ntmps6 rfl ?_;have HF : Per (No) w (fun _ => True) := Per.true_;have LW := erx (No) w;have XLW := grx (No) w;have E := erx (No) w;replace HF := HF.on E;replace LW := LW.step E XLW;replace E := erx (No) w;replace HF := HF.and (Per.tabs hT (fun _ h => h.elim));replace HF := HF.on E;replace LW := LW.step E XLW;replace E := erx (No) w
 replace HF := HF.and (Per.cellA hE (fun _ h => h.elim));refine srx (anx rfl (srx (za rfl (vb (cs := #[.int .i64 3, .int .i64 2]) Tryz.underlying44 sz3 zr3 (by decide) rfl (by rw [vz]; rfl) ?_))));intro gb1 w2 Bb1 Eb1 Gb1;have Gb1 : _ ≤ gb1 := Nat.le_trans E.size Gb1;have GLb1 := Nat.le_trans LW.size Gb1;replace E := E.trans Eb1.no;replace HF := HF.cons (yb Gb1)
 replace E := E.cons (some gb1);replace XLW := Mut.grow XLW (fun k e => Or.inr (Nat.le_trans LW.size ((yb Gb1) k e)));replace HF := HF.on E;replace LW := LW.step E XLW;have SB : ∀ q9, No q9 → Mut [(some gb1)] q9 := (Mut.skip Mut.nil_);replace HF := HF.less SB;replace XLW := fun k h => XLW k (SB k h);clear SB;replace E := erx (No) w2;replace HF := HF.and (Per.blkN Bb1 NotIn.nil)
 refine za rfl (qt (cs := #[.int .i64 21, .int .i64 1, .int .i64 2, .int .i64 0, .int .i64 0, .int .i64 0, .slice (some ⟨gb1, 0, none⟩) 2 2]) pl46 zr46 rfl rfl (za rfl (qo zr46 ?_)));intro gb3 w4 Bb3 Eb3 Gb3;have Gb3 : _ ≤ gb3 := Nat.le_trans E.size Gb3;have GLb3 := Nat.le_trans LW.size Gb3;replace E := E.trans Eb3.no;replace HF := HF.cons (yb Gb3)
 replace E := E.cons (some gb3);replace XLW := Mut.grow XLW (fun k e => Or.inr (Nat.le_trans LW.size ((yb Gb3) k e)));refine ya (gz sz46 rfl rfl Bb3 rfl rfl rfl ?_);intro w5 Bx Eb3;replace Bb3 : Blk w5 gb3 46 #[.int .i64 21, .int .i64 1, .int .i64 2, .int .i64 0, .int .i64 0, .int .i64 0, .slice (some ⟨gb1, 0, none⟩) 2 2] := Bx;replace E := E.step1 Eb3 Mut.head
 replace HF := HF.on E;replace LW := LW.step E XLW;have SB : ∀ q9, No q9 → Mut [(some gb3)] q9 := (Mut.skip Mut.nil_);replace HF := HF.less SB;replace XLW := fun k h => XLW k (SB k h);clear SB;replace E := erx (No) w5;replace HF := HF.and (Per.blkN Bb3 NotIn.nil)
 refine rnx (srx (za rfl (qt (cs := #[.int .i64 41, .int .i64 0, .int .i64 0, .int .i64 0, .int .i64 0, .int .i64 0, .slice none 0 0]) pl46 zr46 rfl rfl (za rfl (vb (cs := #[.int .i64 41, .int .i64 0, .int .i64 0, .int .i64 0, .int .i64 0, .int .i64 0, .slice none 0 0]) Tryz.underlying34 sz46 zr46 (by decide) rfl (by rw [vz]; rfl) ?_)))));intro gb6 w7 Bb6 Eb6 Gb6
 have Gb6 : _ ≤ gb6 := Nat.le_trans E.size Gb6;have GLb6 := Nat.le_trans LW.size Gb6;replace E := E.trans Eb6.no;replace HF := HF.cons (yb Gb6);replace E := E.cons (some gb6);replace XLW := Mut.grow XLW (fun k e => Or.inr (Nat.le_trans LW.size ((yb Gb6) k e)));replace HF := HF.on E;replace LW := LW.step E XLW;have SB : ∀ q9, No q9 → Mut [(some gb6)] q9 := (Mut.skip Mut.nil_)
 replace HF := HF.less SB;replace XLW := fun k h => XLW k (SB k h);clear SB;replace E := erx (No) w7;replace HF := HF.and (Per.blkN Bb6 NotIn.nil)
 refine za rfl (qt (cs := #[.string ⟨#[]⟩, .int .i64 0, .int .i64 1, .int .i64 0, .bool false, .int .i64 0, .slice none 0 0, .slice none 0 0, .slice (some ⟨gb6, 0, none⟩) 1 1, .slice none 0 0]) pl37 zr37 rfl rfl (za rfl (vb (cs := #[.string ⟨#[]⟩, .int .i64 0, .int .i64 1, .int .i64 0, .bool false, .int .i64 0, .slice none 0 0, .slice none 0 0, .slice (some ⟨gb6, 0, none⟩) 1 1, .slice none 0 0]) Tryz.underlying22 zkv zr37 (by decide) rfl (fill1x10 (.string ⟨#[]⟩) (.int .i64 0) (.int .i64 1) (.int .i64 0) (.bool false) (.int .i64 0) (.slice none 0 0) (.slice none 0 0) (.slice (some ⟨gb6, 0, none⟩) 1 1) (.slice none 0 0)) ?_)))
 intro gb8 w9 Bb8 Eb8 Gb8;have Gb8 : _ ≤ gb8 := Nat.le_trans E.size Gb8;have GLb8 := Nat.le_trans LW.size Gb8;replace E := E.trans Eb8.no;replace HF := HF.cons (yb Gb8);replace E := E.cons (some gb8);replace XLW := Mut.grow XLW (fun k e => Or.inr (Nat.le_trans LW.size ((yb Gb8) k e)));replace HF := HF.on E;replace LW := LW.step E XLW
 have SB : ∀ q9, No q9 → Mut [(some gb8)] q9 := (Mut.skip Mut.nil_);replace HF := HF.less SB;replace XLW := fun k h => XLW k (SB k h);clear SB;replace E := erx (No) w9;replace HF := HF.and (Per.blkN Bb8 NotIn.nil);refine za rfl (qt (cs := #[.slice (some ⟨gb8, 0, none⟩) 1 1]) pl24 zr24 rfl rfl (za rfl (qo zr24 ?_)));intro gb10 w11 Bb10 Eb10 Gb10
 have Gb10 : _ ≤ gb10 := Nat.le_trans E.size Gb10;have GLb10 := Nat.le_trans LW.size Gb10;replace E := E.trans Eb10.no;replace HF := HF.cons (yb Gb10);replace E := E.cons (some gb10);replace XLW := Mut.grow XLW (fun k e => Or.inr (Nat.le_trans LW.size ((yb Gb10) k e)));refine ya (zr sz24 rfl rfl Bb10 rfl rfl (Nat.le_of_ble_eq_true rfl) ?_);intro w12 Bx Eb10;replace Bb10 := Bx
 replace E := E.step1 Eb10 Mut.head;replace HF := HF.on E;replace LW := LW.step E XLW;have SB : ∀ q9, No q9 → Mut [(some gb10)] q9 := (Mut.skip Mut.nil_);replace HF := HF.less SB;replace XLW := fun k h => XLW k (SB k h);clear SB;replace E := erx (No) w12;replace HF := HF.and (Per.blkN Bb10 NotIn.nil)
 refine rnx (srx (za rfl (yf Tryz.underlying24 rfl sz24 rfl (HF.on E).here.2 rfl (za rfl (yh en4 rfl ((yfz _ (some ⟨gb8, 0, none⟩) _ 1 [oneF] (one_fs (HF.on E).here.1.1.2 (HF.on E).here.1.2) (HF.on E).here.1.1.1.1.1.1.2 ⟨te, pe, (HF.on E).here.1.1.1.1.1.2⟩).mono ?_))))));rintro e w13 ⟨rfl, hb⟩;refine ⟨_, rfl, ?_⟩;replace E := blx E hb
 refine yi 18 (.tuple #[.int .i64 0, .int .i64 0, .int .i64 0]) rfl ((by rw [check_one]; rfl : (res3 (kw [oneF]) : Value) = _)) (mvx rfl (za rfl (yj rfl rfl (za rfl (yj rfl rfl (za rfl (yj rfl rfl (avx rfl (avx rfl (anx rfl (srx (za rfl (qt (cs := #[.slice none 0 0]) pl24 zr24 rfl rfl (za rfl (yh en4 rfl ((yfz _ none _ 0 [] (no_fs _) (HF.on E).here.1.1.1.1.1.1.2 ⟨te, pe, (HF.on E).here.1.1.1.1.1.2⟩).mono ?_))))))))))))))))
 rintro e w14 ⟨rfl, hb⟩;refine ⟨_, rfl, ?_⟩;replace E := blx E hb
 refine yi 24 (.tuple #[.int .i64 (-1), .int .i64 (-1), .int .i64 3]) rfl ((by rw [check_nil]; rfl : (res3 (kw []) : Value) = _)) (mvx rfl (za rfl (yj rfl rfl (za rfl (yj rfl rfl (za rfl (yj rfl rfl (avx rfl (avx rfl (anx rfl (srx (za rfl (yf Tryz.underlying46 rfl sz46 rfl (HF.on E).here.1.1.1.2 rfl (za rfl (yh en14 rfl ((reads_any _ readI (some ⟨gb1, 0, none⟩) 2 _ (ints_blk (xs := [3, 2]) (HF.on E).here.1.1.1.1.2 ((HF.on E).here.1.1.1.1.2).lt (by decide) i64_two) (Nat.le_refl _)).mono ?_))))))))))))))))
 rintro e w15 ⟨A1, c1, rfl, o1, hb⟩;refine ⟨_, rfl, ?_⟩;replace E := blx E hb;have hi1 := OwnsI.ints o1 (by rw [ykq]; decide) (by rw [ykq]; exact i64_three);rw [ykq] at hi1;refine yi 29 (.slice A1 [(2 : Int), 3, 2].length c1) rfl ((by rw [ykq] : (.slice A1 (zmx readI).length c1 : Value) = _)) ?_;replace HF := HF.on E;replace LW := LW.step E XLW;replace E := erx (No) w15
 replace HF := HF.and (Per.ints hi1 (fun _ h => h.elim));refine za rfl (vb (cs := #[.int .i64 2, .int .i64 3, .int .i64 2]) Tryz.underlying44 sz3 zr3 (by decide) rfl (by rw [vz]; rfl) ?_);intro gb16 w17 Bb16 Eb16 Gb16;have Gb16 : _ ≤ gb16 := Nat.le_trans E.size Gb16;have GLb16 := Nat.le_trans LW.size Gb16;replace E := E.trans Eb16.no;replace HF := HF.cons (yb Gb16)
 replace E := E.cons (some gb16);replace XLW := Mut.grow XLW (fun k e => Or.inr (Nat.le_trans LW.size ((yb Gb16) k e)));replace HF := HF.on E;replace LW := LW.step E XLW;have SB : ∀ q9, No q9 → Mut [(some gb16)] q9 := (Mut.skip Mut.nil_);replace HF := HF.less SB;replace XLW := fun k h => XLW k (SB k h);clear SB;replace E := erx (No) w17;replace HF := HF.and (Per.blkN Bb16 NotIn.nil)
 refine za rfl (yh en13 rfl ((same_ints _ A1 (some ⟨gb16, 0, none⟩) c1 3 _ _ [2, 3, 2] (HF.on E).here.1.2 (ints_blk (xs := [2, 3, 2]) (HF.on E).here.2 ((HF.on E).here.2).lt (by decide) i64_three)).mono ?_));rintro e w18 ⟨rfl, hb⟩;refine ⟨_, rfl, ?_⟩;replace E := blx E hb
 refine mvx rfl (onx rfl (zv rfl (onx rfl (zz rfl rfl (za rfl (zq rfl rfl (mvx rfl (onx rfl (zv rfl (onx rfl (zz rfl rfl (za rfl (zq rfl rfl (mvx rfl (onx rfl (zv rfl (onx rfl (zz rfl rfl (za rfl (zq rfl rfl (mvx rfl (onx rfl (zv rfl (onx rfl (zz rfl rfl (za rfl (zq rfl rfl (anx rfl (zo (zm (rs := [.tmp 0]) (vs := [_]) rfl ⟨rfl, trivial⟩ ?_))))))))))))))))))))))))))))))
 exact ⟨rfl, (LW.step E XLW).toBelow⟩
end Go.Proofs.YtmjemknimipnjaaGreatDoor
namespace Go.Proofs.YtmjemknimipnjaaGreatDoor
open Go.RowKit
set_option maxRecDepth 100000
attribute [local irreducible] OW RS
theorem checks_law (w : World) {bp op cp bf of cf bl ol cl : Nat} (A : Option Addr) (n ca : Nat) (fs : List LFn) (hfs : FsA n w A fs) (hT : Tabs bp op cp bf of cf bl ol cl w) (hE : ∃ te pe, w.cell? ⟨2, 0, none⟩ = some (.iface te pe)) : Calls Tryz.prog 3 #[.agg #[.slice A fs.length ca]] w fun e w' => e = .returned (.bool true) ∧ Below w.heap.size w w' := by
 obtain ⟨te, pe, hE⟩ := hE;refine yn Tryz.func3 rfl Tryz.ntmps3 rfl ?_;have HF : Per (No) w (fun _ => True) := Per.true_;have LW := erx (No) w;have XLW := grx (No) w;have E := erx (No) w;replace HF := HF.on E;replace LW := LW.step E XLW;replace E := erx (No) w;replace HF := HF.and (Per.fsA hfs (fun _ h => h.elim));replace HF := HF.on E;replace LW := LW.step E XLW;replace E := erx (No) w
 replace HF := HF.and (Per.tabs hT (fun _ h => h.elim));replace HF := HF.on E;replace LW := LW.step E XLW;replace E := erx (No) w;replace HF := HF.and (Per.cellA hE (fun _ h => h.elim));refine srx (za rfl (vq rfl ?_));intro gb1 w2 Bb1 Eb1 Gb1;have Gb1 : _ ≤ gb1 := Nat.le_trans E.size Gb1;have GLb1 := Nat.le_trans LW.size Gb1;replace E := E.trans Eb1.no;replace HF := HF.cons (yb Gb1)
 replace E := E.cons (some gb1);replace XLW := Mut.grow XLW (fun k e => Or.inr (Nat.le_trans LW.size ((yb Gb1) k e)));replace HF := HF.on E;replace LW := LW.step E XLW;have SB : ∀ q9, No q9 → Mut [(some gb1)] q9 := (Mut.skip Mut.nil_);replace HF := HF.less SB;replace XLW := fun k h => XLW k (SB k h);clear SB;replace E := erx (No) w2;replace HF := HF.and (Per.blkN Bb1 NotIn.nil)
 refine anx rfl (srx (za rfl (yf Tryz.underlying24 rfl sz24 rfl (HF.on E).here.2 rfl (za rfl (yh en4 rfl ((yfz _ A n ca fs (HF.on E).here.1.1.1.2 (HF.on E).here.1.1.2 ⟨te, pe, (HF.on E).here.1.2⟩).mono ?_))))));rintro e w3 ⟨rfl, hb⟩;refine ⟨_, rfl, ?_⟩;replace E := blx E hb
 refine mvx rfl (za rfl (yj rfl rfl (za rfl (yj rfl rfl (za rfl (yj rfl rfl (avx rfl (avx rfl (anx rfl (srx (za rfl (yf Tryz.underlying24 rfl sz24 rfl (HF.on E).here.2 rfl (za rfl (yh en5 rfl ((rcheck_any _ A n ca fs (HF.on E).here.1.1.1.2 (HF.on E).here.1.1.2 ⟨te, pe, (HF.on E).here.1.2⟩).mono ?_)))))))))))))));rintro e w4 ⟨rfl, hb⟩
 refine ⟨_, rfl, ?_⟩;replace E := blx E hb;refine mvx rfl (za rfl (yj rfl rfl (za rfl (yj rfl rfl (za rfl (yj rfl rfl (avx rfl (avx rfl (anx rfl (srx (za rfl (yh en6 rfl ((known_any _ (HF.on E).here.1.1.2 ⟨te, pe, (HF.on E).here.1.2⟩).mono ?_)))))))))))));rintro e w5 ⟨rfl, hb⟩;refine ⟨_, rfl, ?_⟩;replace E := blx E hb
 refine mvx rfl (onx rfl (zv rfl (onx rfl (zv rfl (onx rfl (zz rfl rfl (yi 25 (.bool true) rfl (by simp : (.bool ((kw fs).1 == (kw fs).1) : Value) = _) (za rfl (zq rfl rfl (mvx rfl (onx rfl (zv rfl (onx rfl (zv rfl (onx rfl (zz rfl rfl (yi 30 (.bool true) rfl (by simp : (.bool ((kw fs).2.1 == (kw fs).2.1) : Value) = _) (za rfl (zq rfl rfl (mvx rfl (onx rfl (zv rfl (onx rfl (zv rfl (onx rfl (zz rfl rfl (yi 35 (.bool true) rfl (by simp : (.bool ((kw fs).2.2 == (kw fs).2.2) : Value) = _) (za rfl (zq rfl rfl (anx rfl (zo (zm (rs := [.tmp 2]) (vs := [_]) rfl ⟨rfl, trivial⟩ ?_))))))))))))))))))))))))))))))))
 exact ⟨by simp [retV], (LW.step E XLW).toBelow⟩
end Go.Proofs.YtmjemknimipnjaaGreatDoor
