/- Texts of this claim. -/
import Derived.Test.YtmjemknimipnjaaDoorMw18
import Derived.Lib.ItoaNum
import Derived.Lib.SmallJoins
namespace Go.Proofs.YtmjemknimipnjaaDoor
open Go.RowKit
set_option maxRecDepth 100000
def shown (ds : List Nat) (k : Nat) : List Value := (List.range k).map fun j => .int .u8 (48 + nth ds (ds.length - 1 - j))
section
variable (i : Int) (A : Option Addr) (c : Nat) (w : World) (hi : i.natAbs < B18 ^ 30) (hx : Nums8 w A (tens i))
include hi hx
end
end Go.Proofs.YtmjemknimipnjaaDoor
namespace Go.Proofs.YtmjemknimipnjaaDoor
def padk (k l : Nat) : List UInt8 := List.replicate (k - Lib.nDigits l) 48 ++ Lib.decDigits l
def texted (i : Int) (k : Nat) : List UInt8 := (if i < 0 then [45] else []) ++ (if k = 0 then [] else Lib.decDigits (i.natAbs / B18 ^ ((limbs i).length - k)))
/-! ### the number that digits spell -/
theorem val_app (b : Nat) : ∀ (x y : List Nat), val b (x ++ y) = val b x + b ^ x.length * val b y
 | [], y => by simp [val]
 | a :: x, y => by
  rw [List.cons_append, val, val, val_app b x y, List.length_cons, Nat.pow_succ, Nat.mul_add, ← Nat.add_assoc, Nat.mul_comm (b ^ x.length) b, Nat.mul_assoc]
theorem zlz (x y : List UInt8) : yw (x ++ y) = yw x * 10 ^ y.length + yw y := by
 unfold yw;rw [List.reverse_append, List.map_append, val_app, List.length_map, List.length_reverse, Nat.mul_comm, Nat.add_comm]
theorem num10_nil : yw [] = 0 := rfl
theorem num10_zero (r : List UInt8) : yw (48 :: r) = yw r := by
 rw [show (48 : UInt8) :: r = [48] ++ r from rfl, zlz, show yw [48] = 0 from rfl, Nat.zero_mul, Nat.zero_add]
theorem num10_lt {r : List UInt8} (h : r.all va = true) : yw r < 10 ^ r.length := by
 have h1 := val_lt (b := 10) (l := r.reverse.map dv) (dv_small (by rw [List.all_reverse]; exact h));simpa [yw] using h1
def jy : List UInt8 → List UInt8
 | [] => []
 | b :: r => if b = 48 then jy r else b :: r
theorem xy : ∀ r, yw (jy r) = yw r
 | [] => rfl
 | b :: r => by
  rw [jy]; split
  · rename_i h; rw [h, num10_zero, xy r]
  · rfl
theorem strip_drop : ∀ r : List UInt8, ∃ k, k ≤ r.length ∧ jy r = r.drop k ∧ ∀ j, j < k → r[j]? = some 48
 | [] => ⟨0, Nat.le_refl _, rfl, fun j h => by omega⟩
 | b :: r => by
  by_cases h : b = 48
  · obtain ⟨k, h1, h2, h3⟩ := strip_drop r;refine ⟨k + 1, by simp; omega, by rw [jy, if_pos h, h2]; rfl, fun j hj => ?_⟩;cases j with
    | zero => rw [h]; rfl
    | succ j => simpa using h3 j (by omega)
  · exact ⟨0, Nat.zero_le _, by rw [jy, if_neg h]; rfl, fun j h => by omega⟩
theorem strip_head (r : List UInt8) : (jy r).head? ≠ some 48 := by
 induction r with
 | nil => simp [jy]
 | cons b r ih =>
  rw [jy]; split
  · exact ih
  · rename_i h; simpa using h
theorem zcq {r : List UInt8} (h : r.all va = true) : (jy r).all va = true := by
 obtain ⟨k, _, e, _⟩ := strip_drop r;rw [e, List.all_eq_true];intro x hx;exact List.all_eq_true.1 h x (List.mem_of_mem_drop hx)
theorem head_num {b : UInt8} {r : List UInt8} (h : (b :: r).all va = true) (hb : b ≠ 48) : 10 ^ r.length ≤ yw (b :: r) := by
 rw [show b :: r = [b] ++ r from rfl, zlz];have h1 : va b = true := by rw [List.all_cons, Bool.and_eq_true] at h; exact h.1
 have h2 : 1 ≤ yw [b] := by
  have h3 : yw [b] = dv b := by simp [yw, val]
  rw [h3];unfold va at h1;simp at h1
  have h4 : b.toNat ≠ 48 := fun e => hb (UInt8.toNat_inj.1 e);unfold dv; omega
 calc 10 ^ r.length = 1 * 10 ^ r.length := (Nat.one_mul _).symm
  _ ≤ yw [b] * 10 ^ r.length := Nat.mul_le_mul_right _ h2
  _ ≤ _ := Nat.le_add_right _ _
theorem B18_len {n : Nat} (h : n = 18 * 30) : B18 ^ 30 = 10 ^ n := by rw [h, B18_pow]
theorem zjk {r : List UInt8} (h : r.all va = true) : (jy r).length ≤ 540 ↔ yw r < B18 ^ 30 := by
 obtain ⟨n, hn⟩ : ∃ n, n = 540 := ⟨_, rfl⟩;rw [← xy r, B18_len (n := n) hn, ← hn];have ha := zcq h;have hh := strip_head r;generalize jy r = s at ha hh
 constructor
 · intro h1;exact Nat.lt_of_lt_of_le (num10_lt ha) (Nat.pow_le_pow_right (by decide) h1)
 · intro h1;cases s with
   | nil => simp
   | cons b s =>
    have h2 := head_num ha (by simpa using hh);rcases Nat.lt_or_ge s.length n with h3 | h3
    · simp; omega
    · have := Nat.pow_le_pow_right (n := 10) (by decide) h3;exact absurd (Nat.lt_of_lt_of_le h1 (Nat.le_trans this h2)) (Nat.lt_irrefl _)
theorem znx {s : List UInt8} (hs : s.all va = true) {e k : Nat} {xs : List Nat} (hk : xs.length = k) (he : s.length = e + 18 * k) (hv : val B18 xs = yw (s.drop e)) :
 val B18 (xs ++ [yw ((s.take e).drop (e - 18))]) = yw (s.drop (e - 18)) := by
 have _ := hs;have e1 : s.drop (e - 18) = (s.take e).drop (e - 18) ++ s.drop e := by
  conv => lhs; rw [← List.take_append_drop e s]
  rw [List.drop_append_of_le_length (by rw [List.length_take]; omega)]
 rw [e1, zlz, val_app, hv, hk, List.length_drop, he, show e + 18 * k - e = 18 * k by omega, ← B18_pow];simp only [val]
 rw [Nat.mul_zero, Nat.add_zero, Nat.mul_comm (B18 ^ k), Nat.add_comm]
theorem jt {s : List UInt8} (hs : s.all va = true) (e : Nat) : yw ((s.take e).drop (e - 18)) < B18 := by
 have h1 : ((s.take e).drop (e - 18)).all va = true := by
  rw [List.all_eq_true]; intro x hx;exact List.all_eq_true.1 hs x (List.mem_of_mem_take (List.mem_of_mem_drop hx))
 have h2 := num10_lt h1;refine Nat.lt_of_lt_of_le h2 ?_;have h3 : ((s.take e).drop (e - 18)).length ≤ 18 := by rw [List.length_drop, List.length_take]; omega
 have h4 := Nat.pow_le_pow_right (n := 10) (by decide) h3;have h5 : (10 : Nat) ^ 18 = B18 := by decide
 omega
end Go.Proofs.YtmjemknimipnjaaDoor
namespace Go.Proofs.YtmjemknimipnjaaDoor
open Go.RowKit
set_option maxRecDepth 100000
def Tab (w : World) : Prop := ∀ b, Below w.heap.size w b → Lib.TabIs Tryd.prog b "internal/strconv.uint64pow10" .u64 Lib.pow10Tab
theorem Tab.below {w w' : World} (h : Tab w) (hb : Below w.heap.size w w') : Tab w' := fun b hb' => h b (hb.trans (hb'.mono hb.size))
theorem vf (l : List UInt8) : (⟨l.toArray⟩ : ByteArray).size = l.length := by simp [ByteArray.size]
theorem zpv (a : List UInt8) (l h : Nat) : (⟨a.toArray⟩ : ByteArray).extract l h = ⟨((a.take h).drop l).toArray⟩ := by
 apply ByteArray.ext
 rw [ByteArray.data_extract];apply Array.ext'
 simp [List.extract, List.drop_take]
section
variable (i : Int) (A : Option Addr) (c : Nat) (w : World) (hi : i.natAbs < B18 ^ 30) (hx : Nums w A (limbs i)) (ht : Tab w)
include hi hx ht
end
theorem num10_cons (b : UInt8) (r : List UInt8) : yw (b :: r) = dv b * 10 ^ r.length + yw r := by
 rw [show b :: r = [b] ++ r from rfl, zlz];congr 2
theorem uintM : ∀ (r : List UInt8) (acc : Nat), r.all va = true → acc * 10 ^ r.length + yw r < B18 → Lib.parseUintM (2 ^ 64 - 1) acc r = .ok (acc * 10 ^ r.length + yw r)
 | [], acc, _, _ => by rw [Lib.parseUintM]; simp [num10_nil]
 | b :: r, acc, hd, hl => by
  rw [List.all_cons, Bool.and_eq_true] at hd;have h1 := hd.1;unfold va at h1;simp at h1
  have e : acc * 10 ^ (b :: r).length + yw (b :: r) = (acc * 10 + dv b) * 10 ^ r.length + yw r := by
   rw [num10_cons, List.length_cons, Nat.pow_succ, Nat.add_mul, Nat.mul_assoc, Nat.mul_comm 10, Nat.add_assoc]
  rw [e] at hl ⊢;have h2 : acc * 10 + dv b ≤ (acc * 10 + dv b) * 10 ^ r.length := Nat.le_mul_of_pos_right _ (Nat.pow_pos (by decide));have h3 : acc * 10 + dv b < B18 := by omega
  unfold B18 at h3;have h4 : dv b = b.toNat - 48 := rfl;rw [Lib.parseUintM, if_pos h1, if_neg (by omega), if_neg (by rw [← h4]; omega), ← h4];exact uintM r _ hd.2 hl
theorem uintB {r : List UInt8} (h0 : r ≠ []) (hd : r.all va = true) (hl : yw r < B18) : Lib.parseUintB 64 r = .ok (yw r) := by
 rw [Lib.parseUintB, if_neg h0, uintM r 0 hd (by rw [Nat.zero_mul, Nat.zero_add]; exact hl), Nat.zero_mul, Nat.zero_add]
theorem parseU (r : List UInt8) (w : World) (h0 : r ≠ []) (hd : r.all    va = true) (hl :    yw r < B18) (hs : r.length ≤ 18) :
 Calls Tryd.prog 24 #[.string ⟨r.toArray⟩, .int .i64 10, .int .i64 64] w fun e w' => e = .returned (.tuple #[.int .u64 ((   yw r : Nat) : Int), .nilIface]) ∧ Below w.heap.size w w' :=
 (Tryd.strconv_ParseUint_10_at64_ok ⟨r.toArray⟩ (by rw [     vf]; omega) (   yw r) (uintB h0 hd hl) w).mono fun _ _ ⟨a, b⟩ =>
  ⟨a, by rcases b with rfl | rfl; exact Below.refl _ _; exact Joins.below_bytesWorld _ _ _ _ (Nat.le_refl _)⟩
theorem strip_cons {b : UInt8} {r : List UInt8} (h : b ≠ 48) : jy (b :: r) = b :: r := by rw [jy, if_neg h]
theorem strip_zero (r : List UInt8) : jy (48 :: r) = jy r := by rw [jy, if_pos rfl]
theorem zyk (l : List UInt8) (j : Nat) : (⟨l.toArray⟩ : ByteArray)[j]? = l[j]? := by rw [ba_get]
theorem all_get {p : UInt8 → Bool} {l : List UInt8} {k : Nat} {b : UInt8} (hb : l[k]? = some b) (h : (l.take k).all p = true) (hp : p b = true) : (l.take (k + 1)).all p = true := by
 rw [List.take_add_one, List.all_append, h, hb];simpa using hp
theorem yfz {l : List UInt8} {k : Nat} {b : UInt8} (hb : l[k]? = some b) (h : va b = false) : l.all va = false := by
 rw [Bool.eq_false_iff];intro ha;rw [List.all_eq_true.1 ha b (List.mem_of_getElem? hb)] at h;cases h
theorem ygv (l : List UInt8) : (⟨l.toArray⟩ : ByteArray).toList = l := by
 rw [ByteArray.toList_eq]
theorem ztx {u : List UInt8} {e : Nat} (h0 : 0 < e) (he : e ≤ u.length) : (u.take e).drop (e - 18) ≠ [] := by
 intro h;have := congrArg List.length h;rw [List.length_drop, List.length_take] at this;simp at this
 omega
theorem zkv {u : List UInt8} (hs : u.all va = true) (e : Nat) : ((u.take e).drop (e - 18)).all va = true := by
 rw [List.all_eq_true]; intro x hx;exact List.all_eq_true.1 hs x (List.mem_of_mem_take (List.mem_of_mem_drop hx))
theorem zkk (u : List UInt8) (e : Nat) : ((u.take e).drop (e - 18)).length ≤ 18 := by rw [List.length_drop, List.length_take]; omega
section
variable (bs r : List UInt8) (w : World)
theorem wparse_neg (hr : r ≠ []) (hbs : bs = 45 :: r) (hs : bs.length ≤ 140737488355328) : Calls Tryd.prog 21 #[.string ⟨bs.toArray⟩] w (kd w (jx true r) (jj r)) := by
 have hat0 : (⟨bs.toArray⟩ : ByteArray)[0]? = some 45 := by rw [zyk, hbs]; rfl
 have hbl : bs.length = r.length + 1 := by rw [hbs]; rfl
 have hpos : (0 : Int) < ((⟨bs.toArray⟩ : ByteArray).size : Int) := by rw [vf]; omega
 refine yk Tryd.func21 rfl Tryd.ntmps21 rfl ?_;have HF : Per (No) w (fun _ => True) := Per.true_;have LW := erx (No) w;have XLW := grx (No) w;have E := erx (No) w;refine srx (za rfl (vv zr62 ?_));intro gb1 w2 Bb1 Eb1 Gb1;have Gb1 : _ ≤ gb1 := Nat.le_trans E.size Gb1;have GLb1 := Nat.le_trans LW.size Gb1;replace E := E.trans Eb1.no;replace HF := HF.cons (yb Gb1)
 replace E := E.cons (some gb1);replace XLW := Mut.grow XLW (fun k e => Or.inr (Nat.le_trans LW.size ((yb Gb1) k e)))
 refine anx rfl (srx (mvx rfl (za rfl (yz Tryd.underlying9 rfl (za rfl (qn rfl rfl (mvx rfl (ye 13 (.bool true) rfl (by rw [decide_eq_true hpos]) (onx rfl (zo rfl (onx rfl (gg (j := 0) Tryd.underlying9 rfl rfl rfl hat0 (onx rfl (yd rfl rfl (za rfl (zw rfl rfl (anx rfl (zf (srx (mvx rfl (rnx (yh rfl (zi (mvx rfl (za rfl (vh (l := 1) (h := bs.length) Tryd.underlying9 rfl ⟨_, rfl⟩ (vf bs).symm (by omega) (by rw [vf]; omega) (ye 20 (.string ⟨r.toArray⟩) rfl ((by rw [zpv, List.take_length, hbs]; rfl : (.string ((⟨bs.toArray⟩ : ByteArray).extract 1 bs.length) : Value) = _)) (anx rfl (zf (srx (mvx rfl (za rfl (xw rfl rfl (rnx (zu 4 (.bool true) rfl ((by rfl : (.bool true : Value) = _)) ?_)))))))))))))))))))))))))))))))))))
 have hne0 : (⟨r.toArray⟩ : ByteArray).toList ≠ (⟨#[]⟩ : ByteArray).toList := by rw [ygv, show (⟨#[]⟩ : ByteArray).toList = [] from ygv []]; exact hr
 refine zu 22 (.bool false) rfl (by rw [beq_eq_false_iff_ne.2 hne0]) (zy rfl (zj (ze (zf (srx (mvx rfl (za rfl (yz Tryd.underlying9 rfl (mvx rfl (rnx (zx (zu 25 (.int .i64 ((r.length : Nat) : Int)) rfl (by rw [vf]) (zu 26 (.int .i64 ((0 : Nat) : Int)) rfl ((by rfl : (.int .i64 0 : Value) = _)) ?_)))))))))))));replace HF := HF.on E
 replace LW := LW.step E XLW;replace E := erx (Mut [(some gb1)]) w2
 refine qk (ι := Nat) (fun k => [(0, .string ⟨r.toArray⟩), (2, .pointer (some ⟨gb1, 0, none⟩)), (3, .int .i64 0), (4, .bool true), (25, .int .i64 ((r.length : Nat) : Int)), (26, .int .i64 (k : Int))]) (fun k w' => Ext (Mut [(some gb1)]) w2 w' ∧ Blk w' gb1 62 (#[.bool false, .slice none 0 0]) ∧ (k ≤ r.length ∧ (r.take k).all va = true)) (fun k => r.length - k) 0 ⟨rfl, rfl, rfl, rfl, rfl, rfl, trivial⟩ ⟨Ext.refl _ _, (by exact Bb1), ⟨Nat.zero_le _, rfl⟩⟩ ?_
 have LTb1 := (yj Bb1.lt);rintro k w4 ⟨M3, Bb1, ⟨hk, hall⟩⟩;have XM3 : Gro (Mut [(some gb1)]) (Mut [(some gb1)]) w2 := (Mut.grow Mut.none_ (fun k e => Or.inl (Mut.head k e)));replace E := E.trans M3;replace HF := HF.on E;replace LW := LW.step E XLW;replace E := erx (Mut [(some gb1)]) w4;clear LTb1
 refine srx (za rfl (yt rfl rfl (rnx (zf (zt rfl (fun q => ?_) (fun q => ?_))))))
 ·
  have q := of_decide_eq_true q;have hk1 : k < r.length := by omega
  obtain ⟨b, hb9⟩ : ∃ b, r[k]? = some b := ⟨_, List.getElem?_eq_getElem hk1⟩;have hat : (⟨r.toArray⟩ : ByteArray)[k]? = some b := by rw [zyk]; exact hb9
  refine zj (ze (zf (zx (srx (mvx rfl (anx rfl (srx (mvx rfl (mvx rfl (za rfl (gg (j := k) Tryd.underlying9 rfl rfl rfl hat (za rfl (yt rfl rfl (mvx rfl (yo 33 rfl (fun h => ?_) (fun h => ?_))))))))))))))))
  ·
   have h := of_decide_eq_true h;obtain ⟨e1, e2⟩ := zqv (neg := true) (yfz hb9 (by unfold va; simp; omega))
   refine za rfl (zc rfl (za rfl (zc rfl (za rfl (zc rfl (za rfl (zc rfl (za rfl (zw rfl rfl (rnx (yh rfl (srx (za rfl (jf (cs := #[.bool false, .slice none 0 0]) pl62 zr62 rfl rfl (qe (qv xd rfl rfl Bb1 rfl rfl (Nat.le_of_ble_eq_true rfl) ?_))))))))))))))));intro w5 Bx Eb1;replace Bb1 := Bx;replace E := E.step1 Eb1 Mut.head
   refine anx rfl (zr (zn (zd (zd (zn (zd (zq (rs := [.cell 2 62, .tmp 3]) (vs := [_, _]) rfl ⟨⟨_, rfl, gi Tryd.underlying62 rfl xd Bb1 rfl⟩, rfl, trivial⟩ ?_)))))));exact by rw [e1, e2]; exact vz (LW.step E XLW).toBelow
  ·
   have h := of_decide_eq_false h;refine onx rfl (zo rfl (onx rfl (zo rfl (onx rfl (gg (j := k) Tryd.underlying9 rfl rfl rfl hat (onx rfl (qn rfl rfl (za rfl (ya rfl rfl (rnx (zt rfl (fun h2 => ?_) (fun h2 => ?_))))))))))))
   ·
    have h2 := of_decide_eq_true h2;obtain ⟨e1, e2⟩ := zqv (neg := true) (yfz hb9 (by unfold va; simp; omega));refine srx (za rfl (jf (cs := #[.bool false, .slice none 0 0]) pl62 zr62 rfl rfl (qe (qv xd rfl rfl Bb1 rfl rfl (Nat.le_of_ble_eq_true rfl) ?_))));intro w6 Bx Eb1;replace Bb1 := Bx;replace E := E.step1 Eb1 Mut.head
    refine anx rfl (zr (zn (zd (zd (zn (zd (zq (rs := [.cell 2 62, .tmp 3]) (vs := [_, _]) rfl ⟨⟨_, rfl, gi Tryd.underlying62 rfl xd Bb1 rfl⟩, rfl, trivial⟩ ?_)))))));exact by rw [e1, e2]; exact vz (LW.step E XLW).toBelow
   ·
    have h2 := of_decide_eq_false h2;have hdig : va b = true := dig_of (by omega) (by omega);refine zj (zm (ze (zi (za rfl (yg rfl rfl (zp (by omega)) (mvx rfl (yf (yr 26 (.int .i64 ((k + 1 : Nat) : Int)) rfl ((by rfl : (.int .i64 ((k : Int) + 1) : Value) = _)) ?_))))))))
    exact yl (k + 1) (by show r.length - (k + 1) < r.length - k; omega) ⟨rfl, rfl, rfl, rfl, rfl, rfl, trivial⟩ ⟨M3.step E XM3, (by exact Bb1), by omega, all_get hb9 hall hdig⟩
 ·
  have q := of_decide_eq_false q;obtain rfl : k = r.length := by omega
  rw [List.take_length] at hall;refine yn (zh (zh (zv (ze (zf (zx ?_))))));replace HF := HF.on E;replace LW := LW.step E XLW;replace M3 := M3.step E XM3;replace E := erx (Mut [(some gb1)]) w4
  refine qk (ι := List UInt8) (fun u => [(0, .string ⟨u.toArray⟩), (2, .pointer (some ⟨gb1, 0, none⟩)), (3, .int .i64 0), (4, .bool true)]) (fun u w' => Ext (Mut [(some gb1)]) w4 w' ∧ Blk w' gb1 62 (#[.bool false, .slice none 0 0]) ∧ (jy u = jy r ∧ u.length ≤ r.length)) (fun u => u.length) r ⟨rfl, rfl, rfl, rfl, trivial⟩ ⟨Ext.refl _ _, (by exact Bb1), ⟨rfl, Nat.le_refl _⟩⟩ ?_
  have LTb1 := (yj Bb1.lt);rintro u w8 ⟨M7, Bb1, ⟨hu1, hu2⟩⟩;have XM7 : Gro (Mut [(some gb1)]) (Mut [(some gb1)]) w4 := (Mut.grow Mut.none_ (fun k e => Or.inl (Mut.head k e)));replace E := E.trans M7;replace HF := HF.on E;replace LW := LW.step E XLW;replace M3 := M3.step E XM3;replace E := erx (Mut [(some gb1)]) w8;clear LTb1
  refine zf (srx (mvx rfl (za rfl (yz Tryd.underlying9 rfl (za rfl (qn rfl rfl (mvx rfl (ye 44 (.bool (decide ((0 : Int) < ((u.length : Nat) : Int)))) rfl (by rw [vf]) (yo 44 rfl (fun h => ?_) (fun h => ?_))))))))))
  ·
   have h := of_decide_eq_true h;obtain ⟨b, u2, hbu⟩ : ∃ b u2, u = b :: u2 := by cases u with | nil => simp at h | cons b u2 => exact ⟨b, u2, rfl⟩
   have hat : (⟨u.toArray⟩ : ByteArray)[0]? = some b := by rw [zyk, hbu]; rfl
   refine onx rfl (zo rfl (onx rfl (gg (j := 0) Tryd.underlying9 rfl rfl rfl hat (onx rfl (yd rfl rfl (za rfl (zw rfl rfl (rnx (zt rfl (fun h2 => ?_) (fun h2 => ?_))))))))))
   ·
    have h2 : b = 48 := UInt8.toNat_inj.1 (by have h7 := of_decide_eq_true h2; have h8 : (48 : UInt8).toNat = 48 := rfl; omega);have hul : u.length = u2.length + 1 := by rw [hbu]; rfl
    refine zj (ze (zx (zi (mvx rfl (za rfl (vh (l := 1) (h := u.length) Tryd.underlying9 rfl ⟨_, rfl⟩ (vf u).symm (by omega) (by rw [vf]; omega) (ye 50 (.string ⟨u2.toArray⟩) rfl ((by rw [zpv, List.take_length, hbu]; rfl : (.string ((⟨u.toArray⟩ : ByteArray).extract 1 u.length) : Value) = _)) (avx rfl (yf (zm ?_))))))))))
    exact yl u2 (by show u2.length < u.length; omega) ⟨rfl, rfl, rfl, rfl, trivial⟩ ⟨M7.step E XM7, (by exact Bb1), by rw [← hu1, hbu, h2, strip_zero], by omega⟩
   ·
    have h2 : b ≠ 48 := fun e => by rw [e] at h2; exact absurd h2 (by decide)
    refine yn (zh (zh (zv (ze (zf (srx (mvx rfl (za rfl (yz Tryd.underlying9 rfl (za rfl (qn rfl rfl (rnx ?_))))))))))));have hstr : jy r = u := by rw [← hu1]; exact by rw [hbu, strip_cons h2]
    have hal9 := zcq hall;rw [hstr] at hal9;have hln9 := zjk hall;rw [hstr] at hln9;have hnum : yw u = yw r := by rw [← hstr, xy]
    refine zu 53 (.bool (decide ((540 : Int) < ((u.length : Nat) : Int)))) rfl (by rw [vf]) (zt rfl (fun h3 => ?_) (fun h3 => ?_))
    ·
     have h3 := of_decide_eq_true h3;have e1 : jj r = 2 := by unfold jj; rw [if_pos ⟨hr, hall⟩, if_neg (by omega)]
     have e2 : jx true r = 0 := by unfold jx; rw [if_neg (by rintro ⟨_, _, h⟩; omega)]
     refine srx (za rfl (jf (cs := #[.bool false, .slice none 0 0]) pl62 zr62 rfl rfl (qe (qv xd rfl rfl Bb1 rfl rfl (Nat.le_of_ble_eq_true rfl) ?_))));intro w9 Bx Eb1;replace Bb1 := Bx;replace E := E.step1 Eb1 Mut.head
     refine anx rfl (zr (zd (zq (rs := [.cell 2 62, .tmp 3]) (vs := [_, _]) rfl ⟨⟨_, rfl, gi Tryd.underlying62 rfl xd Bb1 rfl⟩, rfl, trivial⟩ ?_)));exact by rw [e1, e2]; exact vz (LW.step E XLW).toBelow
    ·
     have h3 := of_decide_eq_false h3;have e1 : jj r = 0 := by unfold jj; rw [if_pos ⟨hr, hall⟩, if_pos (by omega)]
     have e2 : jx true r = sgn true (yw r) := by unfold jx; rw [if_pos ⟨hr, hall, by omega⟩]
     refine zj (ze (srx (anx rfl (zf (srx (mvx rfl (za rfl (yz Tryd.underlying9 rfl (anx rfl (zx ?_))))))))));have Ol : World.ownsRow w8 w.heap.size 30 1 (.slice none 0 0) 0 ([]) := jd;have Dl_b1 : Apart ((Value.slice none 0 0).ownBlock) (some gb1) := fun _ e => by cases e
     have Db1_l := Dl_b1.symm;replace HF := HF.cons (jr);replace E := E.cons ((Value.slice none 0 0).ownBlock);replace XLW := Mut.grow XLW (fun k e => Or.inr (Nat.le_trans LW.size ((jr) k e)));replace XM3 := Mut.grow XM3 (fun k e => Or.inr (Nat.le_trans M3.size ((jr) k e)));replace XM7 := Mut.grow XM7 (fun k e => Or.inr (Nat.le_trans M7.size ((jr) k e)))
     refine zu 7 (.int .i64 ((u.length : Int) - 18 * ((0 : Nat) : Int))) rfl (by rw [vf]; simp) ?_;replace HF := HF.on E;replace LW := LW.step E XLW;replace M3 := M3.step E XM3;replace M7 := M7.step E XM7;replace E := erx (Mut [((Value.slice none 0 0).ownBlock), (some gb1)]) w8
     refine qk (ι := Nat × List Nat × Option Addr × Nat) (fun (k, xs, A1, c1) => [(0, .string ⟨u.toArray⟩), (2, .pointer (some ⟨gb1, 0, none⟩)), (3, .int .i64 0), (4, .bool true), (6, .slice A1 k c1), (7, .int .i64 ((u.length : Int) - 18 * (k : Int)))]) (fun (k, xs, A1, c1) w' => Ext (Mut [((Value.slice none 0 0).ownBlock), (some gb1)]) w8 w' ∧ World.ownsRow w' w.heap.size 30 1 (.slice A1 k c1) k (xs.map fun x : Nat => Value.int .u64 (x : Int)) ∧ Blk w' gb1 62 (#[.bool false, .slice none 0 0]) ∧ (∀ q9, ((Value.slice A1 k c1).ownBlock) = some q9 → ((Value.slice none 0 0).ownBlock) = some q9 ∨ w8.heap.size ≤ q9) ∧ (xs.length = k ∧ small B18 xs ∧ val B18 xs = yw (u.drop (u.length - 18 * k)) ∧ 18 * k ≤ u.length + 17)) (fun (k, xs, A1, c1) => u.length + 18 - 18 * k) (0, [], none, 0) ⟨rfl, rfl, rfl, rfl, rfl, rfl, trivial⟩ ⟨Ext.refl _ _, (by exact Ol), (by exact Bb1), (fun _ e => Or.inl e), ⟨rfl, zjv, by rw [Nat.mul_zero, Nat.sub_zero, List.drop_length]; rfl, by omega⟩⟩ ?_
     have LTl := (ku Ol);have LTb1 := (yj Bb1.lt);clear Ol;rintro ⟨k, xs, A1, c1⟩ w11 ⟨M10, Ol, Bb1, KlM10, ⟨hk, hsm, hval, hkl⟩⟩;replace Dl_b1 : Apart ((Value.slice A1 k c1).ownBlock) (some gb1) := Dl_b1.turn KlM10 LTb1;replace Db1_l := Dl_b1.symm
     have XM10 : Gro (Mut [((Value.slice A1 k c1).ownBlock), (some gb1)]) (Mut [((Value.slice none 0 0).ownBlock), (some gb1)]) w8 := (Mut.grow (Mut.grow Mut.none_ (fun k e => Or.inl ((Mut.tail Mut.head) k e))) (fun k e => (KlM10 k e).elim (fun e => Or.inl (Mut.head k e)) Or.inr));replace E := E.trans M10;replace HF := HF.turn E XM10;have ZLW := LW.size
     have XT := fun q9 (h : (Mut [((Value.slice A1 k c1).ownBlock), (some gb1)]) q9) => (XM10 q9 h).elim (XLW q9) (fun h => Or.inr (Nat.le_trans LW.size h));replace LW := LW.step E XLW;replace XLW := XT;have ZM3 := M3.size;have XT := fun q9 (h : (Mut [((Value.slice A1 k c1).ownBlock), (some gb1)]) q9) => (XM10 q9 h).elim (XM3 q9) (fun h => Or.inr (Nat.le_trans M3.size h))
     replace M3 := M3.step E XM3;replace XM3 := XT;have ZM7 := M7.size;have XT := fun q9 (h : (Mut [((Value.slice A1 k c1).ownBlock), (some gb1)]) q9) => (XM10 q9 h).elim (XM7 q9) (fun h => Or.inr (Nat.le_trans M7.size h));replace M7 := M7.step E XM7;replace XM7 := XT;clear ZLW;clear ZM3;clear ZM7;replace E := erx (Mut [((Value.slice A1 k c1).ownBlock), (some gb1)]) w11;clear LTl;clear LTb1
     refine zf (srx (mvx rfl (za rfl (qn rfl rfl (rnx (zt rfl (fun q => ?_) (fun q => ?_)))))))
     ·
      have q := of_decide_eq_true q;obtain ⟨e, he⟩ : ∃ e : Nat, e = u.length - 18 * k := ⟨_, rfl⟩;have he0 : 0 < e := by omega
      have hel : e ≤ u.length := by omega
      refine zj (ze (zf (zx (srx (mvx rfl (mvx rfl (za rfl (yy rfl rfl (zp (by omega)) (za rfl (ow_max rfl rfl (ye 65 (.int .i64 ((e - 18 : Nat) : Int)) rfl ((by congr 1; split <;> omega : (.int .i64 (if (u.length : Int) - 18 * (k : Int) - 18 > 0 then (u.length : Int) - 18 * (k : Int) - 18 else 0) : Value) = _)) (mvx rfl (ye 66 (.int .i64 ((e : Nat) : Int)) rfl ((by rw [show (u.length : Int) - 18 * (k : Int) = ((e : Nat) : Int) by omega] : (.int .i64 ((u.length : Int) - 18 * (k : Int)) : Value) = _)) (za rfl (vh (l := e - 18) (h := e) Tryd.underlying9 rfl ⟨_, rfl⟩ ⟨_, rfl⟩ (Nat.sub_le _ _) (by rw [vf]; exact hel) (ye 67 (.string ⟨((u.take e).drop (e - 18)).toArray⟩) rfl ((by rw [zpv] : (.string ((⟨u.toArray⟩ : ByteArray).extract (e - 18) e) : Value) = _)) (za rfl (zz en24 rfl ((parseU _ _ (ztx he0 hel) (zkv hal9 e) (jt hal9 e) (zkk u e)).mono ?_)))))))))))))))))))
      rintro e w12 ⟨rfl, hb⟩;refine ⟨_, rfl, ?_⟩;have Ec := Ext.of_below hb No;replace Ol := jc Ol Ec NotIn.nil;replace Bb1 := Bb1.extN Ec NotIn.nil;replace E := E.trans Ec.no
      refine mvx rfl (za rfl (yc rfl rfl (za rfl (yc rfl rfl (avx rfl (anx rfl (zi (mvx rfl (mvx rfl (za rfl (qg (cs := #[.int .u64 ((yw ((u.take e).drop (e - 18)) : Nat) : Int)]) Tryd.underlying60 sz30 zr30 (by decide) rfl (by rw [qy]; rfl) ?_)))))))))));intro gb13 w14 Bb13 Eb13 Gb13
      have Db13_l : Apart (some gb13) ((Value.slice A1 k c1).ownBlock) := Apart.of_lt (ku Ol) Gb13;have Dl_b13 := Db13_l.symm;have Db13_b1 : Apart (some gb13) (some gb1) := Apart.of_lt (yj Bb1.lt) Gb13;have Db1_b13 := Db13_b1.symm;have Gb13 : _ ≤ gb13 := Nat.le_trans E.size Gb13;have GLb13 := Nat.le_trans LW.size Gb13;replace Ol := jc Ol Eb13 NotIn.nil
      replace Bb1 := Bb1.extN Eb13 NotIn.nil;replace E := E.trans Eb13.no;replace HF := HF.cons (yb Gb13);replace E := E.cons (some gb13);replace XLW := Mut.grow XLW (fun k e => Or.inr (Nat.le_trans LW.size ((yb Gb13) k e)));replace XM3 := Mut.grow XM3 (fun k e => Or.inr (Nat.le_trans M3.size ((yb Gb13) k e)))
      replace XM7 := Mut.grow XM7 (fun k e => Or.inr (Nat.le_trans M7.size ((yb Gb13) k e)));replace XM10 := Mut.grow XM10 (fun k e => Or.inr (Nat.le_trans M10.size ((yb Gb13) k e)));replace HF := HF.on E;replace LW := LW.step E XLW;replace M3 := M3.step E XM3;replace M7 := M7.step E XM7;replace M10 := M10.step E XM10
      have SB : ∀ q9, Mut [((Value.slice A1 k c1).ownBlock), (some gb1)] q9 → Mut [(some gb13), ((Value.slice A1 k c1).ownBlock), (some gb1)] q9 := (Mut.skip (Mut.keep (Mut.keep Mut.nil_)));replace HF := HF.less SB;replace XLW := fun k h => XLW k (SB k h);replace XM3 := fun k h => XM3 k (SB k h);replace XM7 := fun k h => XM7 k (SB k h);replace XM10 := fun k h => XM10 k (SB k h);clear SB
      replace E := erx (Mut [((Value.slice A1 k c1).ownBlock), (some gb1)]) w14;replace HF := HF.and (Per.blkN Bb13 (NotIn.cons Db13_l (NotIn.cons Db13_b1 NotIn.nil)))
      refine za rfl (vu (news := [.int .u64 ((yw ((u.take e).drop (e - 18)) : Nat) : Int)]) Tryd.underlying60 inf30 rfl (by decide) rfl Ol rfl (xh (HF.on E).here.2 ((HF.on E).here.2).lt rfl) (by simp [Value.oneCell']) (by unfold maxLen; omega) (by omega) (by exact Nat.le_trans LW.size E.size) ?_);intro v0 w15 On En KN;obtain ⟨A2, c2, rfl⟩ := vm On
      replace KN : ∀ q9, ((Value.slice A2 (k + 1) c2).ownBlock) = some q9 → ((Value.slice A1 k c1).ownBlock) = some q9 ∨ w14.heap.size ≤ q9 := KN;have LTb1 := (yj Bb1.lt);replace Bb1 := Bb1.extN En (NotIn.cons Db1_l NotIn.nil);replace Dl_b1 : Apart ((Value.slice A2 (k + 1) c2).ownBlock) (some gb1) := Dl_b1.turn KN LTb1;replace Db1_l := Dl_b1.symm;clear LTb1
      have HY : Gro (Mut [((Value.slice A2 (k + 1) c2).ownBlock), (some gb1)]) (Mut [((Value.slice A1 k c1).ownBlock), (some gb1)]) w14 := (Mut.grow (Mut.grow Mut.none_ (fun k e => Or.inl ((Mut.tail Mut.head) k e))) (fun k e => (KN k e).elim (fun e => Or.inl (Mut.head k e)) (fun h => Or.inr (Nat.le_trans E.size h))))
      replace KlM10 : ∀ q9, ((Value.slice A2 (k + 1) c2).ownBlock) = some q9 → ((Value.slice none 0 0).ownBlock) = some q9 ∨ w8.heap.size ≤ q9 := fun k e => (KN k e).elim (KlM10 k) (fun h => Or.inr (Nat.le_trans M10.size (Nat.le_trans E.size h)));replace E := E.step1 En Mut.head
      have XT := fun q9 (h : (Mut [((Value.slice A2 (k + 1) c2).ownBlock), (some gb1)]) q9) => (HY q9 h).elim (XLW q9) (fun h => Or.inr (Nat.le_trans LW.size h));have XT := fun q9 (h : (Mut [((Value.slice A2 (k + 1) c2).ownBlock), (some gb1)]) q9) => (HY q9 h).elim (XM3 q9) (fun h => Or.inr (Nat.le_trans M3.size h))
      have XT := fun q9 (h : (Mut [((Value.slice A2 (k + 1) c2).ownBlock), (some gb1)]) q9) => (HY q9 h).elim (XM7 q9) (fun h => Or.inr (Nat.le_trans M7.size h));have XT := fun q9 (h : (Mut [((Value.slice A2 (k + 1) c2).ownBlock), (some gb1)]) q9) => (HY q9 h).elim (XM10 q9) (fun h => Or.inr (Nat.le_trans M10.size h));replace M10 := M10.step E XM10;replace XM10 := XT
      replace E := erx (Mut [((Value.slice A2 (k + 1) c2).ownBlock), (some gb1)]) w15;clear HY;replace Ol : World.ownsRow w15 w.heap.size 30 1 (.slice A2 (k + 1) c2) (k + 1) ((xs ++ [yw ((u.take e).drop (e - 18))]).map fun x : Nat => Value.int .u64 (x : Int)) := by
       have e : ((xs.map fun x : Nat => Value.int .u64 (x : Int)) : List Value) ++ ([.int .u64 ((yw ((u.take e).drop (e - 18)) : Nat) : Int)] : List Value) = (xs ++ [yw ((u.take e).drop (e - 18))]).map fun x : Nat => Value.int .u64 (x : Int) := by simp
       rw [← e];exact On
      clear On KN En
      refine avx rfl (yf (zm (ze (zi (mvx rfl (za rfl (yy rfl rfl (zp (by omega)) (avx rfl (yf (yr 7 (.int .i64 ((u.length : Int) - 18 * ((k + 1 : Nat) : Int))) rfl ((by rw [show (u.length : Int) - 18 * (k : Int) - 18 = (u.length : Int) - 18 * ((k + 1 : Nat) : Int) by omega] : (.int .i64 (((u.length : Int) - 18 * (k : Int)) - 18) : Value) = _)) ?_))))))))))
      exact yl (k + 1, xs ++ [yw ((u.take e).drop (e - 18))], A2, c2) (by show u.length + 18 - 18 * (k + 1) < u.length + 18 - 18 * k; omega) ⟨rfl, rfl, rfl, rfl, rfl, rfl, trivial⟩ ⟨M10.step E XM10, (by exact Ol), (by exact Bb1), KlM10, by rw [List.length_append, hk]; rfl, zez hsm (jt hal9 e), by rw [znx hal9 hk (by omega : u.length = e + 18 * k) (by rw [hval, he]), show u.length - 18 * (k + 1) = e - 18 by omega], by omega⟩
     ·
      have q := of_decide_eq_false q;have hv9 : val B18 xs = yw r := by rw [hval, show u.length - 18 * k = 0 by omega, List.drop_zero, hnum]
      have Ol9 := Ol;have hown : Own w11 w.heap.size A1 c1 xs := ⟨by rw [hk]; exact Ol9, fun x hx => Nat.lt_trans (hsm x hx) (by decide)⟩;have hform : ∀ w', Nums w' A1 xs → Calls Tryd.prog 25 #[.bool true, .slice A1 k c1] w' (yav w' (sgn true (yw r))) := fun w' h => by
       have h9 := ztv true A1 c1 xs w' h hsm (by omega);rwa [hk, hv9] at h9
      replace HF := HF.on E;replace LW := LW.step E XLW;have SB : ∀ q9, Mut [(some gb1)] q9 → Mut [((Value.slice A1 k c1).ownBlock), (some gb1)] q9 := (Mut.skip (Mut.keep Mut.nil_));replace HF := HF.less SB;replace XLW := fun k h => XLW k (SB k h);clear SB;replace E := erx (Mut [(some gb1)]) w11;replace HF := HF.and (Per.ownsN Ol (NotIn.cons Dl_b1 NotIn.nil));clear Ol;replace HF := HF.on E
      replace LW := LW.step E XLW;replace E := erx (Mut [(some gb1)]) w11;replace HF := HF.and (Per.ownN hown (NotIn.cons (ko hown Bb1 (by decide)) NotIn.nil));refine yn (zh (zh (zv (ze (srx (mvx rfl (mvx rfl (za rfl (zz en25 rfl ((hform _ ((HF.on E).here.2).nums).mono ?_))))))))));rintro e w16 ⟨A2, c2, rfl, o2, hb⟩;refine ⟨_, rfl, ?_⟩
      have SC := Nat.le_trans LW.size E.size;have Ec := Ext.of_below hb No;replace Bb1 := Bb1.extN Ec NotIn.nil;replace E := E.trans Ec.no;have S2 := SC;replace HF := HF.on E;replace LW := LW.step E XLW;replace E := erx (Mut [(some gb1)]) w16;replace HF := HF.and (Per.ownN o2 (NotIn.cons (ko o2 Bb1 (by decide)) NotIn.nil))
      refine qe (qv xd rfl rfl Bb1 rfl rfl (Nat.le_of_ble_eq_true rfl) ?_);intro w17 Bx Eb1;replace Bb1 := Bx;replace E := E.step1 Eb1 Mut.head;replace HF := HF.on E;replace LW := LW.step E XLW;have SB : ∀ q9, No q9 → Mut [(some gb1)] q9 := (Mut.skip Mut.nil_);replace HF := HF.less SB;replace XLW := fun k h => XLW k (SB k h);clear SB;replace E := erx (No) w17
      replace HF := HF.and (Per.blkN Bb1 NotIn.nil);refine anx rfl (zr (zq (rs := [.cell 2 62, .tmp 3]) (vs := [_, _]) rfl ⟨⟨_, rfl, gi Tryd.underlying62 rfl xd (HF.on E).here.2 rfl⟩, rfl, trivial⟩ ?_));exact by rw [e1, e2]; exact ⟨A2, c2, rfl, ((HF.on E).here.1.2).mono S2, (LW.step E XLW).toBelow⟩
  ·
   have h := of_decide_eq_false h;have hu0 : u = [] := by cases u with | nil => rfl | cons b u2 => simp at h
   refine za rfl (zc rfl (za rfl (zc rfl (za rfl (zc rfl (za rfl (ya rfl rfl (rnx (zy rfl (yn (zh (zh (zv (ze (zf (srx (mvx rfl (za rfl (yz Tryd.underlying9 rfl (za rfl (qn rfl rfl (rnx ?_))))))))))))))))))))));have hstr : jy r = u := by rw [← hu1]; exact by rw [hu0]; rfl
   have hal9 := zcq hall;rw [hstr] at hal9;have hln9 := zjk hall;rw [hstr] at hln9;have hnum : yw u = yw r := by rw [← hstr, xy]
   refine zu 53 (.bool (decide ((540 : Int) < ((u.length : Nat) : Int)))) rfl (by rw [vf]) (zt rfl (fun h3 => ?_) (fun h3 => ?_))
   ·
    have h3 := of_decide_eq_true h3;have e1 : jj r = 2 := by unfold jj; rw [if_pos ⟨hr, hall⟩, if_neg (by omega)]
    have e2 : jx true r = 0 := by unfold jx; rw [if_neg (by rintro ⟨_, _, h⟩; omega)]
    refine srx (za rfl (jf (cs := #[.bool false, .slice none 0 0]) pl62 zr62 rfl rfl (qe (qv xd rfl rfl Bb1 rfl rfl (Nat.le_of_ble_eq_true rfl) ?_))));intro w18 Bx Eb1;replace Bb1 := Bx;replace E := E.step1 Eb1 Mut.head
    refine anx rfl (zr (zd (zq (rs := [.cell 2 62, .tmp 3]) (vs := [_, _]) rfl ⟨⟨_, rfl, gi Tryd.underlying62 rfl xd Bb1 rfl⟩, rfl, trivial⟩ ?_)));exact by rw [e1, e2]; exact vz (LW.step E XLW).toBelow
   ·
    have h3 := of_decide_eq_false h3;have e1 : jj r = 0 := by unfold jj; rw [if_pos ⟨hr, hall⟩, if_pos (by omega)]
    have e2 : jx true r = sgn true (yw r) := by unfold jx; rw [if_pos ⟨hr, hall, by omega⟩]
    refine zj (ze (srx (anx rfl (zf (srx (mvx rfl (za rfl (yz Tryd.underlying9 rfl (anx rfl (zx ?_))))))))));have Ol : World.ownsRow w8 w.heap.size 30 1 (.slice none 0 0) 0 ([]) := jd;have Dl_b1 : Apart ((Value.slice none 0 0).ownBlock) (some gb1) := fun _ e => by cases e
    have Db1_l := Dl_b1.symm;replace HF := HF.cons (jr);replace E := E.cons ((Value.slice none 0 0).ownBlock);replace XLW := Mut.grow XLW (fun k e => Or.inr (Nat.le_trans LW.size ((jr) k e)));replace XM3 := Mut.grow XM3 (fun k e => Or.inr (Nat.le_trans M3.size ((jr) k e)));replace XM7 := Mut.grow XM7 (fun k e => Or.inr (Nat.le_trans M7.size ((jr) k e)))
    refine zu 7 (.int .i64 ((u.length : Int) - 18 * ((0 : Nat) : Int))) rfl (by rw [vf]; simp) ?_;replace HF := HF.on E;replace LW := LW.step E XLW;replace M3 := M3.step E XM3;replace M7 := M7.step E XM7;replace E := erx (Mut [((Value.slice none 0 0).ownBlock), (some gb1)]) w8
    refine qk (ι := Nat × List Nat × Option Addr × Nat) (fun (k, xs, A1, c1) => [(0, .string ⟨u.toArray⟩), (2, .pointer (some ⟨gb1, 0, none⟩)), (3, .int .i64 0), (4, .bool true), (6, .slice A1 k c1), (7, .int .i64 ((u.length : Int) - 18 * (k : Int)))]) (fun (k, xs, A1, c1) w' => Ext (Mut [((Value.slice none 0 0).ownBlock), (some gb1)]) w8 w' ∧ World.ownsRow w' w.heap.size 30 1 (.slice A1 k c1) k (xs.map fun x : Nat => Value.int .u64 (x : Int)) ∧ Blk w' gb1 62 (#[.bool false, .slice none 0 0]) ∧ (∀ q9, ((Value.slice A1 k c1).ownBlock) = some q9 → ((Value.slice none 0 0).ownBlock) = some q9 ∨ w8.heap.size ≤ q9) ∧ (xs.length = k ∧ small B18 xs ∧ val B18 xs = yw (u.drop (u.length - 18 * k)) ∧ 18 * k ≤ u.length + 17)) (fun (k, xs, A1, c1) => u.length + 18 - 18 * k) (0, [], none, 0) ⟨rfl, rfl, rfl, rfl, rfl, rfl, trivial⟩ ⟨Ext.refl _ _, (by exact Ol), (by exact Bb1), (fun _ e => Or.inl e), ⟨rfl, zjv, by rw [Nat.mul_zero, Nat.sub_zero, List.drop_length]; rfl, by omega⟩⟩ ?_
    have LTl := (ku Ol);have LTb1 := (yj Bb1.lt);clear Ol;rintro ⟨k, xs, A1, c1⟩ w20 ⟨M19, Ol, Bb1, KlM19, ⟨hk, hsm, hval, hkl⟩⟩;replace Dl_b1 : Apart ((Value.slice A1 k c1).ownBlock) (some gb1) := Dl_b1.turn KlM19 LTb1;replace Db1_l := Dl_b1.symm
    have XM19 : Gro (Mut [((Value.slice A1 k c1).ownBlock), (some gb1)]) (Mut [((Value.slice none 0 0).ownBlock), (some gb1)]) w8 := (Mut.grow (Mut.grow Mut.none_ (fun k e => Or.inl ((Mut.tail Mut.head) k e))) (fun k e => (KlM19 k e).elim (fun e => Or.inl (Mut.head k e)) Or.inr));replace E := E.trans M19;replace HF := HF.turn E XM19;have ZLW := LW.size
    have XT := fun q9 (h : (Mut [((Value.slice A1 k c1).ownBlock), (some gb1)]) q9) => (XM19 q9 h).elim (XLW q9) (fun h => Or.inr (Nat.le_trans LW.size h));replace LW := LW.step E XLW;replace XLW := XT;have ZM3 := M3.size;have XT := fun q9 (h : (Mut [((Value.slice A1 k c1).ownBlock), (some gb1)]) q9) => (XM19 q9 h).elim (XM3 q9) (fun h => Or.inr (Nat.le_trans M3.size h))
    replace M3 := M3.step E XM3;replace XM3 := XT;have ZM7 := M7.size;have XT := fun q9 (h : (Mut [((Value.slice A1 k c1).ownBlock), (some gb1)]) q9) => (XM19 q9 h).elim (XM7 q9) (fun h => Or.inr (Nat.le_trans M7.size h));replace M7 := M7.step E XM7;replace XM7 := XT;clear ZLW;clear ZM3;clear ZM7;replace E := erx (Mut [((Value.slice A1 k c1).ownBlock), (some gb1)]) w20;clear LTl;clear LTb1
    refine zf (srx (mvx rfl (za rfl (qn rfl rfl (rnx (zt rfl (fun q => ?_) (fun q => ?_)))))))
    ·
     have q := of_decide_eq_true q;obtain ⟨e, he⟩ : ∃ e : Nat, e = u.length - 18 * k := ⟨_, rfl⟩;have he0 : 0 < e := by omega
     have hel : e ≤ u.length := by omega
     refine zj (ze (zf (zx (srx (mvx rfl (mvx rfl (za rfl (yy rfl rfl (zp (by omega)) (za rfl (ow_max rfl rfl (ye 65 (.int .i64 ((e - 18 : Nat) : Int)) rfl ((by congr 1; split <;> omega : (.int .i64 (if (u.length : Int) - 18 * (k : Int) - 18 > 0 then (u.length : Int) - 18 * (k : Int) - 18 else 0) : Value) = _)) (mvx rfl (ye 66 (.int .i64 ((e : Nat) : Int)) rfl ((by rw [show (u.length : Int) - 18 * (k : Int) = ((e : Nat) : Int) by omega] : (.int .i64 ((u.length : Int) - 18 * (k : Int)) : Value) = _)) (za rfl (vh (l := e - 18) (h := e) Tryd.underlying9 rfl ⟨_, rfl⟩ ⟨_, rfl⟩ (Nat.sub_le _ _) (by rw [vf]; exact hel) (ye 67 (.string ⟨((u.take e).drop (e - 18)).toArray⟩) rfl ((by rw [zpv] : (.string ((⟨u.toArray⟩ : ByteArray).extract (e - 18) e) : Value) = _)) (za rfl (zz en24 rfl ((parseU _ _ (ztx he0 hel) (zkv hal9 e) (jt hal9 e) (zkk u e)).mono ?_)))))))))))))))))))
     rintro e w21 ⟨rfl, hb⟩;refine ⟨_, rfl, ?_⟩;have Ec := Ext.of_below hb No;replace Ol := jc Ol Ec NotIn.nil;replace Bb1 := Bb1.extN Ec NotIn.nil;replace E := E.trans Ec.no
     refine mvx rfl (za rfl (yc rfl rfl (za rfl (yc rfl rfl (avx rfl (anx rfl (zi (mvx rfl (mvx rfl (za rfl (qg (cs := #[.int .u64 ((yw ((u.take e).drop (e - 18)) : Nat) : Int)]) Tryd.underlying60 sz30 zr30 (by decide) rfl (by rw [qy]; rfl) ?_)))))))))));intro gb22 w23 Bb22 Eb22 Gb22
     have Db22_l : Apart (some gb22) ((Value.slice A1 k c1).ownBlock) := Apart.of_lt (ku Ol) Gb22;have Dl_b22 := Db22_l.symm;have Db22_b1 : Apart (some gb22) (some gb1) := Apart.of_lt (yj Bb1.lt) Gb22;have Db1_b22 := Db22_b1.symm;have Gb22 : _ ≤ gb22 := Nat.le_trans E.size Gb22;have GLb22 := Nat.le_trans LW.size Gb22;replace Ol := jc Ol Eb22 NotIn.nil
     replace Bb1 := Bb1.extN Eb22 NotIn.nil;replace E := E.trans Eb22.no;replace HF := HF.cons (yb Gb22);replace E := E.cons (some gb22);replace XLW := Mut.grow XLW (fun k e => Or.inr (Nat.le_trans LW.size ((yb Gb22) k e)));replace XM3 := Mut.grow XM3 (fun k e => Or.inr (Nat.le_trans M3.size ((yb Gb22) k e)))
     replace XM7 := Mut.grow XM7 (fun k e => Or.inr (Nat.le_trans M7.size ((yb Gb22) k e)));replace XM19 := Mut.grow XM19 (fun k e => Or.inr (Nat.le_trans M19.size ((yb Gb22) k e)));replace HF := HF.on E;replace LW := LW.step E XLW;replace M3 := M3.step E XM3;replace M7 := M7.step E XM7;replace M19 := M19.step E XM19
     have SB : ∀ q9, Mut [((Value.slice A1 k c1).ownBlock), (some gb1)] q9 → Mut [(some gb22), ((Value.slice A1 k c1).ownBlock), (some gb1)] q9 := (Mut.skip (Mut.keep (Mut.keep Mut.nil_)));replace HF := HF.less SB;replace XLW := fun k h => XLW k (SB k h);replace XM3 := fun k h => XM3 k (SB k h);replace XM7 := fun k h => XM7 k (SB k h);replace XM19 := fun k h => XM19 k (SB k h);clear SB
     replace E := erx (Mut [((Value.slice A1 k c1).ownBlock), (some gb1)]) w23;replace HF := HF.and (Per.blkN Bb22 (NotIn.cons Db22_l (NotIn.cons Db22_b1 NotIn.nil)))
     refine za rfl (vu (news := [.int .u64 ((yw ((u.take e).drop (e - 18)) : Nat) : Int)]) Tryd.underlying60 inf30 rfl (by decide) rfl Ol rfl (xh (HF.on E).here.2 ((HF.on E).here.2).lt rfl) (by simp [Value.oneCell']) (by unfold maxLen; omega) (by omega) (by exact Nat.le_trans LW.size E.size) ?_);intro v0 w24 On En KN;obtain ⟨A2, c2, rfl⟩ := vm On
     replace KN : ∀ q9, ((Value.slice A2 (k + 1) c2).ownBlock) = some q9 → ((Value.slice A1 k c1).ownBlock) = some q9 ∨ w23.heap.size ≤ q9 := KN;have LTb1 := (yj Bb1.lt);replace Bb1 := Bb1.extN En (NotIn.cons Db1_l NotIn.nil);replace Dl_b1 : Apart ((Value.slice A2 (k + 1) c2).ownBlock) (some gb1) := Dl_b1.turn KN LTb1;replace Db1_l := Dl_b1.symm;clear LTb1
     have HY : Gro (Mut [((Value.slice A2 (k + 1) c2).ownBlock), (some gb1)]) (Mut [((Value.slice A1 k c1).ownBlock), (some gb1)]) w23 := (Mut.grow (Mut.grow Mut.none_ (fun k e => Or.inl ((Mut.tail Mut.head) k e))) (fun k e => (KN k e).elim (fun e => Or.inl (Mut.head k e)) (fun h => Or.inr (Nat.le_trans E.size h))))
     replace KlM19 : ∀ q9, ((Value.slice A2 (k + 1) c2).ownBlock) = some q9 → ((Value.slice none 0 0).ownBlock) = some q9 ∨ w8.heap.size ≤ q9 := fun k e => (KN k e).elim (KlM19 k) (fun h => Or.inr (Nat.le_trans M19.size (Nat.le_trans E.size h)));replace E := E.step1 En Mut.head
     have XT := fun q9 (h : (Mut [((Value.slice A2 (k + 1) c2).ownBlock), (some gb1)]) q9) => (HY q9 h).elim (XLW q9) (fun h => Or.inr (Nat.le_trans LW.size h));have XT := fun q9 (h : (Mut [((Value.slice A2 (k + 1) c2).ownBlock), (some gb1)]) q9) => (HY q9 h).elim (XM3 q9) (fun h => Or.inr (Nat.le_trans M3.size h))
     have XT := fun q9 (h : (Mut [((Value.slice A2 (k + 1) c2).ownBlock), (some gb1)]) q9) => (HY q9 h).elim (XM7 q9) (fun h => Or.inr (Nat.le_trans M7.size h));have XT := fun q9 (h : (Mut [((Value.slice A2 (k + 1) c2).ownBlock), (some gb1)]) q9) => (HY q9 h).elim (XM19 q9) (fun h => Or.inr (Nat.le_trans M19.size h));replace M19 := M19.step E XM19;replace XM19 := XT
     replace E := erx (Mut [((Value.slice A2 (k + 1) c2).ownBlock), (some gb1)]) w24;clear HY;replace Ol : World.ownsRow w24 w.heap.size 30 1 (.slice A2 (k + 1) c2) (k + 1) ((xs ++ [yw ((u.take e).drop (e - 18))]).map fun x : Nat => Value.int .u64 (x : Int)) := by
      have e : ((xs.map fun x : Nat => Value.int .u64 (x : Int)) : List Value) ++ ([.int .u64 ((yw ((u.take e).drop (e - 18)) : Nat) : Int)] : List Value) = (xs ++ [yw ((u.take e).drop (e - 18))]).map fun x : Nat => Value.int .u64 (x : Int) := by simp
      rw [← e];exact On
     clear On KN En
     refine avx rfl (yf (zm (ze (zi (mvx rfl (za rfl (yy rfl rfl (zp (by omega)) (avx rfl (yf (yr 7 (.int .i64 ((u.length : Int) - 18 * ((k + 1 : Nat) : Int))) rfl ((by rw [show (u.length : Int) - 18 * (k : Int) - 18 = (u.length : Int) - 18 * ((k + 1 : Nat) : Int) by omega] : (.int .i64 (((u.length : Int) - 18 * (k : Int)) - 18) : Value) = _)) ?_))))))))))
     exact yl (k + 1, xs ++ [yw ((u.take e).drop (e - 18))], A2, c2) (by show u.length + 18 - 18 * (k + 1) < u.length + 18 - 18 * k; omega) ⟨rfl, rfl, rfl, rfl, rfl, rfl, trivial⟩ ⟨M19.step E XM19, (by exact Ol), (by exact Bb1), KlM19, by rw [List.length_append, hk]; rfl, zez hsm (jt hal9 e), by rw [znx hal9 hk (by omega : u.length = e + 18 * k) (by rw [hval, he]), show u.length - 18 * (k + 1) = e - 18 by omega], by omega⟩
    ·
     have q := of_decide_eq_false q;have hv9 : val B18 xs = yw r := by rw [hval, show u.length - 18 * k = 0 by omega, List.drop_zero, hnum]
     have Ol9 := Ol;have hown : Own w20 w.heap.size A1 c1 xs := ⟨by rw [hk]; exact Ol9, fun x hx => Nat.lt_trans (hsm x hx) (by decide)⟩;have hform : ∀ w', Nums w' A1 xs → Calls Tryd.prog 25 #[.bool true, .slice A1 k c1] w' (yav w' (sgn true (yw r))) := fun w' h => by
      have h9 := ztv true A1 c1 xs w' h hsm (by omega);rwa [hk, hv9] at h9
     replace HF := HF.on E;replace LW := LW.step E XLW;have SB : ∀ q9, Mut [(some gb1)] q9 → Mut [((Value.slice A1 k c1).ownBlock), (some gb1)] q9 := (Mut.skip (Mut.keep Mut.nil_));replace HF := HF.less SB;replace XLW := fun k h => XLW k (SB k h);clear SB;replace E := erx (Mut [(some gb1)]) w20;replace HF := HF.and (Per.ownsN Ol (NotIn.cons Dl_b1 NotIn.nil));clear Ol;replace HF := HF.on E
     replace LW := LW.step E XLW;replace E := erx (Mut [(some gb1)]) w20;replace HF := HF.and (Per.ownN hown (NotIn.cons (ko hown Bb1 (by decide)) NotIn.nil));refine yn (zh (zh (zv (ze (srx (mvx rfl (mvx rfl (za rfl (zz en25 rfl ((hform _ ((HF.on E).here.2).nums).mono ?_))))))))));rintro e w25 ⟨A2, c2, rfl, o2, hb⟩;refine ⟨_, rfl, ?_⟩
     have SC := Nat.le_trans LW.size E.size;have Ec := Ext.of_below hb No;replace Bb1 := Bb1.extN Ec NotIn.nil;replace E := E.trans Ec.no;have S2 := SC;replace HF := HF.on E;replace LW := LW.step E XLW;replace E := erx (Mut [(some gb1)]) w25;replace HF := HF.and (Per.ownN o2 (NotIn.cons (ko o2 Bb1 (by decide)) NotIn.nil))
     refine qe (qv xd rfl rfl Bb1 rfl rfl (Nat.le_of_ble_eq_true rfl) ?_);intro w26 Bx Eb1;replace Bb1 := Bx;replace E := E.step1 Eb1 Mut.head;replace HF := HF.on E;replace LW := LW.step E XLW;have SB : ∀ q9, No q9 → Mut [(some gb1)] q9 := (Mut.skip Mut.nil_);replace HF := HF.less SB;replace XLW := fun k h => XLW k (SB k h);clear SB;replace E := erx (No) w26
     replace HF := HF.and (Per.blkN Bb1 NotIn.nil);refine anx rfl (zr (zq (rs := [.cell 2 62, .tmp 3]) (vs := [_, _]) rfl ⟨⟨_, rfl, gi Tryd.underlying62 rfl xd (HF.on E).here.2 rfl⟩, rfl, trivial⟩ ?_));exact by rw [e1, e2]; exact ⟨A2, c2, rfl, ((HF.on E).here.1.2).mono S2, (LW.step E XLW).toBelow⟩
theorem wparse_pos (hr : r ≠ []) (h45 : r.head? ≠ some 45) (hs : r.length ≤ 140737488355328) : Calls Tryd.prog 21 #[.string ⟨r.toArray⟩] w (kd w (jx false r) (jj r)) := by
 obtain ⟨b0, hb0⟩ : ∃ b, r.head? = some b := by cases r with | nil => exact absurd rfl hr | cons b _ => exact ⟨b, rfl⟩
 have hat0 : (⟨r.toArray⟩ : ByteArray)[0]? = some b0 := by rw [zyk]; cases r with | nil => cases hb0 | cons b _ => simpa using hb0
 have hne : b0.toNat ≠ 45 := fun e => h45 (by rw [hb0, show b0 = 45 from UInt8.toNat_inj.1 e]);have hpos : (0 : Int) < ((⟨r.toArray⟩ : ByteArray).size : Int) := by rw [vf]; have h2 := List.length_pos_iff.2 hr; omega
 refine yk Tryd.func21 rfl Tryd.ntmps21 rfl ?_;have HF : Per (No) w (fun _ => True) := Per.true_;have LW := erx (No) w;have XLW := grx (No) w;have E := erx (No) w;refine srx (za rfl (vv zr62 ?_));intro gb1 w2 Bb1 Eb1 Gb1;have Gb1 : _ ≤ gb1 := Nat.le_trans E.size Gb1;have GLb1 := Nat.le_trans LW.size Gb1;replace E := E.trans Eb1.no;replace HF := HF.cons (yb Gb1)
 replace E := E.cons (some gb1);replace XLW := Mut.grow XLW (fun k e => Or.inr (Nat.le_trans LW.size ((yb Gb1) k e)))
 refine anx rfl (srx (mvx rfl (za rfl (yz Tryd.underlying9 rfl (za rfl (qn rfl rfl (mvx rfl (ye 13 (.bool true) rfl (by rw [decide_eq_true hpos]) (onx rfl (zo rfl (onx rfl (gg (j := 0) Tryd.underlying9 rfl rfl rfl hat0 (onx rfl (yd rfl rfl (za rfl (zw rfl rfl (anx rfl (zf (srx (mvx rfl (rnx (zu 4 (.bool false) rfl ((by rw [beq_eq_false_iff_ne.2 (by omega)] : (.bool (((b0.toNat : Nat) : Int) == 45) : Value) = _)) (zu 18 (.bool false) rfl ((by rw [beq_eq_false_iff_ne.2 (by omega)] : (.bool (((b0.toNat : Nat) : Int) == 45) : Value) = _)) (zy rfl (zj (ze (zf (srx (mvx rfl (za rfl (xw rfl rfl (rnx ?_))))))))))))))))))))))))))))))))
 have hne0 : (⟨r.toArray⟩ : ByteArray).toList ≠ (⟨#[]⟩ : ByteArray).toList := by rw [ygv, show (⟨#[]⟩ : ByteArray).toList = [] from ygv []]; exact hr
 refine zu 22 (.bool false) rfl (by rw [beq_eq_false_iff_ne.2 hne0]) (zy rfl (zj (ze (zf (srx (mvx rfl (za rfl (yz Tryd.underlying9 rfl (mvx rfl (rnx (zx (zu 25 (.int .i64 ((r.length : Nat) : Int)) rfl (by rw [vf]) (zu 26 (.int .i64 ((0 : Nat) : Int)) rfl ((by rfl : (.int .i64 0 : Value) = _)) ?_)))))))))))));replace HF := HF.on E
 replace LW := LW.step E XLW;replace E := erx (Mut [(some gb1)]) w2
 refine qk (ι := Nat) (fun k => [(0, .string ⟨r.toArray⟩), (2, .pointer (some ⟨gb1, 0, none⟩)), (3, .int .i64 0), (4, .bool false), (25, .int .i64 ((r.length : Nat) : Int)), (26, .int .i64 (k : Int))]) (fun k w' => Ext (Mut [(some gb1)]) w2 w' ∧ Blk w' gb1 62 (#[.bool false, .slice none 0 0]) ∧ (k ≤ r.length ∧ (r.take k).all va = true)) (fun k => r.length - k) 0 ⟨rfl, rfl, rfl, rfl, rfl, rfl, trivial⟩ ⟨Ext.refl _ _, (by exact Bb1), ⟨Nat.zero_le _, rfl⟩⟩ ?_
 have LTb1 := (yj Bb1.lt);rintro k w4 ⟨M3, Bb1, ⟨hk, hall⟩⟩;have XM3 : Gro (Mut [(some gb1)]) (Mut [(some gb1)]) w2 := (Mut.grow Mut.none_ (fun k e => Or.inl (Mut.head k e)));replace E := E.trans M3;replace HF := HF.on E;replace LW := LW.step E XLW;replace E := erx (Mut [(some gb1)]) w4;clear LTb1
 refine srx (za rfl (yt rfl rfl (rnx (zf (zt rfl (fun q => ?_) (fun q => ?_))))))
 ·
  have q := of_decide_eq_true q;have hk1 : k < r.length := by omega
  obtain ⟨b, hb9⟩ : ∃ b, r[k]? = some b := ⟨_, List.getElem?_eq_getElem hk1⟩;have hat : (⟨r.toArray⟩ : ByteArray)[k]? = some b := by rw [zyk]; exact hb9
  refine zj (ze (zf (zx (srx (mvx rfl (anx rfl (srx (mvx rfl (mvx rfl (za rfl (gg (j := k) Tryd.underlying9 rfl rfl rfl hat (za rfl (yt rfl rfl (mvx rfl (yo 33 rfl (fun h => ?_) (fun h => ?_))))))))))))))))
  ·
   have h := of_decide_eq_true h;obtain ⟨e1, e2⟩ := zqv (neg := false) (yfz hb9 (by unfold va; simp; omega))
   refine za rfl (zc rfl (za rfl (zc rfl (za rfl (zc rfl (za rfl (zc rfl (za rfl (zw rfl rfl (rnx (yh rfl (srx (za rfl (jf (cs := #[.bool false, .slice none 0 0]) pl62 zr62 rfl rfl (qe (qv xd rfl rfl Bb1 rfl rfl (Nat.le_of_ble_eq_true rfl) ?_))))))))))))))));intro w5 Bx Eb1;replace Bb1 := Bx;replace E := E.step1 Eb1 Mut.head
   refine anx rfl (zr (zn (zd (zd (zn (zd (zq (rs := [.cell 2 62, .tmp 3]) (vs := [_, _]) rfl ⟨⟨_, rfl, gi Tryd.underlying62 rfl xd Bb1 rfl⟩, rfl, trivial⟩ ?_)))))));exact by rw [e1, e2]; exact vz (LW.step E XLW).toBelow
  ·
   have h := of_decide_eq_false h;refine onx rfl (zo rfl (onx rfl (zo rfl (onx rfl (gg (j := k) Tryd.underlying9 rfl rfl rfl hat (onx rfl (qn rfl rfl (za rfl (ya rfl rfl (rnx (zt rfl (fun h2 => ?_) (fun h2 => ?_))))))))))))
   ·
    have h2 := of_decide_eq_true h2;obtain ⟨e1, e2⟩ := zqv (neg := false) (yfz hb9 (by unfold va; simp; omega));refine srx (za rfl (jf (cs := #[.bool false, .slice none 0 0]) pl62 zr62 rfl rfl (qe (qv xd rfl rfl Bb1 rfl rfl (Nat.le_of_ble_eq_true rfl) ?_))));intro w6 Bx Eb1;replace Bb1 := Bx;replace E := E.step1 Eb1 Mut.head
    refine anx rfl (zr (zn (zd (zd (zn (zd (zq (rs := [.cell 2 62, .tmp 3]) (vs := [_, _]) rfl ⟨⟨_, rfl, gi Tryd.underlying62 rfl xd Bb1 rfl⟩, rfl, trivial⟩ ?_)))))));exact by rw [e1, e2]; exact vz (LW.step E XLW).toBelow
   ·
    have h2 := of_decide_eq_false h2;have hdig : va b = true := dig_of (by omega) (by omega);refine zj (zm (ze (zi (za rfl (yg rfl rfl (zp (by omega)) (mvx rfl (yf (yr 26 (.int .i64 ((k + 1 : Nat) : Int)) rfl ((by rfl : (.int .i64 ((k : Int) + 1) : Value) = _)) ?_))))))))
    exact yl (k + 1) (by show r.length - (k + 1) < r.length - k; omega) ⟨rfl, rfl, rfl, rfl, rfl, rfl, trivial⟩ ⟨M3.step E XM3, (by exact Bb1), by omega, all_get hb9 hall hdig⟩
 ·
  have q := of_decide_eq_false q;obtain rfl : k = r.length := by omega
  rw [List.take_length] at hall;refine yn (zh (zh (zv (ze (zf (zx ?_))))));replace HF := HF.on E;replace LW := LW.step E XLW;replace M3 := M3.step E XM3;replace E := erx (Mut [(some gb1)]) w4
  refine qk (ι := List UInt8) (fun u => [(0, .string ⟨u.toArray⟩), (2, .pointer (some ⟨gb1, 0, none⟩)), (3, .int .i64 0), (4, .bool false)]) (fun u w' => Ext (Mut [(some gb1)]) w4 w' ∧ Blk w' gb1 62 (#[.bool false, .slice none 0 0]) ∧ (jy u = jy r ∧ u.length ≤ r.length)) (fun u => u.length) r ⟨rfl, rfl, rfl, rfl, trivial⟩ ⟨Ext.refl _ _, (by exact Bb1), ⟨rfl, Nat.le_refl _⟩⟩ ?_
  have LTb1 := (yj Bb1.lt);rintro u w8 ⟨M7, Bb1, ⟨hu1, hu2⟩⟩;have XM7 : Gro (Mut [(some gb1)]) (Mut [(some gb1)]) w4 := (Mut.grow Mut.none_ (fun k e => Or.inl (Mut.head k e)));replace E := E.trans M7;replace HF := HF.on E;replace LW := LW.step E XLW;replace M3 := M3.step E XM3;replace E := erx (Mut [(some gb1)]) w8;clear LTb1
  refine zf (srx (mvx rfl (za rfl (yz Tryd.underlying9 rfl (za rfl (qn rfl rfl (mvx rfl (ye 44 (.bool (decide ((0 : Int) < ((u.length : Nat) : Int)))) rfl (by rw [vf]) (yo 44 rfl (fun h => ?_) (fun h => ?_))))))))))
  ·
   have h := of_decide_eq_true h;obtain ⟨b, u2, hbu⟩ : ∃ b u2, u = b :: u2 := by cases u with | nil => simp at h | cons b u2 => exact ⟨b, u2, rfl⟩
   have hat : (⟨u.toArray⟩ : ByteArray)[0]? = some b := by rw [zyk, hbu]; rfl
   refine onx rfl (zo rfl (onx rfl (gg (j := 0) Tryd.underlying9 rfl rfl rfl hat (onx rfl (yd rfl rfl (za rfl (zw rfl rfl (rnx (zt rfl (fun h2 => ?_) (fun h2 => ?_))))))))))
   ·
    have h2 : b = 48 := UInt8.toNat_inj.1 (by have h7 := of_decide_eq_true h2; have h8 : (48 : UInt8).toNat = 48 := rfl; omega);have hul : u.length = u2.length + 1 := by rw [hbu]; rfl
    refine zj (ze (zx (zi (mvx rfl (za rfl (vh (l := 1) (h := u.length) Tryd.underlying9 rfl ⟨_, rfl⟩ (vf u).symm (by omega) (by rw [vf]; omega) (ye 50 (.string ⟨u2.toArray⟩) rfl ((by rw [zpv, List.take_length, hbu]; rfl : (.string ((⟨u.toArray⟩ : ByteArray).extract 1 u.length) : Value) = _)) (avx rfl (yf (zm ?_))))))))))
    exact yl u2 (by show u2.length < u.length; omega) ⟨rfl, rfl, rfl, rfl, trivial⟩ ⟨M7.step E XM7, (by exact Bb1), by rw [← hu1, hbu, h2, strip_zero], by omega⟩
   ·
    have h2 : b ≠ 48 := fun e => by rw [e] at h2; exact absurd h2 (by decide)
    refine yn (zh (zh (zv (ze (zf (srx (mvx rfl (za rfl (yz Tryd.underlying9 rfl (za rfl (qn rfl rfl (rnx ?_))))))))))));have hstr : jy r = u := by rw [← hu1]; exact by rw [hbu, strip_cons h2]
    have hal9 := zcq hall;rw [hstr] at hal9;have hln9 := zjk hall;rw [hstr] at hln9;have hnum : yw u = yw r := by rw [← hstr, xy]
    refine zu 53 (.bool (decide ((540 : Int) < ((u.length : Nat) : Int)))) rfl (by rw [vf]) (zt rfl (fun h3 => ?_) (fun h3 => ?_))
    ·
     have h3 := of_decide_eq_true h3;have e1 : jj r = 2 := by unfold jj; rw [if_pos ⟨hr, hall⟩, if_neg (by omega)]
     have e2 : jx false r = 0 := by unfold jx; rw [if_neg (by rintro ⟨_, _, h⟩; omega)]
     refine srx (za rfl (jf (cs := #[.bool false, .slice none 0 0]) pl62 zr62 rfl rfl (qe (qv xd rfl rfl Bb1 rfl rfl (Nat.le_of_ble_eq_true rfl) ?_))));intro w9 Bx Eb1;replace Bb1 := Bx;replace E := E.step1 Eb1 Mut.head
     refine anx rfl (zr (zd (zq (rs := [.cell 2 62, .tmp 3]) (vs := [_, _]) rfl ⟨⟨_, rfl, gi Tryd.underlying62 rfl xd Bb1 rfl⟩, rfl, trivial⟩ ?_)));exact by rw [e1, e2]; exact vz (LW.step E XLW).toBelow
    ·
     have h3 := of_decide_eq_false h3;have e1 : jj r = 0 := by unfold jj; rw [if_pos ⟨hr, hall⟩, if_pos (by omega)]
     have e2 : jx false r = sgn false (yw r) := by unfold jx; rw [if_pos ⟨hr, hall, by omega⟩]
     refine zj (ze (srx (anx rfl (zf (srx (mvx rfl (za rfl (yz Tryd.underlying9 rfl (anx rfl (zx ?_))))))))));have Ol : World.ownsRow w8 w.heap.size 30 1 (.slice none 0 0) 0 ([]) := jd;have Dl_b1 : Apart ((Value.slice none 0 0).ownBlock) (some gb1) := fun _ e => by cases e
     have Db1_l := Dl_b1.symm;replace HF := HF.cons (jr);replace E := E.cons ((Value.slice none 0 0).ownBlock);replace XLW := Mut.grow XLW (fun k e => Or.inr (Nat.le_trans LW.size ((jr) k e)));replace XM3 := Mut.grow XM3 (fun k e => Or.inr (Nat.le_trans M3.size ((jr) k e)));replace XM7 := Mut.grow XM7 (fun k e => Or.inr (Nat.le_trans M7.size ((jr) k e)))
     refine zu 7 (.int .i64 ((u.length : Int) - 18 * ((0 : Nat) : Int))) rfl (by rw [vf]; simp) ?_;replace HF := HF.on E;replace LW := LW.step E XLW;replace M3 := M3.step E XM3;replace M7 := M7.step E XM7;replace E := erx (Mut [((Value.slice none 0 0).ownBlock), (some gb1)]) w8
     refine qk (ι := Nat × List Nat × Option Addr × Nat) (fun (k, xs, A1, c1) => [(0, .string ⟨u.toArray⟩), (2, .pointer (some ⟨gb1, 0, none⟩)), (3, .int .i64 0), (4, .bool false), (6, .slice A1 k c1), (7, .int .i64 ((u.length : Int) - 18 * (k : Int)))]) (fun (k, xs, A1, c1) w' => Ext (Mut [((Value.slice none 0 0).ownBlock), (some gb1)]) w8 w' ∧ World.ownsRow w' w.heap.size 30 1 (.slice A1 k c1) k (xs.map fun x : Nat => Value.int .u64 (x : Int)) ∧ Blk w' gb1 62 (#[.bool false, .slice none 0 0]) ∧ (∀ q9, ((Value.slice A1 k c1).ownBlock) = some q9 → ((Value.slice none 0 0).ownBlock) = some q9 ∨ w8.heap.size ≤ q9) ∧ (xs.length = k ∧ small B18 xs ∧ val B18 xs = yw (u.drop (u.length - 18 * k)) ∧ 18 * k ≤ u.length + 17)) (fun (k, xs, A1, c1) => u.length + 18 - 18 * k) (0, [], none, 0) ⟨rfl, rfl, rfl, rfl, rfl, rfl, trivial⟩ ⟨Ext.refl _ _, (by exact Ol), (by exact Bb1), (fun _ e => Or.inl e), ⟨rfl, zjv, by rw [Nat.mul_zero, Nat.sub_zero, List.drop_length]; rfl, by omega⟩⟩ ?_
     have LTl := (ku Ol);have LTb1 := (yj Bb1.lt);clear Ol;rintro ⟨k, xs, A1, c1⟩ w11 ⟨M10, Ol, Bb1, KlM10, ⟨hk, hsm, hval, hkl⟩⟩;replace Dl_b1 : Apart ((Value.slice A1 k c1).ownBlock) (some gb1) := Dl_b1.turn KlM10 LTb1;replace Db1_l := Dl_b1.symm
     have XM10 : Gro (Mut [((Value.slice A1 k c1).ownBlock), (some gb1)]) (Mut [((Value.slice none 0 0).ownBlock), (some gb1)]) w8 := (Mut.grow (Mut.grow Mut.none_ (fun k e => Or.inl ((Mut.tail Mut.head) k e))) (fun k e => (KlM10 k e).elim (fun e => Or.inl (Mut.head k e)) Or.inr));replace E := E.trans M10;replace HF := HF.turn E XM10;have ZLW := LW.size
     have XT := fun q9 (h : (Mut [((Value.slice A1 k c1).ownBlock), (some gb1)]) q9) => (XM10 q9 h).elim (XLW q9) (fun h => Or.inr (Nat.le_trans LW.size h));replace LW := LW.step E XLW;replace XLW := XT;have ZM3 := M3.size;have XT := fun q9 (h : (Mut [((Value.slice A1 k c1).ownBlock), (some gb1)]) q9) => (XM10 q9 h).elim (XM3 q9) (fun h => Or.inr (Nat.le_trans M3.size h))
     replace M3 := M3.step E XM3;replace XM3 := XT;have ZM7 := M7.size;have XT := fun q9 (h : (Mut [((Value.slice A1 k c1).ownBlock), (some gb1)]) q9) => (XM10 q9 h).elim (XM7 q9) (fun h => Or.inr (Nat.le_trans M7.size h));replace M7 := M7.step E XM7;replace XM7 := XT;clear ZLW;clear ZM3;clear ZM7;replace E := erx (Mut [((Value.slice A1 k c1).ownBlock), (some gb1)]) w11;clear LTl;clear LTb1
     refine zf (srx (mvx rfl (za rfl (qn rfl rfl (rnx (zt rfl (fun q => ?_) (fun q => ?_)))))))
     ·
      have q := of_decide_eq_true q;obtain ⟨e, he⟩ : ∃ e : Nat, e = u.length - 18 * k := ⟨_, rfl⟩;have he0 : 0 < e := by omega
      have hel : e ≤ u.length := by omega
      refine zj (ze (zf (zx (srx (mvx rfl (mvx rfl (za rfl (yy rfl rfl (zp (by omega)) (za rfl (ow_max rfl rfl (ye 65 (.int .i64 ((e - 18 : Nat) : Int)) rfl ((by congr 1; split <;> omega : (.int .i64 (if (u.length : Int) - 18 * (k : Int) - 18 > 0 then (u.length : Int) - 18 * (k : Int) - 18 else 0) : Value) = _)) (mvx rfl (ye 66 (.int .i64 ((e : Nat) : Int)) rfl ((by rw [show (u.length : Int) - 18 * (k : Int) = ((e : Nat) : Int) by omega] : (.int .i64 ((u.length : Int) - 18 * (k : Int)) : Value) = _)) (za rfl (vh (l := e - 18) (h := e) Tryd.underlying9 rfl ⟨_, rfl⟩ ⟨_, rfl⟩ (Nat.sub_le _ _) (by rw [vf]; exact hel) (ye 67 (.string ⟨((u.take e).drop (e - 18)).toArray⟩) rfl ((by rw [zpv] : (.string ((⟨u.toArray⟩ : ByteArray).extract (e - 18) e) : Value) = _)) (za rfl (zz en24 rfl ((parseU _ _ (ztx he0 hel) (zkv hal9 e) (jt hal9 e) (zkk u e)).mono ?_)))))))))))))))))))
      rintro e w12 ⟨rfl, hb⟩;refine ⟨_, rfl, ?_⟩;have Ec := Ext.of_below hb No;replace Ol := jc Ol Ec NotIn.nil;replace Bb1 := Bb1.extN Ec NotIn.nil;replace E := E.trans Ec.no
      refine mvx rfl (za rfl (yc rfl rfl (za rfl (yc rfl rfl (avx rfl (anx rfl (zi (mvx rfl (mvx rfl (za rfl (qg (cs := #[.int .u64 ((yw ((u.take e).drop (e - 18)) : Nat) : Int)]) Tryd.underlying60 sz30 zr30 (by decide) rfl (by rw [qy]; rfl) ?_)))))))))));intro gb13 w14 Bb13 Eb13 Gb13
      have Db13_l : Apart (some gb13) ((Value.slice A1 k c1).ownBlock) := Apart.of_lt (ku Ol) Gb13;have Dl_b13 := Db13_l.symm;have Db13_b1 : Apart (some gb13) (some gb1) := Apart.of_lt (yj Bb1.lt) Gb13;have Db1_b13 := Db13_b1.symm;have Gb13 : _ ≤ gb13 := Nat.le_trans E.size Gb13;have GLb13 := Nat.le_trans LW.size Gb13;replace Ol := jc Ol Eb13 NotIn.nil
      replace Bb1 := Bb1.extN Eb13 NotIn.nil;replace E := E.trans Eb13.no;replace HF := HF.cons (yb Gb13);replace E := E.cons (some gb13);replace XLW := Mut.grow XLW (fun k e => Or.inr (Nat.le_trans LW.size ((yb Gb13) k e)));replace XM3 := Mut.grow XM3 (fun k e => Or.inr (Nat.le_trans M3.size ((yb Gb13) k e)))
      replace XM7 := Mut.grow XM7 (fun k e => Or.inr (Nat.le_trans M7.size ((yb Gb13) k e)));replace XM10 := Mut.grow XM10 (fun k e => Or.inr (Nat.le_trans M10.size ((yb Gb13) k e)));replace HF := HF.on E;replace LW := LW.step E XLW;replace M3 := M3.step E XM3;replace M7 := M7.step E XM7;replace M10 := M10.step E XM10
      have SB : ∀ q9, Mut [((Value.slice A1 k c1).ownBlock), (some gb1)] q9 → Mut [(some gb13), ((Value.slice A1 k c1).ownBlock), (some gb1)] q9 := (Mut.skip (Mut.keep (Mut.keep Mut.nil_)));replace HF := HF.less SB;replace XLW := fun k h => XLW k (SB k h);replace XM3 := fun k h => XM3 k (SB k h);replace XM7 := fun k h => XM7 k (SB k h);replace XM10 := fun k h => XM10 k (SB k h);clear SB
      replace E := erx (Mut [((Value.slice A1 k c1).ownBlock), (some gb1)]) w14;replace HF := HF.and (Per.blkN Bb13 (NotIn.cons Db13_l (NotIn.cons Db13_b1 NotIn.nil)))
      refine za rfl (vu (news := [.int .u64 ((yw ((u.take e).drop (e - 18)) : Nat) : Int)]) Tryd.underlying60 inf30 rfl (by decide) rfl Ol rfl (xh (HF.on E).here.2 ((HF.on E).here.2).lt rfl) (by simp [Value.oneCell']) (by unfold maxLen; omega) (by omega) (by exact Nat.le_trans LW.size E.size) ?_);intro v0 w15 On En KN;obtain ⟨A2, c2, rfl⟩ := vm On
      replace KN : ∀ q9, ((Value.slice A2 (k + 1) c2).ownBlock) = some q9 → ((Value.slice A1 k c1).ownBlock) = some q9 ∨ w14.heap.size ≤ q9 := KN;have LTb1 := (yj Bb1.lt);replace Bb1 := Bb1.extN En (NotIn.cons Db1_l NotIn.nil);replace Dl_b1 : Apart ((Value.slice A2 (k + 1) c2).ownBlock) (some gb1) := Dl_b1.turn KN LTb1;replace Db1_l := Dl_b1.symm;clear LTb1
      have HY : Gro (Mut [((Value.slice A2 (k + 1) c2).ownBlock), (some gb1)]) (Mut [((Value.slice A1 k c1).ownBlock), (some gb1)]) w14 := (Mut.grow (Mut.grow Mut.none_ (fun k e => Or.inl ((Mut.tail Mut.head) k e))) (fun k e => (KN k e).elim (fun e => Or.inl (Mut.head k e)) (fun h => Or.inr (Nat.le_trans E.size h))))
      replace KlM10 : ∀ q9, ((Value.slice A2 (k + 1) c2).ownBlock) = some q9 → ((Value.slice none 0 0).ownBlock) = some q9 ∨ w8.heap.size ≤ q9 := fun k e => (KN k e).elim (KlM10 k) (fun h => Or.inr (Nat.le_trans M10.size (Nat.le_trans E.size h)));replace E := E.step1 En Mut.head
      have XT := fun q9 (h : (Mut [((Value.slice A2 (k + 1) c2).ownBlock), (some gb1)]) q9) => (HY q9 h).elim (XLW q9) (fun h => Or.inr (Nat.le_trans LW.size h));have XT := fun q9 (h : (Mut [((Value.slice A2 (k + 1) c2).ownBlock), (some gb1)]) q9) => (HY q9 h).elim (XM3 q9) (fun h => Or.inr (Nat.le_trans M3.size h))
      have XT := fun q9 (h : (Mut [((Value.slice A2 (k + 1) c2).ownBlock), (some gb1)]) q9) => (HY q9 h).elim (XM7 q9) (fun h => Or.inr (Nat.le_trans M7.size h));have XT := fun q9 (h : (Mut [((Value.slice A2 (k + 1) c2).ownBlock), (some gb1)]) q9) => (HY q9 h).elim (XM10 q9) (fun h => Or.inr (Nat.le_trans M10.size h));replace M10 := M10.step E XM10;replace XM10 := XT
      replace E := erx (Mut [((Value.slice A2 (k + 1) c2).ownBlock), (some gb1)]) w15;clear HY;replace Ol : World.ownsRow w15 w.heap.size 30 1 (.slice A2 (k + 1) c2) (k + 1) ((xs ++ [yw ((u.take e).drop (e - 18))]).map fun x : Nat => Value.int .u64 (x : Int)) := by
       have e : ((xs.map fun x : Nat => Value.int .u64 (x : Int)) : List Value) ++ ([.int .u64 ((yw ((u.take e).drop (e - 18)) : Nat) : Int)] : List Value) = (xs ++ [yw ((u.take e).drop (e - 18))]).map fun x : Nat => Value.int .u64 (x : Int) := by simp
       rw [← e];exact On
      clear On KN En
      refine avx rfl (yf (zm (ze (zi (mvx rfl (za rfl (yy rfl rfl (zp (by omega)) (avx rfl (yf (yr 7 (.int .i64 ((u.length : Int) - 18 * ((k + 1 : Nat) : Int))) rfl ((by rw [show (u.length : Int) - 18 * (k : Int) - 18 = (u.length : Int) - 18 * ((k + 1 : Nat) : Int) by omega] : (.int .i64 (((u.length : Int) - 18 * (k : Int)) - 18) : Value) = _)) ?_))))))))))
      exact yl (k + 1, xs ++ [yw ((u.take e).drop (e - 18))], A2, c2) (by show u.length + 18 - 18 * (k + 1) < u.length + 18 - 18 * k; omega) ⟨rfl, rfl, rfl, rfl, rfl, rfl, trivial⟩ ⟨M10.step E XM10, (by exact Ol), (by exact Bb1), KlM10, by rw [List.length_append, hk]; rfl, zez hsm (jt hal9 e), by rw [znx hal9 hk (by omega : u.length = e + 18 * k) (by rw [hval, he]), show u.length - 18 * (k + 1) = e - 18 by omega], by omega⟩
     ·
      have q := of_decide_eq_false q;have hv9 : val B18 xs = yw r := by rw [hval, show u.length - 18 * k = 0 by omega, List.drop_zero, hnum]
      have Ol9 := Ol;have hown : Own w11 w.heap.size A1 c1 xs := ⟨by rw [hk]; exact Ol9, fun x hx => Nat.lt_trans (hsm x hx) (by decide)⟩;have hform : ∀ w', Nums w' A1 xs → Calls Tryd.prog 25 #[.bool false, .slice A1 k c1] w' (yav w' (sgn false (yw r))) := fun w' h => by
       have h9 := ztv false A1 c1 xs w' h hsm (by omega);rwa [hk, hv9] at h9
      replace HF := HF.on E;replace LW := LW.step E XLW;have SB : ∀ q9, Mut [(some gb1)] q9 → Mut [((Value.slice A1 k c1).ownBlock), (some gb1)] q9 := (Mut.skip (Mut.keep Mut.nil_));replace HF := HF.less SB;replace XLW := fun k h => XLW k (SB k h);clear SB;replace E := erx (Mut [(some gb1)]) w11;replace HF := HF.and (Per.ownsN Ol (NotIn.cons Dl_b1 NotIn.nil));clear Ol;replace HF := HF.on E
      replace LW := LW.step E XLW;replace E := erx (Mut [(some gb1)]) w11;replace HF := HF.and (Per.ownN hown (NotIn.cons (ko hown Bb1 (by decide)) NotIn.nil));refine yn (zh (zh (zv (ze (srx (mvx rfl (mvx rfl (za rfl (zz en25 rfl ((hform _ ((HF.on E).here.2).nums).mono ?_))))))))));rintro e w16 ⟨A2, c2, rfl, o2, hb⟩;refine ⟨_, rfl, ?_⟩
      have SC := Nat.le_trans LW.size E.size;have Ec := Ext.of_below hb No;replace Bb1 := Bb1.extN Ec NotIn.nil;replace E := E.trans Ec.no;have S2 := SC;replace HF := HF.on E;replace LW := LW.step E XLW;replace E := erx (Mut [(some gb1)]) w16;replace HF := HF.and (Per.ownN o2 (NotIn.cons (ko o2 Bb1 (by decide)) NotIn.nil))
      refine qe (qv xd rfl rfl Bb1 rfl rfl (Nat.le_of_ble_eq_true rfl) ?_);intro w17 Bx Eb1;replace Bb1 := Bx;replace E := E.step1 Eb1 Mut.head;replace HF := HF.on E;replace LW := LW.step E XLW;have SB : ∀ q9, No q9 → Mut [(some gb1)] q9 := (Mut.skip Mut.nil_);replace HF := HF.less SB;replace XLW := fun k h => XLW k (SB k h);clear SB;replace E := erx (No) w17
      replace HF := HF.and (Per.blkN Bb1 NotIn.nil);refine anx rfl (zr (zq (rs := [.cell 2 62, .tmp 3]) (vs := [_, _]) rfl ⟨⟨_, rfl, gi Tryd.underlying62 rfl xd (HF.on E).here.2 rfl⟩, rfl, trivial⟩ ?_));exact by rw [e1, e2]; exact ⟨A2, c2, rfl, ((HF.on E).here.1.2).mono S2, (LW.step E XLW).toBelow⟩
  ·
   have h := of_decide_eq_false h;have hu0 : u = [] := by cases u with | nil => rfl | cons b u2 => simp at h
   refine za rfl (zc rfl (za rfl (zc rfl (za rfl (zc rfl (za rfl (ya rfl rfl (rnx (zy rfl (yn (zh (zh (zv (ze (zf (srx (mvx rfl (za rfl (yz Tryd.underlying9 rfl (za rfl (qn rfl rfl (rnx ?_))))))))))))))))))))));have hstr : jy r = u := by rw [← hu1]; exact by rw [hu0]; rfl
   have hal9 := zcq hall;rw [hstr] at hal9;have hln9 := zjk hall;rw [hstr] at hln9;have hnum : yw u = yw r := by rw [← hstr, xy]
   refine zu 53 (.bool (decide ((540 : Int) < ((u.length : Nat) : Int)))) rfl (by rw [vf]) (zt rfl (fun h3 => ?_) (fun h3 => ?_))
   ·
    have h3 := of_decide_eq_true h3;have e1 : jj r = 2 := by unfold jj; rw [if_pos ⟨hr, hall⟩, if_neg (by omega)]
    have e2 : jx false r = 0 := by unfold jx; rw [if_neg (by rintro ⟨_, _, h⟩; omega)]
    refine srx (za rfl (jf (cs := #[.bool false, .slice none 0 0]) pl62 zr62 rfl rfl (qe (qv xd rfl rfl Bb1 rfl rfl (Nat.le_of_ble_eq_true rfl) ?_))));intro w18 Bx Eb1;replace Bb1 := Bx;replace E := E.step1 Eb1 Mut.head
    refine anx rfl (zr (zd (zq (rs := [.cell 2 62, .tmp 3]) (vs := [_, _]) rfl ⟨⟨_, rfl, gi Tryd.underlying62 rfl xd Bb1 rfl⟩, rfl, trivial⟩ ?_)));exact by rw [e1, e2]; exact vz (LW.step E XLW).toBelow
   ·
    have h3 := of_decide_eq_false h3;have e1 : jj r = 0 := by unfold jj; rw [if_pos ⟨hr, hall⟩, if_pos (by omega)]
    have e2 : jx false r = sgn false (yw r) := by unfold jx; rw [if_pos ⟨hr, hall, by omega⟩]
    refine zj (ze (srx (anx rfl (zf (srx (mvx rfl (za rfl (yz Tryd.underlying9 rfl (anx rfl (zx ?_))))))))));have Ol : World.ownsRow w8 w.heap.size 30 1 (.slice none 0 0) 0 ([]) := jd;have Dl_b1 : Apart ((Value.slice none 0 0).ownBlock) (some gb1) := fun _ e => by cases e
    have Db1_l := Dl_b1.symm;replace HF := HF.cons (jr);replace E := E.cons ((Value.slice none 0 0).ownBlock);replace XLW := Mut.grow XLW (fun k e => Or.inr (Nat.le_trans LW.size ((jr) k e)));replace XM3 := Mut.grow XM3 (fun k e => Or.inr (Nat.le_trans M3.size ((jr) k e)));replace XM7 := Mut.grow XM7 (fun k e => Or.inr (Nat.le_trans M7.size ((jr) k e)))
    refine zu 7 (.int .i64 ((u.length : Int) - 18 * ((0 : Nat) : Int))) rfl (by rw [vf]; simp) ?_;replace HF := HF.on E;replace LW := LW.step E XLW;replace M3 := M3.step E XM3;replace M7 := M7.step E XM7;replace E := erx (Mut [((Value.slice none 0 0).ownBlock), (some gb1)]) w8
    refine qk (ι := Nat × List Nat × Option Addr × Nat) (fun (k, xs, A1, c1) => [(0, .string ⟨u.toArray⟩), (2, .pointer (some ⟨gb1, 0, none⟩)), (3, .int .i64 0), (4, .bool false), (6, .slice A1 k c1), (7, .int .i64 ((u.length : Int) - 18 * (k : Int)))]) (fun (k, xs, A1, c1) w' => Ext (Mut [((Value.slice none 0 0).ownBlock), (some gb1)]) w8 w' ∧ World.ownsRow w' w.heap.size 30 1 (.slice A1 k c1) k (xs.map fun x : Nat => Value.int .u64 (x : Int)) ∧ Blk w' gb1 62 (#[.bool false, .slice none 0 0]) ∧ (∀ q9, ((Value.slice A1 k c1).ownBlock) = some q9 → ((Value.slice none 0 0).ownBlock) = some q9 ∨ w8.heap.size ≤ q9) ∧ (xs.length = k ∧ small B18 xs ∧ val B18 xs = yw (u.drop (u.length - 18 * k)) ∧ 18 * k ≤ u.length + 17)) (fun (k, xs, A1, c1) => u.length + 18 - 18 * k) (0, [], none, 0) ⟨rfl, rfl, rfl, rfl, rfl, rfl, trivial⟩ ⟨Ext.refl _ _, (by exact Ol), (by exact Bb1), (fun _ e => Or.inl e), ⟨rfl, zjv, by rw [Nat.mul_zero, Nat.sub_zero, List.drop_length]; rfl, by omega⟩⟩ ?_
    have LTl := (ku Ol);have LTb1 := (yj Bb1.lt);clear Ol;rintro ⟨k, xs, A1, c1⟩ w20 ⟨M19, Ol, Bb1, KlM19, ⟨hk, hsm, hval, hkl⟩⟩;replace Dl_b1 : Apart ((Value.slice A1 k c1).ownBlock) (some gb1) := Dl_b1.turn KlM19 LTb1;replace Db1_l := Dl_b1.symm
    have XM19 : Gro (Mut [((Value.slice A1 k c1).ownBlock), (some gb1)]) (Mut [((Value.slice none 0 0).ownBlock), (some gb1)]) w8 := (Mut.grow (Mut.grow Mut.none_ (fun k e => Or.inl ((Mut.tail Mut.head) k e))) (fun k e => (KlM19 k e).elim (fun e => Or.inl (Mut.head k e)) Or.inr));replace E := E.trans M19;replace HF := HF.turn E XM19;have ZLW := LW.size
    have XT := fun q9 (h : (Mut [((Value.slice A1 k c1).ownBlock), (some gb1)]) q9) => (XM19 q9 h).elim (XLW q9) (fun h => Or.inr (Nat.le_trans LW.size h));replace LW := LW.step E XLW;replace XLW := XT;have ZM3 := M3.size;have XT := fun q9 (h : (Mut [((Value.slice A1 k c1).ownBlock), (some gb1)]) q9) => (XM19 q9 h).elim (XM3 q9) (fun h => Or.inr (Nat.le_trans M3.size h))
    replace M3 := M3.step E XM3;replace XM3 := XT;have ZM7 := M7.size;have XT := fun q9 (h : (Mut [((Value.slice A1 k c1).ownBlock), (some gb1)]) q9) => (XM19 q9 h).elim (XM7 q9) (fun h => Or.inr (Nat.le_trans M7.size h));replace M7 := M7.step E XM7;replace XM7 := XT;clear ZLW;clear ZM3;clear ZM7;replace E := erx (Mut [((Value.slice A1 k c1).ownBlock), (some gb1)]) w20;clear LTl;clear LTb1
    refine zf (srx (mvx rfl (za rfl (qn rfl rfl (rnx (zt rfl (fun q => ?_) (fun q => ?_)))))))
    ·
     have q := of_decide_eq_true q;obtain ⟨e, he⟩ : ∃ e : Nat, e = u.length - 18 * k := ⟨_, rfl⟩;have he0 : 0 < e := by omega
     have hel : e ≤ u.length := by omega
     refine zj (ze (zf (zx (srx (mvx rfl (mvx rfl (za rfl (yy rfl rfl (zp (by omega)) (za rfl (ow_max rfl rfl (ye 65 (.int .i64 ((e - 18 : Nat) : Int)) rfl ((by congr 1; split <;> omega : (.int .i64 (if (u.length : Int) - 18 * (k : Int) - 18 > 0 then (u.length : Int) - 18 * (k : Int) - 18 else 0) : Value) = _)) (mvx rfl (ye 66 (.int .i64 ((e : Nat) : Int)) rfl ((by rw [show (u.length : Int) - 18 * (k : Int) = ((e : Nat) : Int) by omega] : (.int .i64 ((u.length : Int) - 18 * (k : Int)) : Value) = _)) (za rfl (vh (l := e - 18) (h := e) Tryd.underlying9 rfl ⟨_, rfl⟩ ⟨_, rfl⟩ (Nat.sub_le _ _) (by rw [vf]; exact hel) (ye 67 (.string ⟨((u.take e).drop (e - 18)).toArray⟩) rfl ((by rw [zpv] : (.string ((⟨u.toArray⟩ : ByteArray).extract (e - 18) e) : Value) = _)) (za rfl (zz en24 rfl ((parseU _ _ (ztx he0 hel) (zkv hal9 e) (jt hal9 e) (zkk u e)).mono ?_)))))))))))))))))))
     rintro e w21 ⟨rfl, hb⟩;refine ⟨_, rfl, ?_⟩;have Ec := Ext.of_below hb No;replace Ol := jc Ol Ec NotIn.nil;replace Bb1 := Bb1.extN Ec NotIn.nil;replace E := E.trans Ec.no
     refine mvx rfl (za rfl (yc rfl rfl (za rfl (yc rfl rfl (avx rfl (anx rfl (zi (mvx rfl (mvx rfl (za rfl (qg (cs := #[.int .u64 ((yw ((u.take e).drop (e - 18)) : Nat) : Int)]) Tryd.underlying60 sz30 zr30 (by decide) rfl (by rw [qy]; rfl) ?_)))))))))));intro gb22 w23 Bb22 Eb22 Gb22
     have Db22_l : Apart (some gb22) ((Value.slice A1 k c1).ownBlock) := Apart.of_lt (ku Ol) Gb22;have Dl_b22 := Db22_l.symm;have Db22_b1 : Apart (some gb22) (some gb1) := Apart.of_lt (yj Bb1.lt) Gb22;have Db1_b22 := Db22_b1.symm;have Gb22 : _ ≤ gb22 := Nat.le_trans E.size Gb22;have GLb22 := Nat.le_trans LW.size Gb22;replace Ol := jc Ol Eb22 NotIn.nil
     replace Bb1 := Bb1.extN Eb22 NotIn.nil;replace E := E.trans Eb22.no;replace HF := HF.cons (yb Gb22);replace E := E.cons (some gb22);replace XLW := Mut.grow XLW (fun k e => Or.inr (Nat.le_trans LW.size ((yb Gb22) k e)));replace XM3 := Mut.grow XM3 (fun k e => Or.inr (Nat.le_trans M3.size ((yb Gb22) k e)))
     replace XM7 := Mut.grow XM7 (fun k e => Or.inr (Nat.le_trans M7.size ((yb Gb22) k e)));replace XM19 := Mut.grow XM19 (fun k e => Or.inr (Nat.le_trans M19.size ((yb Gb22) k e)));replace HF := HF.on E;replace LW := LW.step E XLW;replace M3 := M3.step E XM3;replace M7 := M7.step E XM7;replace M19 := M19.step E XM19
     have SB : ∀ q9, Mut [((Value.slice A1 k c1).ownBlock), (some gb1)] q9 → Mut [(some gb22), ((Value.slice A1 k c1).ownBlock), (some gb1)] q9 := (Mut.skip (Mut.keep (Mut.keep Mut.nil_)));replace HF := HF.less SB;replace XLW := fun k h => XLW k (SB k h);replace XM3 := fun k h => XM3 k (SB k h);replace XM7 := fun k h => XM7 k (SB k h);replace XM19 := fun k h => XM19 k (SB k h);clear SB
     replace E := erx (Mut [((Value.slice A1 k c1).ownBlock), (some gb1)]) w23;replace HF := HF.and (Per.blkN Bb22 (NotIn.cons Db22_l (NotIn.cons Db22_b1 NotIn.nil)))
     refine za rfl (vu (news := [.int .u64 ((yw ((u.take e).drop (e - 18)) : Nat) : Int)]) Tryd.underlying60 inf30 rfl (by decide) rfl Ol rfl (xh (HF.on E).here.2 ((HF.on E).here.2).lt rfl) (by simp [Value.oneCell']) (by unfold maxLen; omega) (by omega) (by exact Nat.le_trans LW.size E.size) ?_);intro v0 w24 On En KN;obtain ⟨A2, c2, rfl⟩ := vm On
     replace KN : ∀ q9, ((Value.slice A2 (k + 1) c2).ownBlock) = some q9 → ((Value.slice A1 k c1).ownBlock) = some q9 ∨ w23.heap.size ≤ q9 := KN;have LTb1 := (yj Bb1.lt);replace Bb1 := Bb1.extN En (NotIn.cons Db1_l NotIn.nil);replace Dl_b1 : Apart ((Value.slice A2 (k + 1) c2).ownBlock) (some gb1) := Dl_b1.turn KN LTb1;replace Db1_l := Dl_b1.symm;clear LTb1
     have HY : Gro (Mut [((Value.slice A2 (k + 1) c2).ownBlock), (some gb1)]) (Mut [((Value.slice A1 k c1).ownBlock), (some gb1)]) w23 := (Mut.grow (Mut.grow Mut.none_ (fun k e => Or.inl ((Mut.tail Mut.head) k e))) (fun k e => (KN k e).elim (fun e => Or.inl (Mut.head k e)) (fun h => Or.inr (Nat.le_trans E.size h))))
     replace KlM19 : ∀ q9, ((Value.slice A2 (k + 1) c2).ownBlock) = some q9 → ((Value.slice none 0 0).ownBlock) = some q9 ∨ w8.heap.size ≤ q9 := fun k e => (KN k e).elim (KlM19 k) (fun h => Or.inr (Nat.le_trans M19.size (Nat.le_trans E.size h)));replace E := E.step1 En Mut.head
     have XT := fun q9 (h : (Mut [((Value.slice A2 (k + 1) c2).ownBlock), (some gb1)]) q9) => (HY q9 h).elim (XLW q9) (fun h => Or.inr (Nat.le_trans LW.size h));have XT := fun q9 (h : (Mut [((Value.slice A2 (k + 1) c2).ownBlock), (some gb1)]) q9) => (HY q9 h).elim (XM3 q9) (fun h => Or.inr (Nat.le_trans M3.size h))
     have XT := fun q9 (h : (Mut [((Value.slice A2 (k + 1) c2).ownBlock), (some gb1)]) q9) => (HY q9 h).elim (XM7 q9) (fun h => Or.inr (Nat.le_trans M7.size h));have XT := fun q9 (h : (Mut [((Value.slice A2 (k + 1) c2).ownBlock), (some gb1)]) q9) => (HY q9 h).elim (XM19 q9) (fun h => Or.inr (Nat.le_trans M19.size h));replace M19 := M19.step E XM19;replace XM19 := XT
     replace E := erx (Mut [((Value.slice A2 (k + 1) c2).ownBlock), (some gb1)]) w24;clear HY;replace Ol : World.ownsRow w24 w.heap.size 30 1 (.slice A2 (k + 1) c2) (k + 1) ((xs ++ [yw ((u.take e).drop (e - 18))]).map fun x : Nat => Value.int .u64 (x : Int)) := by
      have e : ((xs.map fun x : Nat => Value.int .u64 (x : Int)) : List Value) ++ ([.int .u64 ((yw ((u.take e).drop (e - 18)) : Nat) : Int)] : List Value) = (xs ++ [yw ((u.take e).drop (e - 18))]).map fun x : Nat => Value.int .u64 (x : Int) := by simp
      rw [← e];exact On
     clear On KN En
     refine avx rfl (yf (zm (ze (zi (mvx rfl (za rfl (yy rfl rfl (zp (by omega)) (avx rfl (yf (yr 7 (.int .i64 ((u.length : Int) - 18 * ((k + 1 : Nat) : Int))) rfl ((by rw [show (u.length : Int) - 18 * (k : Int) - 18 = (u.length : Int) - 18 * ((k + 1 : Nat) : Int) by omega] : (.int .i64 (((u.length : Int) - 18 * (k : Int)) - 18) : Value) = _)) ?_))))))))))
     exact yl (k + 1, xs ++ [yw ((u.take e).drop (e - 18))], A2, c2) (by show u.length + 18 - 18 * (k + 1) < u.length + 18 - 18 * k; omega) ⟨rfl, rfl, rfl, rfl, rfl, rfl, trivial⟩ ⟨M19.step E XM19, (by exact Ol), (by exact Bb1), KlM19, by rw [List.length_append, hk]; rfl, zez hsm (jt hal9 e), by rw [znx hal9 hk (by omega : u.length = e + 18 * k) (by rw [hval, he]), show u.length - 18 * (k + 1) = e - 18 by omega], by omega⟩
    ·
     have q := of_decide_eq_false q;have hv9 : val B18 xs = yw r := by rw [hval, show u.length - 18 * k = 0 by omega, List.drop_zero, hnum]
     have Ol9 := Ol;have hown : Own w20 w.heap.size A1 c1 xs := ⟨by rw [hk]; exact Ol9, fun x hx => Nat.lt_trans (hsm x hx) (by decide)⟩;have hform : ∀ w', Nums w' A1 xs → Calls Tryd.prog 25 #[.bool false, .slice A1 k c1] w' (yav w' (sgn false (yw r))) := fun w' h => by
      have h9 := ztv false A1 c1 xs w' h hsm (by omega);rwa [hk, hv9] at h9
     replace HF := HF.on E;replace LW := LW.step E XLW;have SB : ∀ q9, Mut [(some gb1)] q9 → Mut [((Value.slice A1 k c1).ownBlock), (some gb1)] q9 := (Mut.skip (Mut.keep Mut.nil_));replace HF := HF.less SB;replace XLW := fun k h => XLW k (SB k h);clear SB;replace E := erx (Mut [(some gb1)]) w20;replace HF := HF.and (Per.ownsN Ol (NotIn.cons Dl_b1 NotIn.nil));clear Ol;replace HF := HF.on E
     replace LW := LW.step E XLW;replace E := erx (Mut [(some gb1)]) w20;replace HF := HF.and (Per.ownN hown (NotIn.cons (ko hown Bb1 (by decide)) NotIn.nil));refine yn (zh (zh (zv (ze (srx (mvx rfl (mvx rfl (za rfl (zz en25 rfl ((hform _ ((HF.on E).here.2).nums).mono ?_))))))))));rintro e w25 ⟨A2, c2, rfl, o2, hb⟩;refine ⟨_, rfl, ?_⟩
     have SC := Nat.le_trans LW.size E.size;have Ec := Ext.of_below hb No;replace Bb1 := Bb1.extN Ec NotIn.nil;replace E := E.trans Ec.no;have S2 := SC;replace HF := HF.on E;replace LW := LW.step E XLW;replace E := erx (Mut [(some gb1)]) w25;replace HF := HF.and (Per.ownN o2 (NotIn.cons (ko o2 Bb1 (by decide)) NotIn.nil))
     refine qe (qv xd rfl rfl Bb1 rfl rfl (Nat.le_of_ble_eq_true rfl) ?_);intro w26 Bx Eb1;replace Bb1 := Bx;replace E := E.step1 Eb1 Mut.head;replace HF := HF.on E;replace LW := LW.step E XLW;have SB : ∀ q9, No q9 → Mut [(some gb1)] q9 := (Mut.skip Mut.nil_);replace HF := HF.less SB;replace XLW := fun k h => XLW k (SB k h);clear SB;replace E := erx (No) w26
     replace HF := HF.and (Per.blkN Bb1 NotIn.nil);refine anx rfl (zr (zq (rs := [.cell 2 62, .tmp 3]) (vs := [_, _]) rfl ⟨⟨_, rfl, gi Tryd.underlying62 rfl xd (HF.on E).here.2 rfl⟩, rfl, trivial⟩ ?_));exact by rw [e1, e2]; exact ⟨A2, c2, rfl, ((HF.on E).here.1.2).mono S2, (LW.step E XLW).toBelow⟩
end
section
variable (w : World)
theorem zqx (neg : Bool) : Calls Tryd.prog 21 #[.string ⟨(if neg then [45] else [] : List UInt8).toArray⟩] w (kd w 0 4) := by
 cases neg
 · show Calls Tryd.prog 21 #[.string ⟨#[]⟩] w (kd w 0 4)
   refine yk Tryd.func21 rfl Tryd.ntmps21 rfl ?_;have LW := erx (No) w;have XLW := grx (No) w;have E := erx (No) w;refine srx (za rfl (vv zr62 ?_));intro gb1 w2 Bb1 Eb1 Gb1;have Gb1 : _ ≤ gb1 := Nat.le_trans E.size Gb1;have GLb1 := Nat.le_trans LW.size Gb1;replace E := E.trans Eb1.no;replace E := E.cons (some gb1)
   replace XLW := Mut.grow XLW (fun k e => Or.inr (Nat.le_trans LW.size ((yb Gb1) k e)))
   refine anx rfl (srx (mvx rfl (za rfl (yz Tryd.underlying9 rfl (za rfl (qn rfl rfl (mvx rfl (ye 13 (.bool false) rfl (by rfl) (za rfl (zc rfl (za rfl (zc rfl (za rfl (zc rfl (za rfl (ya rfl rfl (anx rfl (zf (srx (mvx rfl (rnx (zy rfl (zj (ze (zf (srx (mvx rfl (za rfl (xw rfl rfl (rnx (zu 22 (.bool true) rfl (by rw [beq_self_eq_true]) (yh rfl (srx (za rfl (jf (cs := #[.bool false, .slice none 0 0]) pl62 zr62 rfl rfl (qe (qv xd rfl rfl Bb1 rfl rfl (Nat.le_of_ble_eq_true rfl) ?_)))))))))))))))))))))))))))))))))))))
   intro w3 Bx Eb1;replace Bb1 := Bx;replace E := E.step1 Eb1 Mut.head;refine anx rfl (zr (zd (zq (rs := [.cell 2 62, .tmp 3]) (vs := [_, _]) rfl ⟨⟨_, rfl, gi Tryd.underlying62 rfl xd Bb1 rfl⟩, rfl, trivial⟩ ?_)));exact vz (LW.step E XLW).toBelow
 · show Calls Tryd.prog 21 #[.string ⟨#[45]⟩] w (kd w 0 4)
   have hat0 : (⟨#[45]⟩ : ByteArray)[0]? = some 45 := rfl;refine yk Tryd.func21 rfl Tryd.ntmps21 rfl ?_;have LW := erx (No) w;have XLW := grx (No) w;have E := erx (No) w;refine srx (za rfl (vv zr62 ?_));intro gb1 w2 Bb1 Eb1 Gb1;have Gb1 : _ ≤ gb1 := Nat.le_trans E.size Gb1;have GLb1 := Nat.le_trans LW.size Gb1;replace E := E.trans Eb1.no;replace E := E.cons (some gb1)
   replace XLW := Mut.grow XLW (fun k e => Or.inr (Nat.le_trans LW.size ((yb Gb1) k e)))
   refine anx rfl (srx (mvx rfl (za rfl (yz Tryd.underlying9 rfl (za rfl (qn rfl rfl (mvx rfl (ye 13 (.bool true) rfl (by rfl) (onx rfl (zo rfl (onx rfl (gg (j := 0) Tryd.underlying9 rfl rfl rfl hat0 (onx rfl (yd rfl rfl (za rfl (zw rfl rfl (anx rfl (zf (srx (mvx rfl (rnx (yh rfl (zi (mvx rfl (za rfl (vh (l := 1) (h := 1) Tryd.underlying9 rfl ⟨_, rfl⟩ rfl (Nat.le_refl _) (Nat.le_refl _) (ye 20 (.string ⟨#[]⟩) rfl ((by rfl : (.string ((⟨#[45]⟩ : ByteArray).extract 1 1) : Value) = _)) (anx rfl (zf (srx (mvx rfl (za rfl (xw rfl rfl (rnx (zu 22 (.bool true) rfl (by rw [beq_self_eq_true]) (yh rfl ?_))))))))))))))))))))))))))))))))))))
   refine srx (za rfl (jf (cs := #[.bool false, .slice none 0 0]) pl62 zr62 rfl rfl (qe (qv xd rfl rfl Bb1 rfl rfl (Nat.le_of_ble_eq_true rfl) ?_))));intro w3 Bx Eb1;replace Bb1 := Bx;replace E := E.step1 Eb1 Mut.head
   refine anx rfl (zr (zd (zq (rs := [.cell 2 62, .tmp 3]) (vs := [_, _]) rfl ⟨⟨_, rfl, gi Tryd.underlying62 rfl xd Bb1 rfl⟩, rfl, trivial⟩ ?_)));exact vz (LW.step E XLW).toBelow
end
theorem parse_any (s : ByteArray) (w : World) (hs : s.size ≤ 140737488355328) : Calls Tryd.prog 21 #[.string s] w (kd w (jx (textN s.data.toList) (textR s.data.toList)) (jj (textR s.data.toList))) := by
 obtain ⟨bs, rfl⟩ : ∃ bs : List UInt8, s = ⟨bs.toArray⟩ := ⟨s.data.toList, by cases s; simp⟩;rw [vf] at hs;show Calls _ _ _ _ (kd w (jx (textN bs.toArray.toList) (textR bs.toArray.toList)) (jj (textR bs.toArray.toList)))
 rw [List.toList_toArray];unfold textN textR;by_cases h : bs.head? = some 45
 · rw [decide_eq_true h, if_pos h];obtain ⟨r, rfl⟩ : ∃ r, bs = 45 :: r := by cases bs with | nil => cases h | cons b r => exact ⟨r, by rw [Option.some.inj h]⟩
   by_cases hr : r = []
   · subst hr;obtain ⟨e1, e2⟩ := text_empty (neg := true);show Calls _ _ _ _ (kd w (jx true []) (jj []))
     rw [e1, e2];exact zqx w true
   · exact wparse_neg _ r w hr rfl hs
 · rw [decide_eq_false h, if_neg h];by_cases hr : bs = []
   · subst hr;obtain ⟨e1, e2⟩ := text_empty (neg := false);rw [e1, e2];exact zqx w false
   · exact wparse_pos bs w hr h hs
end Go.Proofs.YtmjemknimipnjaaDoor
namespace Go.Proofs.YtmjemknimipnjaaDoor
open Go.RowKit
set_option maxRecDepth 100000
attribute [local irreducible] OW RS
theorem textE_zero {r : List UInt8} (h : jj r = 0) : r ≠ [] ∧ r.all va = true := by
 unfold jj at h;split at h
 · assumption
 · cases h
theorem textR_dig {r : List UInt8} {b : UInt8} (h : r.head? = some b) (hd : va b = true) : textR r = r := by
 unfold textR;rw [h, if_neg];intro e;cases e
 revert hd;decide
theorem head_all {r : List UInt8} {b : UInt8} (h : r.head? = some b) (ha : r.all va = true) : va b = true := by
 cases r with
 | nil => cases h
 | cons x l =>
  cases h
  rw [List.all_cons, Bool.and_eq_true] at ha;exact ha.1
theorem conC_int (s : ByteArray) : zbv (1, s) = decide (jj s.data.toList = 0) := by
 unfold zbv;rw [if_neg (by show ¬ (1 : Int) = 3; decide)];split
 · rename_i h
   refine (decide_eq_false fun e => ?_).symm;obtain ⟨h1, h2⟩ := textE_zero e;cases hh : s.data.toList.head? with
   | none => exact h1 (List.head?_eq_none_iff.1 hh)
   | some b =>
    have h3 := head_all hh h2;have h : s.data.toList.head?.all (fun b => !va b) = true := h;rw [hh, Option.all_some, h3] at h;cases h
 · rw [if_pos rfl]
theorem conC_str (s : ByteArray) : zbv (3, s) = decide (s.size ≤ 20000) := by unfold zbv; rw [if_pos rfl]
theorem conC_flt {s : ByteArray} {b : UInt8} (h : s.data.toList.head? = some b) (hd : va b = true) : zbv (2, s) = decide (prE s = 0) := by
 unfold zbv;rw [if_neg (by show ¬ (2 : Int) = 3; decide), if_neg (by show ¬ s.data.toList.head?.all (fun b => !va b) = true; rw [h, Option.all_some, hd]; decide), if_neg (by show ¬ (2 : Int) = 1; decide), if_pos rfl]
theorem conC_bad {k : Int} {s : ByteArray} (hk : k ≠ 3) (h : ∀ b, s.data.toList.head? = some b → va b = false) : zbv (k, s) = false := by
 unfold zbv;rw [if_neg hk, if_pos];show s.data.toList.head?.all (fun b => !va b) = true
 cases hh : s.data.toList.head? with
 | none => rfl
 | some b => rw [Option.all_some, h b hh]; rfl
theorem conC_other {k : Int} {s : ByteArray} (h3 : k ≠ 3) (h1 : k ≠ 1) (h2 : k ≠ 2) : zbv (k, s) = false := by
 unfold zbv;rw [if_neg h3];split
 · rfl
 · first | rfl | rw [if_neg h1, if_neg h2]
theorem first_byte {s : ByteArray} (h : 0 < s.size) : ∃ b, s.data.toList.head? = some b ∧ (s.data[0]?).map (·.toNat) = some b.toNat := by
 have h' : 0 < s.data.size := h;refine ⟨s.data[0], ?_, by rw [Array.getElem?_eq_getElem h']; rfl⟩;rw [List.head?_eq_getElem?, Array.getElem?_toList, Array.getElem?_eq_getElem h']
theorem no_byte {s : ByteArray} (h : s.size = 0) : s.data.toList = [] := by
 have h' : s.data.size = 0 := h;exact List.eq_nil_of_length_eq_zero (by rw [Array.length_toList]; exact h')
theorem ybq {s : ByteArray} : (s.toList == (⟨#[]⟩ : ByteArray).toList) = decide (s.size = 0) := by
 rw [ByteArray.toList_eq, ByteArray.toList_eq, Bool.eq_iff_iff];simp only [beq_iff_eq, decide_eq_true_eq]
 constructor
 · intro h;have := congrArg List.length h;exact this
 · intro h;exact no_byte h
section
variable (w : World) {bp op cp bf of cf bl ol cl : Nat} (k : Int) (s : ByteArray) (hs : s.size ≤ 140737488355328) (hT : Tabs bp op cp bf of cf bl ol cl w) (hE : ∃ te pe, w.cell? ⟨2, 0, none⟩ = some (.iface te pe))
include hs hT hE
theorem const_any : Calls Tryd.prog 18 #[.agg #[.int .i64 k, .string s]] w fun e w' => e = .returned (.bool (zbv (k, s))) ∧ Below w.heap.size w w' := by
 obtain ⟨te, pe, hE⟩ := hE;refine yk Tryd.func18 rfl Tryd.ntmps18 rfl ?_;have HF : Per (No) w (fun _ => True) := Per.true_;have LW := erx (No) w;have XLW := grx (No) w;have E := erx (No) w;replace HF := HF.on E;replace LW := LW.step E XLW;replace E := erx (No) w;replace HF := HF.and (Per.tabs hT (fun _ h => h.elim));replace HF := HF.on E;replace LW := LW.step E XLW;replace E := erx (No) w
 replace HF := HF.and (Per.cellA hE (fun _ h => h.elim));refine srx (za rfl (jv rfl ?_));intro gb1 w2 Bb1 Eb1 Gb1;have Gb1 : _ ≤ gb1 := Nat.le_trans E.size Gb1;have GLb1 := Nat.le_trans LW.size Gb1;replace E := E.trans Eb1.no;replace HF := HF.cons (yb Gb1);replace E := E.cons (some gb1);replace XLW := Mut.grow XLW (fun k e => Or.inr (Nat.le_trans LW.size ((yb Gb1) k e)))
 replace HF := HF.on E;replace LW := LW.step E XLW;have SB : ∀ q9, No q9 → Mut [(some gb1)] q9 := (Mut.skip Mut.nil_);replace HF := HF.less SB;replace XLW := fun k h => XLW k (SB k h);clear SB;replace E := erx (No) w2;replace HF := HF.and (Per.blkN Bb1 NotIn.nil)
 refine anx rfl (srx (anx rfl (zf (zx (srx (za rfl (zb Tryd.underlying56 rfl sz3 (by decide) rfl (za rfl (zl Tryd.underlying3 rfl rfl (HF.on E).here.2 rfl (za rfl (yd rfl rfl (anx rfl ?_))))))))))));by_cases h3 : k = 3
 ·
  refine zu 4 (.bool true) rfl ((by rw [h3]; rfl : (.bool (k == 3) : Value) = _)) (yh rfl (srx (za rfl (zb Tryd.underlying56 rfl sz9 (by decide) rfl (za rfl (zl Tryd.underlying9 rfl rfl (HF.on E).here.2 rfl (za rfl (yz Tryd.underlying9 rfl (za rfl (gm rfl rfl (anx rfl (zr (zn (zd (zq (rs := [.tmp 2]) (vs := [_]) rfl ⟨rfl, trivial⟩ ?_)))))))))))))))
  exact ⟨by rw [h3, conC_str]; refine congrArg (fun z => Ending.returned (.bool z)) ?_; rw [decide_eq_decide]; omega, (LW.step E XLW).toBelow⟩
 ·
  refine zu 4 (.bool false) rfl ((by congr 1; rw [beq_eq_false_iff_ne]; exact h3 : (.bool (k == 3) : Value) = _)) (zy rfl (srx (za rfl (zb Tryd.underlying56 rfl sz9 (by decide) rfl (za rfl (zl Tryd.underlying9 rfl rfl (HF.on E).here.2 rfl (za rfl (xw rfl rfl (mvx rfl ?_)))))))));by_cases h0 : s.size = 0
  ·
   refine ye 16 (.bool true) rfl (by rw [ybq, decide_eq_true h0]) (za rfl (zc rfl (za rfl (zc rfl (za rfl (zc rfl (za rfl (zc rfl (za rfl (zw rfl rfl (mvx rfl (za rfl (zc rfl (za rfl (zc rfl (za rfl (zc rfl (za rfl (zc rfl (za rfl (zw rfl rfl (anx rfl (yh rfl (zj (zm (ze (srx (mvx rfl (za rfl (yd rfl rfl (anx rfl (zr (zq (rs := [.tmp 2]) (vs := [_]) rfl ⟨rfl, trivial⟩ ?_)))))))))))))))))))))))))))))))))
   exact ⟨by rw [conC_bad h3 (fun b hb => by rw [no_byte h0] at hb; cases hb)]; rfl, (LW.step E XLW).toBelow⟩
  ·
   refine ye 16 (.bool false) rfl (by rw [ybq, decide_eq_false h0]) ?_;obtain ⟨b, hb0, hb1⟩ := first_byte (show 0 < s.size by omega)
   refine onx rfl (zb Tryd.underlying56 rfl sz9 (by decide) rfl (onx rfl (zl Tryd.underlying9 rfl rfl (HF.on E).here.2 rfl (onx rfl (yi (j := 0) (b := b.toNat) Tryd.underlying9 rfl rfl rfl hb1 (onx rfl (yt rfl rfl (za rfl (ya rfl rfl (mvx rfl ?_))))))))));by_cases hl : b.toNat < 48
   ·
    refine ye 22 (.bool true) rfl ((by rw [decide_eq_true]; omega : (.bool (decide (((b.toNat : Nat) : Int) < 48)) : Value) = _)) (za rfl (zc rfl (za rfl (zc rfl (za rfl (zc rfl (za rfl (zc rfl (za rfl (zw rfl rfl (anx rfl (yh rfl (zj (zm (ze (srx (mvx rfl (za rfl (yd rfl rfl (anx rfl (zr (zq (rs := [.tmp 2]) (vs := [_]) rfl ⟨rfl, trivial⟩ ?_))))))))))))))))))))))
    exact ⟨by rw [conC_bad h3 (fun b' hb => by rw [hb0] at hb; cases hb; unfold va; rw [decide_eq_false (by omega)]; rfl)]; rfl, (LW.step E XLW).toBelow⟩
   ·
    refine ye 22 (.bool false) rfl ((by rw [decide_eq_false]; omega : (.bool (decide (((b.toNat : Nat) : Int) < 48)) : Value) = _)) (onx rfl (zb Tryd.underlying56 rfl sz9 (by decide) rfl (onx rfl (zl Tryd.underlying9 rfl rfl (HF.on E).here.2 rfl (onx rfl (yi (j := 0) (b := b.toNat) Tryd.underlying9 rfl rfl rfl hb1 (onx rfl (qn rfl rfl (za rfl (ya rfl rfl (anx rfl ?_)))))))))))
    by_cases hh : 57 < b.toNat
    ·
     refine zu 12 (.bool true) rfl ((by rw [decide_eq_true]; omega : (.bool (decide (57 < ((b.toNat : Nat) : Int))) : Value) = _)) (yh rfl (zj (zm (ze (srx (mvx rfl (za rfl (yd rfl rfl (anx rfl (zr (zq (rs := [.tmp 2]) (vs := [_]) rfl ⟨rfl, trivial⟩ ?_)))))))))))
     exact ⟨by rw [conC_bad h3 (fun b' hb => by rw [hb0] at hb; cases hb; unfold va; rw [decide_eq_false (show ¬ b.toNat ≤ 57 by omega), Bool.and_false])]; rfl, (LW.step E XLW).toBelow⟩
    ·
     refine zu 12 (.bool false) rfl ((by rw [decide_eq_false]; omega : (.bool (decide (57 < ((b.toNat : Nat) : Int))) : Value) = _)) ?_;have hd : va b = true := by unfold va; rw [decide_eq_true (by omega), decide_eq_true (by omega)]; rfl
     have htr := textR_dig hb0 hd;refine zy rfl (srx (za rfl (zb Tryd.underlying56 rfl sz3 (by decide) rfl (za rfl (zl Tryd.underlying3 rfl rfl (HF.on E).here.2 rfl (za rfl (yd rfl rfl (anx rfl ?_))))))));by_cases h1 : k = 1
     ·
      refine zu 28 (.bool true) rfl ((by rw [h1]; rfl : (.bool (k == 1) : Value) = _)) (yh rfl (zi (za rfl (zb Tryd.underlying56 rfl sz9 (by decide) rfl (za rfl (zl Tryd.underlying9 rfl rfl (HF.on E).here.2 rfl (za rfl (zz en21 rfl ((parse_any s _ hs).mono ?_)))))))));rintro e w3 ⟨A1, c1, rfl, o1, hb⟩;refine ⟨_, rfl, ?_⟩;replace E := blx E hb
      refine mvx rfl (za rfl (yc rfl rfl (za rfl (yc rfl rfl (avx rfl (yf (zm (ze (srx (mvx rfl (za rfl (yd rfl rfl (anx rfl (zr (zq (rs := [.tmp 2]) (vs := [_]) rfl ⟨rfl, trivial⟩ ?_)))))))))))))))
      exact ⟨by rw [h1, conC_int, htr]; refine congrArg (fun z => Ending.returned (.bool z)) ?_; first | rfl | (rw [Bool.eq_iff_iff]; simp; done), (LW.step E XLW).toBelow⟩
     ·
      refine zu 28 (.bool false) rfl ((by congr 1; rw [beq_eq_false_iff_ne]; exact h1 : (.bool (k == 1) : Value) = _)) (zy rfl (srx (za rfl (zb Tryd.underlying56 rfl sz3 (by decide) rfl (za rfl (zl Tryd.underlying3 rfl rfl (HF.on E).here.2 rfl (za rfl (yd rfl rfl (anx rfl ?_)))))))));by_cases h2 : k = 2
      ·
       refine zu 38 (.bool true) rfl ((by rw [h2]; rfl : (.bool (k == 2) : Value) = _)) (yh rfl (zi (za rfl (zb Tryd.underlying56 rfl sz9 (by decide) rfl (za rfl (zl Tryd.underlying9 rfl rfl (HF.on E).here.2 rfl (za rfl (zz en22 rfl ((realparse_any _ s (HF.on E).here.1.1.2 ⟨te, pe, (HF.on E).here.1.2⟩).mono ?_)))))))));rintro e w4 ⟨rfl, hb⟩
       refine ⟨_, rfl, ?_⟩;replace E := blx E hb;refine mvx rfl (za rfl (yc rfl rfl (za rfl (yc rfl rfl (avx rfl (yf (zm (ze (srx (mvx rfl (za rfl (yd rfl rfl (anx rfl (zr (zq (rs := [.tmp 2]) (vs := [_]) rfl ⟨rfl, trivial⟩ ?_)))))))))))))))
       exact ⟨by rw [h2, conC_flt hb0 hd]; refine congrArg (fun z => Ending.returned (.bool z)) ?_; first | rfl | (rw [Bool.eq_iff_iff]; simp; done), (LW.step E XLW).toBelow⟩
      ·
       refine zu 38 (.bool false) rfl ((by congr 1; rw [beq_eq_false_iff_ne]; exact h2 : (.bool (k == 2) : Value) = _)) (zy rfl (zj (zm (ze (srx (mvx rfl (za rfl (yd rfl rfl (anx rfl (zr (zq (rs := [.tmp 2]) (vs := [_]) rfl ⟨rfl, trivial⟩ ?_)))))))))));exact ⟨by rw [conC_other h3 h1 h2]; rfl, (LW.step E XLW).toBelow⟩
end
end Go.Proofs.YtmjemknimipnjaaDoor
namespace Go.Proofs.YtmjemknimipnjaaDoor
open Go.RowKit
set_option maxRecDepth 100000
attribute [local irreducible] OW RS
theorem rgC_eq (f : LFn) (r : LReg) : rgC f r = (decide (0 ≤ r.fr) && (decide (r.fr ≤ r.to) && (decide (r.to ≤ (f.ins.length : Int)) && ((decide (0 ≤ r.tg) && decide (r.tg < (f.ins.length : Int))) && (decide (0 ≤ r.d) && decide (r.d < f.regs)))))) := rfl
section
variable (w : World) {bp op cp bf of cf bl ol cl : Nat} (k : Int) (s : ByteArray) (hs : s.size ≤ 140737488355328) (hT : Tabs bp op cp bf of cf bl ol cl w) (hE : ∃ te pe, w.cell? ⟨2, 0, none⟩ = some (.iface te pe))
include hs hT hE
end
/-! ### heads -/
def oi (f : LFn) : Prop := 0 ≤ f.regs ∧ f.regs ≤ 65536 ∧ 0 ≤ f.params ∧ f.params ≤ f.regs ∧ 0 ≤ f.frees ∧ 0 ≤ f.bound ∧ f.ins.length ≠ 0
instance (f : LFn) : Decidable (oi f) := by unfold oi; infer_instance
def strC (s : ByteArray) : Bool := decide (s.size ≤ 20000)
def oe (f : LFn) (n : Nat) : Bool := decide (0 < n) || (decide (f.params = 0) && (decide (f.frees = 0) && !f.gen))
theorem zik (f : LFn) (n : Nat) : gj f n = (decide (oi f) && ((f.name :: f.names).all strC && (f.consts.all zbv && oe f n))) := by
 rw [Bool.eq_iff_iff, Bool.and_eq_true, decide_eq_true_iff];unfold gj oi oe strC;simp only [Bool.and_eq_true, decide_eq_true_eq, List.all_cons, and_assoc]
theorem oj {f : LFn} {n : Nat} (h : ¬ oi f) : gj f n = false := by rw [zik, decide_eq_false h]; rfl
theorem headC_str {f : LFn} {n k : Nat} {s : ByteArray} (h : (f.name :: f.names)[k]? = some s) (hs : strC s = false) : gj f n = false := by rw [zik, jh h hs, Bool.false_and, Bool.and_false]
theorem headC_con {f : LFn} {n k : Nat} {c : Int × ByteArray} (h : f.consts[k]? = some c) (hs : zbv c = false) : gj f n = false := by rw [zik, jh h hs, Bool.false_and, Bool.and_false, Bool.and_false]
theorem zfk {f : LFn} {n : Nat} (h : oi f) (h1 : (f.name :: f.names).all strC = true) (h2 : f.consts.all zbv = true) : gj f n = oe f n := by rw [zik, decide_eq_true h, h1, h2]; rfl
def StrRow (m : Nat) (w : World) (A : Option Addr) (xs : List ByteArray) : Prop := RowS m w 1 (fun w g o x => w.cell? ⟨g, o, none⟩ = some (.string x)) A xs
theorem StrRow.low {m : Nat} {X : Nat → Prop} {w w' : World} {A : Option Addr} {xs : List ByteArray} (h : StrRow m w A xs) (k : Low m X w w') : StrRow m w' A xs := RowS.low h fun _ _ _ hg hc => k.cell hg hc
theorem StrRow.cell {m : Nat} {w : World} {A : Option Addr} {xs : List ByteArray} (h : StrRow m w A xs) {j : Nat} {x : ByteArray} (hj : xs[j]? = some x) : ∃ g o, A = some ⟨g, o, none⟩ ∧ g < m ∧ w.cell? ⟨g, o + j, none⟩ = some (.string x) := by
 obtain ⟨g, o, e, hg, hc⟩ := RowS.at h hj;exact ⟨g, o, e, hg, by rwa [Nat.mul_one] at hc⟩
theorem Per.strRow {m : Nat} {X : Nat → Prop} {w : World} {A : Option Addr} {xs : List ByteArray} (h : StrRow m w A xs) (hX : ∀ k, X k → m ≤ k) : Per X w (fun z => StrRow m z A xs) := fun _ hb => h.low ⟨hb, hX⟩
def zhk (xs : List ByteArray) : List Value := xs.map fun x => .string x
theorem strRow_owns {w : World} {lo c n : Nat} {A : Option Addr} {xs : List ByteArray} (h : w.ownsRow lo 9 1 (.slice A n c) n (zhk xs)) (hn : n = xs.length) : StrRow w.heap.size w A xs := fun h0 => by
 subst hn;obtain ⟨g, hA, _, hg, hc⟩ := owns_cells h (List.length_pos_iff.2 h0);refine ⟨g, 0, hA, hg, fun j x hj => ?_⟩;show w.cell? ⟨g, 0 + j * 1, none⟩ = _
 rw [Nat.zero_add, Nat.mul_one];refine hc j _ ?_;unfold zhk;rw [List.getElem?_map, hj]; rfl
theorem StrsA.readsV {n : Nat} {w : World} {A : Option Addr} {xs : List ByteArray} (h : StrsA n w A xs) {B : Nat} (hB : n ≤ B) : Reads w B 1 A xs.length (zhk xs) := by
 refine ⟨by unfold zhk; simp, fun h0 => ?_⟩;obtain ⟨g, o, e, hg, hc⟩ := h.row (fun e => by rw [e] at h0; simp [zhk] at h0);refine ⟨_, e, by show g < B; omega, fun j u hj => ?_⟩;unfold zhk at hj;rw [List.getElem?_map, Option.map_eq_some_iff] at hj;obtain ⟨x, hx, rfl⟩ := hj;have h9 := hc j x hx;rw [Nat.mul_one] at h9;rw [Lib.add_plain];exact h9
theorem ConsA.at {n : Nat} {w : World} {A : Option Addr} {xs : List (Int × ByteArray)} (h : ConsA n w A xs) {j : Nat} {x : Int × ByteArray} (hj : xs[j]? = some x) : ∃ g o, A = some ⟨g, o, none⟩ ∧ g < n ∧ xc w g (o + j * 2) [.int .i64 x.1, .string x.2] := h.row.at hj
section
variable (w : World) {bp op cp bf of cf bl ol cl : Nat} (p : Pl) (f : LFn) (n0 n : Nat) (hF : FnA n0 w p f) (hs : ∀ c ∈ f.consts, c.2.size ≤ 140737488355328) (hT : Tabs bp op cp bf of cf bl ol cl w) (hE : ∃ te pe, w.cell? ⟨2, 0, none⟩ = some (.iface te pe))
include hF hs hT hE
set_option maxHeartbeats 1000000 in
theorem head_any : Calls Tryd.prog 13 #[fnV p f, .int .i64 ((n : Nat) : Int)] w fun e w' => e = .returned (.bool (gj f n)) ∧ Below w.heap.size w w' := by
 obtain ⟨te, pe, hE⟩ := hE;have hnl := hF.names.len;have hcl := hF.consts.len;have hsz := hF.size;refine yk Tryd.func13 rfl Tryd.ntmps13 rfl ?_;have HF : Per (No) w (fun _ => True) := Per.true_;have LW := erx (No) w;have XLW := grx (No) w;have E := erx (No) w;replace HF := HF.on E;replace LW := LW.step E XLW;replace E := erx (No) w;replace HF := HF.and (Per.fnA hF (fun _ h => h.elim))
 replace HF := HF.on E;replace LW := LW.step E XLW;replace E := erx (No) w;replace HF := HF.and (Per.tabs hT (fun _ h => h.elim));replace HF := HF.on E;replace LW := LW.step E XLW;replace E := erx (No) w;replace HF := HF.and (Per.cellA hE (fun _ h => h.elim));refine srx (za rfl (jv rfl ?_));intro gb1 w2 Bb1 Eb1 Gb1;have Gb1 : _ ≤ gb1 := Nat.le_trans E.size Gb1
 have GLb1 := Nat.le_trans LW.size Gb1;replace E := E.trans Eb1.no;replace HF := HF.cons (yb Gb1);replace E := E.cons (some gb1);replace XLW := Mut.grow XLW (fun k e => Or.inr (Nat.le_trans LW.size ((yb Gb1) k e)));replace HF := HF.on E;replace LW := LW.step E XLW;have SB : ∀ q9, No q9 → Mut [(some gb1)] q9 := (Mut.skip Mut.nil_);replace HF := HF.less SB
 replace XLW := fun k h => XLW k (SB k h);clear SB;replace E := erx (No) w2;replace HF := HF.and (Per.blkN Bb1 NotIn.nil);refine anx rfl (zf (srx (za rfl (zb Tryd.underlying37 rfl sz3 (by decide) rfl (za rfl (zl Tryd.underlying3 rfl rfl (HF.on E).here.2 rfl (za rfl (yt rfl rfl (mvx rfl (yo 12 rfl (fun h1 => ?_) (fun h1 => ?_)))))))))))
 ·
  replace h1 := of_decide_eq_true h1
  refine za rfl (zc rfl (za rfl (zc rfl (za rfl (zc rfl (za rfl (zw rfl rfl (mvx rfl (za rfl (zc rfl (za rfl (zc rfl (za rfl (zc rfl (za rfl (zw rfl rfl (mvx rfl (za rfl (zc rfl (za rfl (zc rfl (za rfl (zc rfl (za rfl (zc rfl (za rfl (zc rfl (za rfl (zw rfl rfl (mvx rfl (za rfl (zc rfl (za rfl (zc rfl (za rfl (zc rfl (za rfl (zw rfl rfl (mvx rfl (za rfl (zc rfl (za rfl (zc rfl (za rfl (zc rfl (za rfl (zw rfl rfl (mvx rfl (za rfl (zc rfl (za rfl (zc rfl (za rfl (zc rfl (za rfl (zc rfl (za rfl (zw rfl rfl (rnx (yh rfl (srx (anx rfl ?_))))))))))))))))))))))))))))))))))))))))))))))))))))))))))))))
  refine zr (zd (zq (rs := [.tmp 4]) (vs := [_]) rfl ⟨rfl, trivial⟩ ?_));exact ⟨by rw [oj (by unfold oi; omega)]; rfl, (LW.step E XLW).toBelow⟩
 replace h1 := of_decide_eq_false h1;refine onx rfl (zb Tryd.underlying37 rfl sz3 (by decide) rfl (onx rfl (zl Tryd.underlying3 rfl rfl (HF.on E).here.2 rfl (onx rfl (qn rfl rfl (za rfl (ya rfl rfl (mvx rfl (yo 17 rfl (fun h2 => ?_) (fun h2 => ?_))))))))))
 ·
  replace h2 := of_decide_eq_true h2
  refine za rfl (zc rfl (za rfl (zc rfl (za rfl (zc rfl (za rfl (zw rfl rfl (mvx rfl (za rfl (zc rfl (za rfl (zc rfl (za rfl (zc rfl (za rfl (zc rfl (za rfl (zc rfl (za rfl (zw rfl rfl (mvx rfl (za rfl (zc rfl (za rfl (zc rfl (za rfl (zc rfl (za rfl (zw rfl rfl (mvx rfl (za rfl (zc rfl (za rfl (zc rfl (za rfl (zc rfl (za rfl (zw rfl rfl (mvx rfl (za rfl (zc rfl (za rfl (zc rfl (za rfl (zc rfl (za rfl (zc rfl (za rfl (zw rfl rfl (rnx (yh rfl (srx (anx rfl (zr (zd (zq (rs := [.tmp 4]) (vs := [_]) rfl ⟨rfl, trivial⟩ ?_))))))))))))))))))))))))))))))))))))))))))))))))))))))))
  exact ⟨by rw [oj (by unfold oi; omega)]; rfl, (LW.step E XLW).toBelow⟩
 replace h2 := of_decide_eq_false h2;refine onx rfl (zb Tryd.underlying37 rfl sz3 (by decide) rfl (onx rfl (zl Tryd.underlying3 rfl rfl (HF.on E).here.2 rfl (onx rfl (yt rfl rfl (za rfl (ya rfl rfl (mvx rfl (yo 22 rfl (fun h3 => ?_) (fun h3 => ?_))))))))))
 ·
  replace h3 := of_decide_eq_true h3
  refine za rfl (zc rfl (za rfl (zc rfl (za rfl (zc rfl (za rfl (zc rfl (za rfl (zc rfl (za rfl (zw rfl rfl (mvx rfl (za rfl (zc rfl (za rfl (zc rfl (za rfl (zc rfl (za rfl (zw rfl rfl (mvx rfl (za rfl (zc rfl (za rfl (zc rfl (za rfl (zc rfl (za rfl (zw rfl rfl (mvx rfl (za rfl (zc rfl (za rfl (zc rfl (za rfl (zc rfl (za rfl (zc rfl (za rfl (zw rfl rfl (rnx (yh rfl (srx (anx rfl (zr (zd (zq (rs := [.tmp 4]) (vs := [_]) rfl ⟨rfl, trivial⟩ ?_)))))))))))))))))))))))))))))))))))))))))))))))
  exact ⟨by rw [oj (by unfold oi; omega)]; rfl, (LW.step E XLW).toBelow⟩
 replace h3 := of_decide_eq_false h3
 refine onx rfl (zb Tryd.underlying37 rfl sz3 (by decide) rfl (onx rfl (zl Tryd.underlying3 rfl rfl (HF.on E).here.2 rfl (onx rfl (zb Tryd.underlying37 rfl sz3 (by decide) rfl (onx rfl (zl Tryd.underlying3 rfl rfl (HF.on E).here.2 rfl (onx rfl (qn rfl rfl (za rfl (ya rfl rfl (mvx rfl (yo 29 rfl (fun h4 => ?_) (fun h4 => ?_))))))))))))))
 ·
  replace h4 := of_decide_eq_true h4
  refine za rfl (zc rfl (za rfl (zc rfl (za rfl (zc rfl (za rfl (zw rfl rfl (mvx rfl (za rfl (zc rfl (za rfl (zc rfl (za rfl (zc rfl (za rfl (zw rfl rfl (mvx rfl (za rfl (zc rfl (za rfl (zc rfl (za rfl (zc rfl (za rfl (zc rfl (za rfl (zw rfl rfl (rnx (yh rfl (srx (anx rfl (zr (zd (zq (rs := [.tmp 4]) (vs := [_]) rfl ⟨rfl, trivial⟩ ?_))))))))))))))))))))))))))))))))))
  exact ⟨by rw [oj (by unfold oi; omega)]; rfl, (LW.step E XLW).toBelow⟩
 replace h4 := of_decide_eq_false h4;refine onx rfl (zb Tryd.underlying37 rfl sz3 (by decide) rfl (onx rfl (zl Tryd.underlying3 rfl rfl (HF.on E).here.2 rfl (onx rfl (yt rfl rfl (za rfl (ya rfl rfl (mvx rfl (yo 34 rfl (fun h5 => ?_) (fun h5 => ?_))))))))))
 ·
  replace h5 := of_decide_eq_true h5
  refine za rfl (zc rfl (za rfl (zc rfl (za rfl (zc rfl (za rfl (zw rfl rfl (mvx rfl (za rfl (zc rfl (za rfl (zc rfl (za rfl (zc rfl (za rfl (zc rfl (za rfl (zw rfl rfl (rnx (yh rfl (srx (anx rfl (zr (zd (zq (rs := [.tmp 4]) (vs := [_]) rfl ⟨rfl, trivial⟩ ?_)))))))))))))))))))))))))
  exact ⟨by rw [oj (by unfold oi; omega)]; rfl, (LW.step E XLW).toBelow⟩
 replace h5 := of_decide_eq_false h5;refine onx rfl (zb Tryd.underlying37 rfl sz3 (by decide) rfl (onx rfl (zl Tryd.underlying3 rfl rfl (HF.on E).here.2 rfl (onx rfl (yt rfl rfl (za rfl (ya rfl rfl (mvx rfl (yo 39 rfl (fun h6 => ?_) (fun h6 => ?_))))))))))
 ·
  replace h6 := of_decide_eq_true h6;refine za rfl (zc rfl (za rfl (zc rfl (za rfl (zc rfl (za rfl (zc rfl (za rfl (zw rfl rfl (rnx (yh rfl (srx (anx rfl (zr (zd (zq (rs := [.tmp 4]) (vs := [_]) rfl ⟨rfl, trivial⟩ ?_))))))))))))))));exact ⟨by rw [oj (by unfold oi; omega)]; rfl, (LW.step E XLW).toBelow⟩
 replace h6 := of_decide_eq_false h6;refine onx rfl (zb Tryd.underlying37 rfl sz34 (by decide) rfl (onx rfl (zl Tryd.underlying34 rfl rfl (HF.on E).here.2 rfl (onx rfl (vk Tryd.underlying34 rfl (onx rfl (yd rfl rfl (za rfl (ya rfl rfl (rnx (zt rfl (fun h7 => ?_) (fun h7 => ?_))))))))))))
 ·
  refine zu 44 (.bool true) rfl (congrArg Value.bool h7) ?_;replace h7 := eq_of_beq h7;refine srx (anx rfl (zr (zd (zq (rs := [.tmp 4]) (vs := [_]) rfl ⟨rfl, trivial⟩ ?_))));exact ⟨by rw [oj (by unfold oi; omega)]; rfl, (LW.step E XLW).toBelow⟩
 refine zu 44 (.bool false) rfl (congrArg Value.bool h7) ?_;replace h7 := beq_eq_false_iff_ne.1 h7
 refine zj (ze (zf (srx (za rfl (zb Tryd.underlying37 rfl sz9 (by decide) rfl (za rfl (zl Tryd.underlying9 rfl rfl (HF.on E).here.2 rfl (za rfl (qg (cs := #[.string f.name]) Tryd.underlying32 sz9 zr9 (by decide) rfl (by rw [qy]; rfl) ?_)))))))));intro gb3 w4 Bb3 Eb3 Gb3;have Gb3 : _ ≤ gb3 := Nat.le_trans E.size Gb3
 have GLb3 := Nat.le_trans LW.size Gb3;replace E := E.trans Eb3.no;replace HF := HF.cons (yb Gb3);replace E := E.cons (some gb3);replace XLW := Mut.grow XLW (fun k e => Or.inr (Nat.le_trans LW.size ((yb Gb3) k e)));replace HF := HF.on E;replace LW := LW.step E XLW;have SB : ∀ q9, No q9 → Mut [(some gb3)] q9 := (Mut.skip Mut.nil_);replace HF := HF.less SB
 replace XLW := fun k h => XLW k (SB k h);clear SB;replace E := erx (No) w4;replace HF := HF.and (Per.blkN Bb3 NotIn.nil);refine za rfl (zb Tryd.underlying37 rfl sz32 (by decide) rfl (za rfl (zl Tryd.underlying32 rfl rfl (HF.on E).here.1.2 rfl ?_)));have hN : oi f := by unfold oi; omega
 have hFn := (HF.on E).here.1.1.1.1.2;have hTn := (HF.on E).here.1.1.1.2;have hEn := (HF.on E).here.1.1.2;have Bf := (HF.on E).here.1.2;have Bx := (HF.on E).here.2;have hL0 : Ext No w w4 := (LW.step E XLW)
 have O1 : w4.ownsRow w.heap.size 9 1 (.slice (some ⟨gb3, 0, none⟩) 1 1) 1 (zhk [f.name]) := ⟨by simp [zhk], Or.inr ⟨gb3, 1, _, rfl, GLb3, Bx, Nat.le_refl _, by unfold maxLen; omega, by simp, by simp [zhk]⟩⟩
 refine za rfl (ow_appendS (n' := 1 + f.names.length) (xs' := zhk (f.name :: f.names)) Tryd.underlying32 inf9 rfl (by decide) rfl O1 rfl (hFn.names.readsV (Nat.le_refl _)) (fun u hu => by obtain ⟨x, _, rfl⟩ := List.mem_map.1 hu; rfl) rfl (by unfold zhk; rfl) (by unfold maxLen; omega) (by omega) hL0.size ?_);rintro A6 c6 wX O2 E2 N2
 have hLX : Ext No w wX := hL0.step E2 (fun q hq => Or.inr (own_ge O1 q hq));have hrow0 : StrRow wX.heap.size wX A6 (f.name :: f.names) := strRow_owns O2 (by rw [List.length_cons, Nat.add_comm]);have b1 := blk_other Bf O1 (by decide) E2;have hFX := hF.low (X := No) ⟨hLX, fun _ h => h.elim⟩;have hTX := (Per.tabs hT (X := No) (fun _ h => h.elim)) _ hLX
 have hEX := (Per.cellA hE (X := No) (fun _ h => h.elim)) _ hLX;have R_b1 := b1;have LWn : Ext No w wX := hLX;clear HF E LW XLW;have HF : Per (No) wX (fun _ => True) := Per.true_;have LW := LWn;clear LWn;have XLW : Gro (No) (No) w := Mut.none_;have E := erx (No) wX;replace HF := HF.on E;replace LW := LW.step E XLW;replace E := erx (No) wX;replace HF := HF.and (Per.blk R_b1 (fun h => h.elim))
 replace HF := HF.on E;replace LW := LW.step E XLW;replace E := erx (No) wX;replace HF := HF.and (Per.fnA hFX (fun _ h => h.elim));replace HF := HF.on E;replace LW := LW.step E XLW;replace E := erx (No) wX;replace HF := HF.and (Per.tabs hTX (fun _ h => h.elim));replace HF := HF.on E;replace LW := LW.step E XLW;replace E := erx (No) wX;replace HF := HF.and (Per.cellA hEX (fun _ h => h.elim))
 replace HF := HF.on E;replace LW := LW.step E XLW;replace E := erx (No) wX;replace HF := HF.and (Per.strRow hrow0 (fun _ h => h.elim));refine za rfl (vk Tryd.underlying32 rfl (mvx rfl (rnx (zx ?_))));replace HF := HF.on E;replace LW := LW.step E XLW;replace E := erx (No) wX
 refine qk (ι := Nat) (fun k => [(1, .int .i64 ((n : Nat) : Int)), (2, .pointer (some ⟨gb1, 0, none⟩)), (50, .slice A6 (1 + f.names.length) c6), (51, .int .i64 ((1 + f.names.length : Nat) : Int)), (52, .int .i64 ((k : Nat) : Int))]) (fun k w' => Ext (No) wX w' ∧ (k ≤ 1 + f.names.length ∧ ((f.name :: f.names).take k).all strC = true)) (fun k => 1 + f.names.length - k) 0 ⟨rfl, rfl, rfl, rfl, rfl, trivial⟩ ⟨Ext.refl _ _, ⟨Nat.zero_le _, by rw [List.take_zero]; rfl⟩⟩ ?_
 rintro k w6 ⟨M5, ⟨hk, hall⟩⟩;have XM5 := grx (No) wX;replace E := E.trans M5;replace HF := HF.on E;replace LW := LW.step E XLW;replace E := erx (No) w6;refine srx (za rfl (yt rfl rfl (rnx (zf (zt rfl (fun q => ?_) (fun q => ?_))))))
 ·
  have q := of_decide_eq_true q;have hlt : k < (f.name :: f.names).length := by rw [List.length_cons]; omega
  obtain ⟨y, hy⟩ : ∃ y, (f.name :: f.names)[k]? = some y := ⟨_, List.getElem?_eq_getElem hlt⟩;obtain ⟨g, o, hB, hg, hc⟩ := ((HF.on E).here.2).cell hy
  refine zj (ze (zf (zx (srx (za rfl (ja (j := k) Tryd.underlying32 sz9 (congrArg (fun z ↦ some (Value.slice z (1 + f.names.length) c6)) hB) rfl rfl (by omega) (za rfl (ym Tryd.underlying9 rfl rfl hc (anx rfl (srx (mvx rfl (za rfl (yz Tryd.underlying9 rfl (za rfl (qn rfl rfl (rnx ?_))))))))))))))));by_cases hin : y.size ≤ 20000
  ·
   refine zu 58 (.bool false) rfl (by rw [decide_eq_false (by omega)]) (zy rfl (zj (zm (ze (zi (za rfl (yg rfl rfl (zp (by omega)) (mvx rfl (yf ?_)))))))))
   exact yl (k + 1) (by show 1 + f.names.length - (k + 1) < 1 + f.names.length - k; omega) ⟨rfl, rfl, rfl, rfl, rfl, trivial⟩ ⟨M5.step E XM5, ⟨by omega, znk hy hall (decide_eq_true hin)⟩⟩
  ·
   refine zu 58 (.bool true) rfl (by rw [decide_eq_true (by omega)]) (yh rfl (srx (anx rfl (zr (zn (zd (zd (zn (zd (zq (rs := [.tmp 4]) (vs := [_]) rfl ⟨rfl, trivial⟩ ?_))))))))));exact ⟨by rw [headC_str hy (decide_eq_false hin)]; rfl, (LW.step E XLW).toBelow⟩
 ·
  have q := of_decide_eq_false q;have hall2 := zvv hall (by rw [List.length_cons]; omega)
  refine yn (zh (zh (zv (ze (zf (srx (za rfl (zb Tryd.underlying37 rfl sz33 (by decide) rfl (za rfl (zl Tryd.underlying33 rfl rfl (HF.on E).here.1.1.1.1.2 rfl (za rfl (vk Tryd.underlying33 rfl (mvx rfl (rnx (zx ?_)))))))))))))));replace HF := HF.on E;replace LW := LW.step E XLW;replace E := erx (No) w6
  refine qk (ι := Nat) (fun k => [(1, .int .i64 ((n : Nat) : Int)), (2, .pointer (some ⟨gb1, 0, none⟩)), (61, .slice p.ac f.consts.length p.cc), (62, .int .i64 ((f.consts.length : Nat) : Int)), (63, .int .i64 ((k : Nat) : Int))]) (fun k w' => Ext (No) w6 w' ∧ (k ≤ f.consts.length ∧ (f.consts.take k).all zbv = true)) (fun k => f.consts.length - k) 0 ⟨rfl, rfl, rfl, rfl, rfl, trivial⟩ ⟨Ext.refl _ _, ⟨Nat.zero_le _, by rw [List.take_zero]; rfl⟩⟩ ?_
  rintro k w8 ⟨M7, ⟨hk2, hall3⟩⟩;have XM7 := grx (No) w6;replace E := E.trans M7;replace HF := HF.on E;replace LW := LW.step E XLW;replace E := erx (No) w8;refine srx (za rfl (yt rfl rfl (rnx (zf (zt rfl (fun q2 => ?_) (fun q2 => ?_))))))
  ·
   have q2 := of_decide_eq_true q2;have hlt : k < f.consts.length := by omega
   obtain ⟨y, hy⟩ : ∃ y, f.consts[k]? = some y := ⟨_, List.getElem?_eq_getElem hlt⟩;obtain ⟨g, o, hB, hg, hc⟩ := ((HF.on E).here.1.1.1.2).consts.at hy
   refine zj (ze (zf (zx (srx (za rfl (qj (j := k) Tryd.underlying33 sz56 (congrArg (fun z ↦ some (Value.slice z f.consts.length p.cc)) hB) rfl rfl hlt (za rfl (xq (cs := #[.int .i64 y.1, .string y.2]) Tryd.underlying56 rfl sz56 rfl rfl (fun j v hj ↦ hc j v (by simpa using hj)) (za rfl (vv zr56 ?_))))))))));intro gb9 w10 Bb9 Eb9 Gb9
   have Gb9 : _ ≤ gb9 := Nat.le_trans E.size Gb9;have GLb9 := Nat.le_trans LW.size Gb9;replace E := E.trans Eb9.no;replace HF := HF.cons (yb Gb9);replace E := E.cons (some gb9);replace XLW := Mut.grow XLW (fun k e => Or.inr (Nat.le_trans LW.size ((yb Gb9) k e)));replace XM7 := Mut.grow XM7 (fun k e => Or.inr (Nat.le_trans M7.size ((yb Gb9) k e)))
   refine qe (xz sz56 rfl rfl Bb9 rfl rfl rfl ?_);intro w11 Bx Eb9;replace Bb9 : Blk w11 gb9 56 #[.int .i64 y.1, .string y.2] := Bx;replace E := E.step1 Eb9 Mut.head
   refine rnx (srx (za rfl (jp Tryd.underlying56 rfl sz56 rfl Bb9 rfl (za rfl (zz en18 rfl ((const_any _ y.1 y.2 (hs y (List.mem_of_getElem? hy)) (HF.on E).here.1.1.2 ⟨te, pe, (HF.on E).here.1.2⟩).mono ?_))))));rintro e w12 ⟨rfl, hb⟩;refine ⟨_, rfl, ?_⟩;have Ec := Ext.of_below hb No;replace Bb9 := Bb9.extN Ec NotIn.nil;replace E := E.trans Ec.no
   refine za rfl (vp rfl (rnx ?_));by_cases hin : zbv y = true
   ·
    refine zu 69 (.bool false) rfl ((by rw [show zbv (y.1, y.2) = true from hin]; rfl : (.bool (!(zbv (y.1, y.2))) : Value) = _)) (zy rfl (zj (zm (ze (zi (za rfl (yg rfl rfl (zp (by omega)) (mvx rfl (yf ?_)))))))))
    exact yl (k + 1) (by show f.consts.length - (k + 1) < f.consts.length - k; omega) ⟨rfl, rfl, rfl, rfl, rfl, trivial⟩ ⟨M7.step E XM7, ⟨by omega, znk hy hall3 hin⟩⟩
   ·
    have hin := Bool.eq_false_iff.2 hin;refine zu 69 (.bool true) rfl ((by rw [show zbv (y.1, y.2) = false from hin]; rfl : (.bool (!(zbv (y.1, y.2))) : Value) = _)) (yh rfl (srx (anx rfl (zr (zn (zd (zd (zn (zd (zq (rs := [.tmp 4]) (vs := [_]) rfl ⟨rfl, trivial⟩ ?_))))))))))
    exact ⟨by rw [headC_con hy hin]; rfl, (LW.step E XLW).toBelow⟩
  ·
   have q2 := of_decide_eq_false q2;have hall4 := zvv hall3 (by omega);refine yn (zh (zh (zv (ze (srx (mvx rfl (za rfl (qn rfl rfl (mvx rfl (yo 73 rfl (fun t1 => ?_) (fun t1 => ?_)))))))))))
   ·
    replace t1 := of_decide_eq_true t1
    refine za rfl (zc rfl (za rfl (zc rfl (za rfl (zc rfl (za rfl (zc rfl (za rfl (qr rfl rfl (za rfl (qr rfl rfl (za rfl (qr rfl rfl (za rfl (zc rfl (za rfl (zc rfl (za rfl (qr rfl rfl (za rfl (qr rfl rfl (za rfl (qr rfl rfl (za rfl (zc rfl (za rfl (zw rfl rfl (anx rfl (zr (zq (rs := [.tmp 4]) (vs := [_]) rfl ⟨rfl, trivial⟩ ?_))))))))))))))))))))))))))))))
    exact ⟨by rw [zfk hN hall2 hall4]; refine congrArg (fun z => Ending.returned (.bool z)) ?_; clear hF hs hT hFX hTX hall2 hall4 hall3 hall HF E LW; first | rfl | (simp_all [oe]; done) | (simp_all [oe]; omega) | (simp_all [oe]; rfl), (LW.step E XLW).toBelow⟩
   ·
    replace t1 := of_decide_eq_false t1;refine onx rfl (zb Tryd.underlying37 rfl sz3 (by decide) rfl (onx rfl (zl Tryd.underlying3 rfl rfl (HF.on E).here.1.1.1.1.2 rfl (onx rfl (yd rfl rfl (onx rfl (zo rfl (yo 77 rfl (fun t2 => ?_) (fun t2 => ?_)))))))))
    ·
     replace t2 := eq_of_beq t2;refine onx rfl (zb Tryd.underlying37 rfl sz3 (by decide) rfl (onx rfl (zl Tryd.underlying3 rfl rfl (HF.on E).here.1.1.1.1.2 rfl (onx rfl (yd rfl rfl (onx rfl (zw rfl rfl (onx rfl (zo rfl (yo 82 rfl (fun t3 => ?_) (fun t3 => ?_)))))))))))
     ·
      replace t3 := eq_of_beq t3;refine onx rfl (zb Tryd.underlying37 rfl sz4 (by decide) rfl (onx rfl (zl Tryd.underlying4 rfl rfl (HF.on E).here.1.1.1.1.2 rfl (onx rfl (vp rfl (onx rfl (zw rfl rfl (za rfl (ya rfl rfl (anx rfl (zr (zq (rs := [.tmp 4]) (vs := [_]) rfl ⟨rfl, trivial⟩ ?_))))))))))))
      exact ⟨by rw [zfk hN hall2 hall4]; refine congrArg (fun z => Ending.returned (.bool z)) ?_; clear hF hs hT hFX hTX hall2 hall4 hall3 hall HF E LW; first | rfl | (simp_all [oe]; done) | (simp_all [oe]; omega) | (simp_all [oe]; rfl), (LW.step E XLW).toBelow⟩
     ·
      replace t3 := beq_eq_false_iff_ne.1 t3;refine za rfl (zc rfl (za rfl (zc rfl (za rfl (zc rfl (onx rfl (ya rfl rfl (za rfl (ya rfl rfl (anx rfl (zr (zq (rs := [.tmp 4]) (vs := [_]) rfl ⟨rfl, trivial⟩ ?_))))))))))))
      exact ⟨by rw [zfk hN hall2 hall4]; refine congrArg (fun z => Ending.returned (.bool z)) ?_; clear hF hs hT hFX hTX hall2 hall4 hall3 hall HF E LW; first | rfl | (simp_all [oe]; done) | (simp_all [oe]; omega) | (simp_all [oe]; rfl), (LW.step E XLW).toBelow⟩
    ·
     replace t2 := beq_eq_false_iff_ne.1 t2;refine za rfl (zc rfl (za rfl (zc rfl (za rfl (zc rfl (onx rfl (ya rfl rfl (onx rfl (zo rfl (za rfl (zc rfl (za rfl (zc rfl (za rfl (zc rfl (onx rfl (ya rfl rfl (za rfl (ya rfl rfl (anx rfl (zr (zq (rs := [.tmp 4]) (vs := [_]) rfl ⟨rfl, trivial⟩ ?_))))))))))))))))))))))
     exact ⟨by rw [zfk hN hall2 hall4]; refine congrArg (fun z => Ending.returned (.bool z)) ?_; clear hF hs hT hFX hTX hall2 hall4 hall3 hall HF E LW; first | rfl | (simp_all [oe]; done) | (simp_all [oe]; omega) | (simp_all [oe]; rfl), (LW.step E XLW).toBelow⟩
end
end Go.Proofs.YtmjemknimipnjaaDoor
namespace Go.Proofs.YtmjemknimipnjaaDoor
open Go.RowKit
set_option maxRecDepth 100000
attribute [local irreducible] OW RS
theorem StrsA.cell {n : Nat} {w : World} {A : Option Addr} {xs : List ByteArray} (h : StrsA n w A xs) {j : Nat} {x : ByteArray} (hj : xs[j]? = some x) : ∃ g o, A = some ⟨g, o, none⟩ ∧ g < n ∧ w.cell? ⟨g, o + j, none⟩ = some (.string x) := by
 obtain ⟨g, o, e, hg, hc⟩ := h.row.at hj;exact ⟨g, o, e, hg, by rwa [Nat.mul_one] at hc⟩
def rgN (f : LFn) (r : LReg) : Prop := 0 ≤ r.fr ∧ r.fr ≤ r.to ∧ r.to ≤ (f.ins.length : Int) ∧ 0 ≤ r.tg ∧ r.tg < (f.ins.length : Int) ∧ 0 ≤ r.d ∧ r.d < f.regs
theorem rgC_no {f : LFn} {r : LReg} (h : ¬ rgN f r) : rgC f r = false := by
 rw [rgC_eq, Bool.eq_false_iff];intro h2;simp only [Bool.and_eq_true, decide_eq_true_eq] at h2
 exact h ⟨h2.1, h2.2.1, h2.2.2.1, h2.2.2.2.1.1, h2.2.2.2.1.2, h2.2.2.2.2.1, h2.2.2.2.2.2⟩
section
variable (w : World) {bp op cp bf of cf bl ol cl : Nat} (p : Pl) (f : LFn) (n0 n : Nat) (hF : FnA n0 w p f) (hs : ∀ c ∈ f.consts, c.2.size ≤ 140737488355328) (hT : Tabs bp op cp bf of cf bl ol cl w) (hE : ∃ te pe, w.cell? ⟨2, 0, none⟩ = some (.iface te pe))
include hF hs hT hE
end
section
variable (w : World) (p : Pl) (f : LFn) (n0 : Nat) (hF : FnA n0 w p f)
include hF
end
end Go.Proofs.YtmjemknimipnjaaDoor
namespace Go.Proofs.YtmjemknimipnjaaDoor
open Go.RowKit
set_option maxRecDepth 100000
attribute [local irreducible] OW RS flN uD uA uB uT uL rL rK rLo rHi
def res3 (t : Int × Int × Int) : Value := .tuple #[.int .i64 t.1, .int .i64 t.2.1, .int .i64 t.2.2]
theorem zmk {α : Type} {l : List α} {k : Nat} {x : α} (h : l[k]? = some x) : l.drop k = x :: l.drop (k + 1) := by
 obtain ⟨h1, h2⟩ := List.getElem?_eq_some_iff.1 h;rw [List.drop_eq_getElem_cons h1, h2]
theorem bad_step {fs : List LFn} {f : LFn} {k : Nat} {i : LIns} (h : f.ins[k]? = some i) (hi : kk fs f k i = true) : gu fs f k (f.ins.drop k) = gu fs f (k + 1) (f.ins.drop (k + 1)) := by
 rw [zmk h];show (if kk fs f k i = true then _ else _) = _
 rw [if_pos hi]
theorem bad_here {fs : List LFn} {f : LFn} {k : Nat} {i : LIns} (h : f.ins[k]? = some i) (hi : kk fs f k i = false) : gu fs f k (f.ins.drop k) = some k := by
 rw [zmk h];show (if kk fs f k i = true then _ else _) = _
 rw [hi]; rfl
theorem bad_end {fs : List LFn} {f : LFn} {k : Nat} (h : ¬ k < f.ins.length) : gu fs f k (f.ins.drop k) = none := by
 rw [List.drop_of_length_le (by omega)]; rfl
section
variable {fs : List LFn} {f : LFn} {k : Nat} (h : fs[k]? = some f)
include h
theorem go_head (h1 : gj f k = false) : goF fs k (fs.drop k) = ((k : Int), -1, 3) := by
 rw [zmk h];show (if gj f k = true then _ else _) = _
 rw [h1]; rfl
theorem go_ins {j : Nat} (h1 : gj f k = true) (h2 : gu fs f 0 f.ins = some j) : goF fs k (fs.drop k) = ((k : Int), (j : Int), 3) := by
 rw [zmk h];show (if gj f k = true then _ else _) = _
 rw [h1, if_pos rfl, h2]
theorem kl (h1 : gj f k = true) (h2 : gu fs f 0 f.ins = none) (h3 : f.rgs.all (rgC f) = false) : goF fs k (fs.drop k) = ((k : Int), -2, 3) := by
 rw [zmk h];show (if gj f k = true then _ else _) = _
 rw [h1, if_pos rfl, h2];show (if _ then _ else _) = _
 rw [h3]; rfl
theorem go_step (h1 : gj f k = true) (h2 : gu fs f 0 f.ins = none) (h3 : f.rgs.all (rgC f) = true) : goF fs k (fs.drop k) = goF fs (k + 1) (fs.drop (k + 1)) := by
 rw [zmk h];show (if gj f k = true then _ else _) = _
 rw [h1, if_pos rfl, h2];show (if _ then _ else _) = _
 rw [h3]; rfl
end
theorem go_end {fs : List LFn} {k : Nat} (h : ¬ k < fs.length) : goF fs k (fs.drop k) = (0, 0, 0) := by
 rw [List.drop_of_length_le (by omega)]; rfl
theorem yaq {fs : List LFn} (h : fs.length < 1 ∨ 4000 < fs.length) : go fs = (-1, -1, 3) := if_pos h
theorem checkC_go {fs : List LFn} (h : ¬ (fs.length < 1 ∨ 4000 < fs.length)) : go fs = goF fs 0 fs := if_neg h
theorem rgC_tg {f : LFn} {r : LReg} (h : inI r.tg f.ins.length = false) : rgC f r = false := by unfold rgC; rw [h]; simp
theorem rgC_d {f : LFn} {r : LReg} (h : inI r.d f.regs = false) : rgC f r = false := by unfold rgC; rw [h]; simp
theorem rgC_ok {f : LFn} {r : LReg} (h1 : 0 ≤ r.fr) (h2 : r.fr ≤ r.to) (h3 : r.to ≤ (f.ins.length : Int)) (h4 : inI r.tg f.ins.length = true) (h5 : inI r.d f.regs = true) : rgC f r = true := by unfold rgC; rw [h4, h5, decide_eq_true h1, decide_eq_true h2, decide_eq_true h3]; rfl
section
variable (w : World) {bp op cp bf of cf bl ol cl : Nat} (A : Option Addr) (n ca : Nat) (fs : List LFn) (hfs : FsA n w A fs) (hT : Tabs bp op cp bf of cf bl ol cl w) (hE : ∃ te pe, w.cell? ⟨2, 0, none⟩ = some (.iface te pe))
include hfs hT hE
set_option maxHeartbeats 1000000 in
theorem yaz : Calls Tryd.prog 7 #[.agg #[.slice A fs.length ca]] w fun e w' => e = .returned (res3 (go fs)) ∧ Below w.heap.size w w' := by
 obtain ⟨te, pe, hE⟩ := hE;have hfl := hfs.len;refine yk Tryd.func7 rfl Tryd.ntmps7 rfl ?_;have HF : Per (No) w (fun _ => True) := Per.true_;have LW := erx (No) w;have XLW := grx (No) w;have E := erx (No) w;replace HF := HF.on E;replace LW := LW.step E XLW;replace E := erx (No) w;replace HF := HF.and (Per.fsA hfs (fun _ h => h.elim));replace HF := HF.on E;replace LW := LW.step E XLW
 replace E := erx (No) w;replace HF := HF.and (Per.tabs hT (fun _ h => h.elim));replace HF := HF.on E;replace LW := LW.step E XLW;replace E := erx (No) w;replace HF := HF.and (Per.cellA hE (fun _ h => h.elim));refine srx (za rfl (jv rfl ?_));intro gb1 w2 Bb1 Eb1 Gb1;have Gb1 : _ ≤ gb1 := Nat.le_trans E.size Gb1;have GLb1 := Nat.le_trans LW.size Gb1;replace E := E.trans Eb1.no
 replace HF := HF.cons (yb Gb1);replace E := E.cons (some gb1);replace XLW := Mut.grow XLW (fun k e => Or.inr (Nat.le_trans LW.size ((yb Gb1) k e)));replace HF := HF.on E;replace LW := LW.step E XLW;have SB : ∀ q9, No q9 → Mut [(some gb1)] q9 := (Mut.skip Mut.nil_);replace HF := HF.less SB;replace XLW := fun k h => XLW k (SB k h);clear SB;replace E := erx (No) w2
 replace HF := HF.and (Per.blkN Bb1 NotIn.nil);refine avx rfl (avx rfl (anx rfl (zf (srx (za rfl (zb Tryd.underlying24 rfl sz22 (by decide) rfl (za rfl (zl Tryd.underlying22 rfl rfl (HF.on E).here.2 rfl (za rfl (vk Tryd.underlying22 rfl (za rfl (yt rfl rfl (mvx rfl (yo 14 rfl (fun h1 => ?_) (fun h1 => ?_)))))))))))))))
 ·
  replace h1 := of_decide_eq_true h1;refine za rfl (zc rfl (za rfl (zc rfl (za rfl (zc rfl (za rfl (zc rfl (za rfl (zw rfl rfl (rnx (yh rfl (srx (avx rfl (avx rfl (anx rfl (zr (zd (zq (rs := [.tmp 2, .tmp 3, .tmp 4]) (vs := [_, _, _]) rfl ⟨rfl, rfl, rfl, trivial⟩ ?_))))))))))))))))))
  exact ⟨by rw [yaq (by omega)]; rfl, (LW.step E XLW).toBelow⟩
 replace h1 := of_decide_eq_false h1;refine onx rfl (zb Tryd.underlying24 rfl sz22 (by decide) rfl (onx rfl (zl Tryd.underlying22 rfl rfl (HF.on E).here.2 rfl (onx rfl (vk Tryd.underlying22 rfl (onx rfl (qn rfl rfl (za rfl (ya rfl rfl (rnx (zt rfl (fun h2 => ?_) (fun h2 => ?_))))))))))))
 ·
  refine zu 19 (.bool true) rfl (congrArg Value.bool h2) ?_;replace h2 := of_decide_eq_true h2;refine srx (avx rfl (avx rfl (anx rfl (zr (zd (zq (rs := [.tmp 2, .tmp 3, .tmp 4]) (vs := [_, _, _]) rfl ⟨rfl, rfl, rfl, trivial⟩ ?_))))));exact ⟨by rw [yaq (by omega)]; rfl, (LW.step E XLW).toBelow⟩
 refine zu 19 (.bool false) rfl (congrArg Value.bool h2) ?_;replace h2 := of_decide_eq_false h2;refine zj (ze (zf (srx (za rfl (zb Tryd.underlying24 rfl sz22 (by decide) rfl (za rfl (zl Tryd.underlying22 rfl rfl (HF.on E).here.2 rfl (za rfl (vk Tryd.underlying22 rfl (mvx rfl (rnx (zx ?_))))))))))));have hcg := checkC_go (fs := fs) (by omega)
 replace HF := HF.on E;replace LW := LW.step E XLW;replace E := erx (No) w2
 refine qk (ι := Nat) (fun k => [(1, .pointer (some ⟨gb1, 0, none⟩)), (21, .slice A fs.length ca), (22, .int .i64 ((fs.length : Nat) : Int)), (23, .int .i64 ((k : Nat) : Int))]) (fun k w' => Ext (No) w2 w' ∧ (k ≤ fs.length ∧ go fs = goF fs k (fs.drop k))) (fun k => fs.length - k) 0 ⟨rfl, rfl, rfl, rfl, trivial⟩ ⟨Ext.refl _ _, ⟨Nat.zero_le _, hcg⟩⟩ ?_;rintro k w4 ⟨M3, ⟨hk, hgo⟩⟩
 have XM3 := grx (No) w2;replace E := E.trans M3;replace HF := HF.on E;replace LW := LW.step E XLW;replace E := erx (No) w4;refine srx (za rfl (yt rfl rfl (rnx (zf (zt rfl (fun q => ?_) (fun q => ?_))))))
 ·
  have q := of_decide_eq_true q;have hlt : k < fs.length := by omega
  obtain ⟨f, hf⟩ : ∃ f, fs[k]? = some f := ⟨_, List.getElem?_eq_getElem hlt⟩;obtain ⟨g, o, p, hA, hg, hF, hc⟩ := ((HF.on E).here.1.1.1.2).at hf;have hil := hF.ins.len;have hrl := hF.rgs.len;have hcs := hfs.strs f (List.mem_of_getElem? hf);replace HF := HF.on E;replace LW := LW.step E XLW;replace M3 := M3.step E XM3;replace E := erx (No) w4;replace HF := HF.and (Per.fnA hF (fun _ h => h.elim))
  refine zj (ze (zf (zx (srx (mvx rfl (za rfl (qj (j := k) Tryd.underlying22 sz37 (congrArg (fun z ↦ some (Value.slice z fs.length ca)) hA) rfl rfl hlt (za rfl (xq (cs := (fnC p f).toArray) Tryd.underlying37 rfl sz37 rfl rfl (fun j v hj ↦ hc j v (by simpa using hj)) (za rfl (vv zr37 ?_)))))))))));intro gb5 w6 Bb5 Eb5 Gb5
  have Gb5 : _ ≤ gb5 := Nat.le_trans E.size Gb5;have GLb5 := Nat.le_trans LW.size Gb5;replace E := E.trans Eb5.no;replace HF := HF.cons (yb Gb5);replace E := E.cons (some gb5);replace XLW := Mut.grow XLW (fun k e => Or.inr (Nat.le_trans LW.size ((yb Gb5) k e)));replace XM3 := Mut.grow XM3 (fun k e => Or.inr (Nat.le_trans M3.size ((yb Gb5) k e)))
  refine avx rfl (qe (xz sz37 rfl rfl Bb5 rfl rfl rfl ?_));intro w7 Bx Eb5;replace Bb5 : Blk w7 gb5 37 #[.string f.name, .int .i64 f.params, .int .i64 f.regs, .int .i64 f.frees, .bool f.gen, .int .i64 f.bound, .slice p.an f.names.length p.cn, .slice p.ac f.consts.length p.cc, .slice p.ai f.ins.length p.ci, .slice p.ar f.rgs.length p.cr] := Bx;replace E := E.step1 Eb5 Mut.head
  refine rnx (zf (srx (za rfl (jp Tryd.underlying37 rfl sz37 rfl Bb5 rfl (mvx rfl (za rfl (zz en13 rfl ((head_any _ p f n k (HF.on E).here.2 hcs (HF.on E).here.1.1.1.2 ⟨te, pe, (HF.on E).here.1.1.2⟩).mono ?_))))))));rintro e w8 ⟨rfl, hb⟩;refine ⟨_, rfl, ?_⟩;have Ec := Ext.of_below hb No;replace Bb5 := Bb5.extN Ec NotIn.nil;replace E := E.trans Ec.no
  refine za rfl (vp rfl (rnx ?_));by_cases h1 : gj f k = true
  ·
   refine zu 31 (.bool false) rfl ((by rw [h1]; rfl : (.bool (!(gj f k)) : Value) = _)) (zy rfl (zj (ze (zf (srx (za rfl (zb Tryd.underlying37 rfl sz34 (by decide) rfl (za rfl (zl Tryd.underlying34 rfl rfl Bb5 rfl (za rfl (vk Tryd.underlying34 rfl (mvx rfl (rnx (zx ?_))))))))))))));replace HF := HF.on E;replace LW := LW.step E XLW
   replace M3 := M3.step E XM3;replace E := erx (Mut [(some gb5)]) w8
   refine qk (ι := Nat) (fun j => [(1, .pointer (some ⟨gb1, 0, none⟩)), (5, .int .i64 ((k : Nat) : Int)), (6, .pointer (some ⟨gb5, 0, none⟩)), (21, .slice A fs.length ca), (22, .int .i64 ((fs.length : Nat) : Int)), (23, .int .i64 ((k : Nat) : Int)), (35, .int .i64 ((f.ins.length : Nat) : Int)), (36, .int .i64 ((j : Nat) : Int))]) (fun j w' => Ext (Mut [(some gb5)]) w8 w' ∧ Blk w' gb5 37 (#[.string f.name, .int .i64 f.params, .int .i64 f.regs, .int .i64 f.frees, .bool f.gen, .int .i64 f.bound, .slice p.an f.names.length p.cn, .slice p.ac f.consts.length p.cc, .slice p.ai f.ins.length p.ci, .slice p.ar f.rgs.length p.cr]) ∧ (j ≤ f.ins.length ∧ gu fs f 0 f.ins = gu fs f j (f.ins.drop j))) (fun j => f.ins.length - j) 0 ⟨rfl, rfl, rfl, rfl, rfl, rfl, rfl, rfl, trivial⟩ ⟨Ext.refl _ _, (by exact Bb5), ⟨Nat.zero_le _, rfl⟩⟩ ?_
   have LTb5 := (yj Bb5.lt);rintro j w10 ⟨M9, Bb5, ⟨hj, hba⟩⟩;have XM9 : Gro (Mut [(some gb5)]) (Mut [(some gb5)]) w8 := (Mut.grow Mut.none_ (fun k e => Or.inl (Mut.head k e)));replace E := E.trans M9;replace HF := HF.on E;replace LW := LW.step E XLW;replace M3 := M3.step E XM3;replace E := erx (Mut [(some gb5)]) w10;clear LTb5
   refine srx (za rfl (yt rfl rfl (rnx (zf (zt rfl (fun q2 => ?_) (fun q2 => ?_))))))
   ·
    have q2 := of_decide_eq_true q2;obtain ⟨i, hi⟩ : ∃ i, f.ins[j]? = some i := ⟨_, List.getElem?_eq_getElem (by omega)⟩
    refine zj (ze (zf (zx (srx (mvx rfl (anx rfl (srx (za rfl (jp Tryd.underlying24 rfl sz24 rfl (HF.on E).here.1.2 rfl (za rfl (jp Tryd.underlying37 rfl sz37 rfl Bb5 rfl (mvx rfl (za rfl (zz en14 rfl ((insR_any _ A n ca fs (HF.on E).here.1.1.1.1.2 p f (HF.on E).here.2 j i hi).mono ?_)))))))))))))));rintro e w11 ⟨rfl, hb⟩;refine ⟨_, rfl, ?_⟩
    have Ec := Ext.of_below hb No;replace Bb5 := Bb5.extN Ec NotIn.nil;replace E := E.trans Ec.no;refine za rfl (vp rfl (rnx ?_));by_cases h2 : kk fs f j i = true
    ·
     refine zu 43 (.bool false) rfl ((by rw [h2]; rfl : (.bool (!(kk fs f j i)) : Value) = _)) (zy rfl (zj (zm (ze (zi (za rfl (yg rfl rfl (zp (by omega)) (mvx rfl (yf ?_)))))))))
     exact yl (j + 1) (by show f.ins.length - (j + 1) < f.ins.length - j; omega) ⟨rfl, rfl, rfl, rfl, rfl, rfl, rfl, rfl, trivial⟩ ⟨M9.step E XM9, (by exact Bb5), ⟨by omega, by rw [hba, bad_step hi h2]⟩⟩
    ·
     have h2 := Bool.eq_false_iff.2 h2
     refine zu 43 (.bool true) rfl ((by rw [h2]; rfl : (.bool (!(kk fs f j i)) : Value) = _)) (yh rfl (srx (mvx rfl (mvx rfl (avx rfl (avx rfl (anx rfl (zr (zn (zd (zd (zn (zd (zn (zd (zd (zn (zd (zq (rs := [.tmp 2, .tmp 3, .tmp 4]) (vs := [_, _, _]) rfl ⟨rfl, rfl, rfl, trivial⟩ ?_)))))))))))))))))))
     exact ⟨by rw [hgo, go_ins hf h1 (hba.trans (bad_here hi h2))]; rfl, (LW.step E XLW).toBelow⟩
   ·
    have q2 := of_decide_eq_false q2;have hbn := hba.trans (bad_end (by omega));refine yn (zh (zh (zv (ze (srx (za rfl (zb Tryd.underlying37 rfl sz35 (by decide) rfl (za rfl (zl Tryd.underlying35 rfl rfl Bb5 rfl (za rfl (vk Tryd.underlying35 rfl (mvx rfl (rnx (zx ?_))))))))))))));replace HF := HF.on E
    replace LW := LW.step E XLW;replace M3 := M3.step E XM3;replace E := erx (Mut [(some gb5)]) w10
    refine qk (ι := Nat) (fun j => [(1, .pointer (some ⟨gb1, 0, none⟩)), (5, .int .i64 ((k : Nat) : Int)), (6, .pointer (some ⟨gb5, 0, none⟩)), (21, .slice A fs.length ca), (22, .int .i64 ((fs.length : Nat) : Int)), (23, .int .i64 ((k : Nat) : Int)), (48, .slice p.ar f.rgs.length p.cr), (49, .int .i64 ((f.rgs.length : Nat) : Int)), (50, .int .i64 ((j : Nat) : Int))]) (fun j w' => Ext (Mut [(some gb5)]) w10 w' ∧ Blk w' gb5 37 (#[.string f.name, .int .i64 f.params, .int .i64 f.regs, .int .i64 f.frees, .bool f.gen, .int .i64 f.bound, .slice p.an f.names.length p.cn, .slice p.ac f.consts.length p.cc, .slice p.ai f.ins.length p.ci, .slice p.ar f.rgs.length p.cr]) ∧ (j ≤ f.rgs.length ∧ (f.rgs.take j).all (rgC f) = true)) (fun j => f.rgs.length - j) 0 ⟨rfl, rfl, rfl, rfl, rfl, rfl, rfl, rfl, rfl, trivial⟩ ⟨Ext.refl _ _, (by exact Bb5), ⟨Nat.zero_le _, by rw [List.take_zero]; rfl⟩⟩ ?_
    have LTb5 := (yj Bb5.lt);rintro j w13 ⟨M12, Bb5, ⟨hj, hall⟩⟩;have XM12 : Gro (Mut [(some gb5)]) (Mut [(some gb5)]) w10 := (Mut.grow Mut.none_ (fun k e => Or.inl (Mut.head k e)));replace E := E.trans M12;replace HF := HF.on E;replace LW := LW.step E XLW;replace M3 := M3.step E XM3;replace E := erx (Mut [(some gb5)]) w13;clear LTb5
    refine srx (za rfl (yt rfl rfl (rnx (zf (zt rfl (fun q3 => ?_) (fun q3 => ?_))))))
    ·
     have q3 := of_decide_eq_true q3;obtain ⟨r, hr⟩ : ∃ r, f.rgs[j]? = some r := ⟨_, List.getElem?_eq_getElem (by omega)⟩;obtain ⟨gr, ro, hAr, hgr, hcr⟩ := ((HF.on E).here.2).rgs.row.at hr
     refine zj (ze (zf (zx (srx (za rfl (qj (j := j) Tryd.underlying35 sz51 (congrArg (fun z ↦ some (Value.slice z f.rgs.length p.cr)) hAr) rfl rfl (by omega) (za rfl (xq (cs := (regV r).toArray) Tryd.underlying51 rfl sz51 rfl rfl (fun j v hj ↦ hcr j v (by simpa using hj)) (za rfl (vv zr51 ?_))))))))));intro gb14 w15 Bb14 Eb14 Gb14
     have Db14_b5 : Apart (some gb14) (some gb5) := Apart.of_lt (yj Bb5.lt) Gb14;have Db5_b14 := Db14_b5.symm;have Gb14 : _ ≤ gb14 := Nat.le_trans E.size Gb14;have GLb14 := Nat.le_trans LW.size Gb14;replace Bb5 := Bb5.extN Eb14 NotIn.nil;replace E := E.trans Eb14.no;replace E := E.cons (some gb14);replace XLW := Mut.grow XLW (fun k e => Or.inr (Nat.le_trans LW.size ((yb Gb14) k e)))
     replace XM12 := Mut.grow XM12 (fun k e => Or.inr (Nat.le_trans M12.size ((yb Gb14) k e)));refine qe (xz sz51 rfl rfl Bb14 rfl rfl rfl ?_);intro w16 Bx Eb14;replace Bb14 : Blk w16 gb14 51 #[.int .i64 r.fr, .int .i64 r.to, .int .i64 r.tg, .int .i64 r.d] := Bx;replace Bb5 := Bb5.extN Eb14 (NotIn.cons Db5_b14 NotIn.nil);replace E := E.step1 Eb14 Mut.head
     refine rnx (srx (za rfl (zb Tryd.underlying51 rfl sz3 (by decide) rfl (za rfl (zl Tryd.underlying3 rfl rfl Bb14 rfl (za rfl (yt rfl rfl (mvx rfl (yo 57 rfl (fun t1 => ?_) (fun t1 => ?_))))))))))
     ·
      replace t1 := of_decide_eq_true t1
      refine za rfl (zc rfl (za rfl (zc rfl (za rfl (zc rfl (za rfl (zc rfl (za rfl (zc rfl (za rfl (zw rfl rfl (mvx rfl (za rfl (zc rfl (za rfl (zc rfl (za rfl (zc rfl (za rfl (zc rfl (za rfl (zc rfl (za rfl (zc rfl (za rfl (zw rfl rfl (mvx rfl (za rfl (zc rfl (za rfl (zc rfl (za rfl (zc rfl (za rfl (zc rfl (za rfl (zc rfl (za rfl (zc rfl (za rfl (zc rfl (za rfl (zw rfl rfl (mvx rfl (za rfl (zc rfl (za rfl (zc rfl (za rfl (zc rfl (za rfl (zc rfl (za rfl (zc rfl (za rfl (zc rfl (za rfl (zw rfl rfl (rnx (yh rfl (srx (mvx rfl (avx rfl (avx rfl (avx rfl ?_)))))))))))))))))))))))))))))))))))))))))))))))))))))))))))))))))
      refine rnx (zr (zn (zd (zd (zn (zn (zd (zd (zn (zd (zq (rs := [.tmp 2, .tmp 3, .tmp 4]) (vs := [_, _, _]) rfl ⟨rfl, rfl, rfl, trivial⟩ ?_)))))))))))
      exact ⟨by first | (rw [hgo, kl hf h1 hbn (jh hr (rgC_no (by unfold rgN; omega)))]; rfl) | (rw [hgo, kl hf h1 hbn (jh hr (rgC_tg (by simpa [yq] using t4)))]; rfl) | (rw [hgo, kl hf h1 hbn (jh hr (rgC_d (by simpa [yq] using t5)))]; rfl), (LW.step E XLW).toBelow⟩
     ·
      replace t1 := of_decide_eq_false t1
      refine onx rfl (zb Tryd.underlying51 rfl sz3 (by decide) rfl (onx rfl (zl Tryd.underlying3 rfl rfl Bb14 rfl (onx rfl (zb Tryd.underlying51 rfl sz3 (by decide) rfl (onx rfl (zl Tryd.underlying3 rfl rfl Bb14 rfl (onx rfl (qn rfl rfl (za rfl (ya rfl rfl (mvx rfl (yo 64 rfl (fun t2 => ?_) (fun t2 => ?_))))))))))))))
      ·
       replace t2 := of_decide_eq_true t2
       refine za rfl (zc rfl (za rfl (zc rfl (za rfl (zc rfl (za rfl (zc rfl (za rfl (zc rfl (za rfl (zc rfl (za rfl (zw rfl rfl (mvx rfl (za rfl (zc rfl (za rfl (zc rfl (za rfl (zc rfl (za rfl (zc rfl (za rfl (zc rfl (za rfl (zc rfl (za rfl (zc rfl (za rfl (zw rfl rfl (mvx rfl (za rfl (zc rfl (za rfl (zc rfl (za rfl (zc rfl (za rfl (zc rfl (za rfl (zc rfl (za rfl (zc rfl (za rfl (zw rfl rfl (rnx (yh rfl (srx (mvx rfl (avx rfl (avx rfl (anx rfl (zr (zn (zd (zd (zn ?_)))))))))))))))))))))))))))))))))))))))))))))))))))))))))
       refine zn (zd (zd (zn (zd (zq (rs := [.tmp 2, .tmp 3, .tmp 4]) (vs := [_, _, _]) rfl ⟨rfl, rfl, rfl, trivial⟩ ?_)))))
       exact ⟨by first | (rw [hgo, kl hf h1 hbn (jh hr (rgC_no (by unfold rgN; omega)))]; rfl) | (rw [hgo, kl hf h1 hbn (jh hr (rgC_tg (by simpa [yq] using t4)))]; rfl) | (rw [hgo, kl hf h1 hbn (jh hr (rgC_d (by simpa [yq] using t5)))]; rfl), (LW.step E XLW).toBelow⟩
      ·
       replace t2 := of_decide_eq_false t2
       refine onx rfl (zb Tryd.underlying51 rfl sz3 (by decide) rfl (onx rfl (zl Tryd.underlying3 rfl rfl Bb14 rfl (onx rfl (zb Tryd.underlying37 rfl sz34 (by decide) rfl (onx rfl (zl Tryd.underlying34 rfl rfl Bb5 rfl (onx rfl (vk Tryd.underlying34 rfl (onx rfl (qn rfl rfl (za rfl (ya rfl rfl (mvx rfl (yo 72 rfl (fun t3 => ?_) (fun t3 => ?_))))))))))))))))
       ·
        replace t3 := of_decide_eq_true t3
        refine za rfl (zc rfl (za rfl (zc rfl (za rfl (zc rfl (za rfl (zc rfl (za rfl (zc rfl (za rfl (zc rfl (za rfl (zc rfl (za rfl (zw rfl rfl (mvx rfl (za rfl (zc rfl (za rfl (zc rfl (za rfl (zc rfl (za rfl (zc rfl (za rfl (zc rfl (za rfl (zc rfl (za rfl (zw rfl rfl (rnx (yh rfl (srx (mvx rfl (avx rfl (avx rfl (anx rfl (zr (zn (zd (zd (zn (zn (zd (zd (zn (zd (zq (rs := [.tmp 2, .tmp 3, .tmp 4]) (vs := [_, _, _]) rfl ⟨rfl, rfl, rfl, trivial⟩ ?_))))))))))))))))))))))))))))))))))))))))))))))))
        exact ⟨by first | (rw [hgo, kl hf h1 hbn (jh hr (rgC_no (by unfold rgN; omega)))]; rfl) | (rw [hgo, kl hf h1 hbn (jh hr (rgC_tg (by simpa [yq] using t4)))]; rfl) | (rw [hgo, kl hf h1 hbn (jh hr (rgC_d (by simpa [yq] using t5)))]; rfl), (LW.step E XLW).toBelow⟩
       ·
        replace t3 := of_decide_eq_false t3
        refine onx rfl (zb Tryd.underlying51 rfl sz3 (by decide) rfl (onx rfl (zl Tryd.underlying3 rfl rfl Bb14 rfl (onx rfl (zb Tryd.underlying37 rfl sz34 (by decide) rfl (onx rfl (zl Tryd.underlying34 rfl rfl Bb5 rfl (onx rfl (vk Tryd.underlying34 rfl (onx rfl (zz en15 rfl ((zbk _ true r.tg (((f.ins.length : Nat)) : Int)).mono ?_))))))))))))
        rintro e w17 ⟨rfl, hb⟩;refine ⟨_, rfl, ?_⟩;have Ec := Ext.of_below hb No;replace Bb14 := Bb14.extN Ec NotIn.nil;replace Bb5 := Bb5.extN Ec NotIn.nil;replace E := E.trans Ec.no;refine onx rfl (vp rfl (za rfl (ya rfl rfl (mvx rfl (yo 81 rfl (fun t4 => ?_) (fun t4 => ?_))))))
        ·
         refine za rfl (zc rfl (za rfl (zc rfl (za rfl (zc rfl (za rfl (zc rfl (za rfl (zc rfl (za rfl (zc rfl (za rfl (zw rfl rfl (rnx (yh rfl (srx (mvx rfl (avx rfl (avx rfl (anx rfl (zr (zn (zd (zd (zn (zn (zd (zd (zn (zd (zq (rs := [.tmp 2, .tmp 3, .tmp 4]) (vs := [_, _, _]) rfl ⟨rfl, rfl, rfl, trivial⟩ ?_)))))))))))))))))))))))))))))))
         exact ⟨by first | (rw [hgo, kl hf h1 hbn (jh hr (rgC_no (by unfold rgN; omega)))]; rfl) | (rw [hgo, kl hf h1 hbn (jh hr (rgC_tg (by simpa [yq] using t4)))]; rfl) | (rw [hgo, kl hf h1 hbn (jh hr (rgC_d (by simpa [yq] using t5)))]; rfl), (LW.step E XLW).toBelow⟩
        ·
         refine onx rfl (zb Tryd.underlying51 rfl sz3 (by decide) rfl (onx rfl (zl Tryd.underlying3 rfl rfl Bb14 rfl (onx rfl (zb Tryd.underlying37 rfl sz3 (by decide) rfl (onx rfl (zl Tryd.underlying3 rfl rfl Bb5 rfl (onx rfl (zz en15 rfl ((zbk _ true r.d f.regs).mono ?_))))))))));rintro e w18 ⟨rfl, hb⟩;refine ⟨_, rfl, ?_⟩
         have Ec := Ext.of_below hb No;replace Bb14 := Bb14.extN Ec NotIn.nil;replace Bb5 := Bb5.extN Ec NotIn.nil;replace E := E.trans Ec.no;refine onx rfl (vp rfl (za rfl (ya rfl rfl (rnx (zt rfl (fun t5 => ?_) (fun t5 => ?_))))))
         ·
          refine zu 88 (.bool true) rfl (congrArg Value.bool t5) (srx (mvx rfl (avx rfl (avx rfl (anx rfl (zr (zn (zd (zd (zn (zn (zd (zd (zn (zd (zq (rs := [.tmp 2, .tmp 3, .tmp 4]) (vs := [_, _, _]) rfl ⟨rfl, rfl, rfl, trivial⟩ ?_))))))))))))))))
          exact ⟨by first | (rw [hgo, kl hf h1 hbn (jh hr (rgC_no (by unfold rgN; omega)))]; rfl) | (rw [hgo, kl hf h1 hbn (jh hr (rgC_tg (by simpa [yq] using t4)))]; rfl) | (rw [hgo, kl hf h1 hbn (jh hr (rgC_d (by simpa [yq] using t5)))]; rfl), (LW.step E XLW).toBelow⟩
         ·
          refine zu 88 (.bool false) rfl (congrArg Value.bool t5) (zj (zm (ze (zi (za rfl (yg rfl rfl (zp (by omega)) (mvx rfl (yf ?_))))))))
          exact yl (j + 1) (by show f.rgs.length - (j + 1) < f.rgs.length - j; omega) ⟨rfl, rfl, rfl, rfl, rfl, rfl, rfl, rfl, rfl, trivial⟩ ⟨M12.step E XM12, (by exact Bb5), ⟨by omega, znk hr hall (rgC_ok (by omega) (by omega) (by omega) (by simpa [yq] using t4) (by simpa [yq] using t5))⟩⟩
    ·
     have q3 := of_decide_eq_false q3;refine yn (zh (zh (zv (zm (ze (zi (za rfl (yg rfl rfl (zp (by omega)) (mvx rfl (yf ?_))))))))))
     exact yl (k + 1) (by show fs.length - (k + 1) < fs.length - k; omega) ⟨rfl, rfl, rfl, rfl, trivial⟩ ⟨M3.step E XM3, ⟨by omega, by rw [hgo, go_step hf h1 hbn (zvv hall (by omega))]⟩⟩
  ·
   have h1 := Bool.eq_false_iff.2 h1;refine zu 31 (.bool true) rfl ((by rw [h1]; rfl : (.bool (!(gj f k)) : Value) = _)) (yh rfl (srx (mvx rfl (avx rfl (avx rfl (anx rfl (zr (zd (zn (zd (zd (zn (zd (zq (rs := [.tmp 2, .tmp 3, .tmp 4]) (vs := [_, _, _]) rfl ⟨rfl, rfl, rfl, trivial⟩ ?_))))))))))))))
   exact ⟨by rw [hgo, go_head hf h1]; rfl, (LW.step E XLW).toBelow⟩
 ·
  have q := of_decide_eq_false q;refine yn (zh (zh (zv (ze (srx (avx rfl (avx rfl (anx rfl (zr (zq (rs := [.tmp 2, .tmp 3, .tmp 4]) (vs := [_, _, _]) rfl ⟨rfl, rfl, rfl, trivial⟩ ?_))))))))));exact ⟨by rw [hgo, go_end (by omega)]; rfl, (LW.step E XLW).toBelow⟩
end
end Go.Proofs.YtmjemknimipnjaaDoor
namespace Go.Proofs.YtmjemknimipnjaaDoor
open Go.RowKit
set_option maxRecDepth 100000
local instance decI (x : Int) : Decidable (I64 x) := by unfold I64; infer_instance
def oneI : LIns := ⟨41, 0, 0, 0, 0, 0, []⟩
def oneF : LFn := ⟨⟨#[]⟩, 0, 1, 0, false, 0, [], [], [oneI], []⟩
def oneP (g : Nat) : Pl := ⟨none, 0, none, 0, some ⟨g, 0, none⟩, 1, none, 0⟩
theorem check_one : go [oneF] = (0, 0, 0) := by
 have h : gj oneF 0 = true := by rw [zik]; rfl
 have h2 : gu [oneF] oneF 0 oneF.ins = none := by decide +kernel
 rw [checkC_go (by decide)];exact (go_step (fs := [oneF]) (k := 0) rfl h h2 rfl).trans (go_end (by decide))
theorem check_nil : go [] = (-1, -1, 3) := yaq (by decide)
theorem one_fs {w : World} {g6 g8 : Nat} (h6 : Blk w g6 40 #[.int .i64 41, .int .i64 0, .int .i64 0, .int .i64 0, .int .i64 0, .int .i64 0, .slice none 0 0]) (h8 : Blk w g8 37 (fnC (oneP g6) oneF).toArray) : FsA w.heap.size w (some ⟨g8, 0, none⟩) [oneF] := by
 have hI : InsA w.heap.size w (some ⟨g6, 0, none⟩) [oneI] := by
  refine ⟨by decide, fun _ => ⟨g6, 0, rfl, h6.lt, fun j x hx => ?_⟩⟩;match j, hx with
  | 0, hx =>
   obtain rfl := Option.some.inj hx;refine ⟨⟨by decide, by decide, by decide, by decide, by decide, by decide⟩, none, 0, by decide, ⟨by decide, fun x h => (by cases h), fun h => absurd rfl h⟩, fun i v hv => ?_⟩;show w.cell? ⟨g6, 0 + 0 * 7 + i, none⟩ = _
   rw [show 0 + 0 * 7 + i = i by omega, h6.cell, List.getElem?_toArray];exact hv
  | j + 1, hx => cases hx
 have hF : FnA w.heap.size w (oneP g6) oneF := ⟨by decide, by decide, by decide, by decide, by decide, ⟨by decide, fun x h => (by cases h), fun h => absurd rfl h⟩, ⟨by decide, fun x h => (by cases h), fun h => absurd rfl h⟩, hI, ⟨by decide, fun x h => (by cases h), fun h => absurd rfl h⟩, Nat.le_refl _⟩;refine ⟨by decide, fun _ => ⟨g8, 0, rfl, h8.lt, fun j x hx => ?_⟩, fun f hf c hc => ?_⟩
 · match j, hx with
   | 0, hx =>
    obtain rfl := Option.some.inj hx;refine ⟨oneP g6, hF, fun i v hv => ?_⟩;show w.cell? ⟨g8, 0 + 0 * 10 + i, none⟩ = _
    rw [show 0 + 0 * 10 + i = i by omega, h8.cell, List.getElem?_toArray];exact hv
   | j + 1, hx => cases hx
 · obtain rfl := List.mem_singleton.1 hf;cases hc
theorem no_fs (w : World) : FsA w.heap.size w none [] := ⟨by decide, fun h => absurd rfl h, fun f hf => (by cases hf)⟩
theorem ints_blk {w : World} {g n : Nat} {xs : List Int} (hb : Blk w g 3 (vd xs).toArray) (hg : g < n) (hl : 8 * xs.length ≤ 140737488355000) (hi : ∀ x ∈ xs, I64 x) : IntsA n w (some ⟨g, 0, none⟩) xs :=
 ⟨hl, hi, fun _ => ⟨g, 0, rfl, hg, fun j x hx => by
  show w.cell? ⟨g, 0 + j * 1, none⟩ = _
  rw [hb.cell, List.getElem?_toArray, Nat.zero_add, Nat.mul_one];unfold vd;rw [List.getElem?_map, hx]; rfl⟩⟩
theorem i64_three : ∀ x ∈ [(2 : Int), 3, 2], I64 x := by decide
theorem i64_two : ∀ x ∈ [(3 : Int), 2], I64 x := by decide
def readI : LIns := ⟨21, 1, 2, 0, 0, 0, [3, 2]⟩
theorem yek : qu readI = [2, 3, 2] := by decide +kernel
attribute [local irreducible] OW RS
theorem fill1x10 (a0 a1 a2 a3 a4 a5 a6 a7 a8 a9 : Value) : Instr.fill (fun i => some (i * 10, 10)) ((Array.range (1 * 10)).map ((if 1 * 10 = 0 then #[] else (Value.agg #[.string ⟨#[]⟩, .int .i64 0, .int .i64 0, .int .i64 0, .bool false, .int .i64 0, .slice none 0 0, .slice none 0 0, .slice none 0 0, .slice none 0 0]).cells)[· % (if 1 * 10 = 0 then #[] else (Value.agg #[.string ⟨#[]⟩, .int .i64 0, .int .i64 0, .int .i64 0, .bool false, .int .i64 0, .slice none 0 0, .slice none 0 0, .slice none 0 0, .slice none 0 0]).cells).size]!)) [(0, .agg #[a0, a1, a2, a3, a4, a5, a6, a7, a8, a9])] = some #[a0, a1, a2, a3, a4, a5, a6, a7, a8, a9] := by
 rw [qy];kernel_rfl
set_option maxHeartbeats 2000000 in
theorem known_any (w : World) {bp op cp bf of cf bl ol cl : Nat} (hT : Tabs bp op cp bf of cf bl ol cl w) (hE : ∃ te pe, w.cell? ⟨2, 0, none⟩ = some (.iface te pe)) : Calls Tryd.prog 6 #[] w fun e w' => e = .returned (.bool true) ∧ Below w.heap.size w w' := by
 obtain ⟨te, pe, hE⟩ := hE;refine yk Tryd.func6 rfl Tryd.ntmps6 rfl ?_;have HF : Per (No) w (fun _ => True) := Per.true_;have LW := erx (No) w;have XLW := grx (No) w;have E := erx (No) w;replace HF := HF.on E;replace LW := LW.step E XLW;replace E := erx (No) w;replace HF := HF.and (Per.tabs hT (fun _ h => h.elim));replace HF := HF.on E;replace LW := LW.step E XLW;replace E := erx (No) w
 replace HF := HF.and (Per.cellA hE (fun _ h => h.elim));refine srx (anx rfl (srx (za rfl (qg (cs := #[.int .i64 3, .int .i64 2]) Tryd.underlying38 sz3 zr3 (by decide) rfl (by rw [qy]; rfl) ?_))));intro gb1 w2 Bb1 Eb1 Gb1;have Gb1 : _ ≤ gb1 := Nat.le_trans E.size Gb1;have GLb1 := Nat.le_trans LW.size Gb1;replace E := E.trans Eb1.no;replace HF := HF.cons (yb Gb1)
 replace E := E.cons (some gb1);replace XLW := Mut.grow XLW (fun k e => Or.inr (Nat.le_trans LW.size ((yb Gb1) k e)));replace HF := HF.on E;replace LW := LW.step E XLW;have SB : ∀ q9, No q9 → Mut [(some gb1)] q9 := (Mut.skip Mut.nil_);replace HF := HF.less SB;replace XLW := fun k h => XLW k (SB k h);clear SB;replace E := erx (No) w2;replace HF := HF.and (Per.blkN Bb1 NotIn.nil)
 refine za rfl (jf (cs := #[.int .i64 21, .int .i64 1, .int .i64 2, .int .i64 0, .int .i64 0, .int .i64 0, .slice (some ⟨gb1, 0, none⟩) 2 2]) pl40 zr40 rfl rfl (za rfl (vv zr40 ?_)));intro gb3 w4 Bb3 Eb3 Gb3;have Gb3 : _ ≤ gb3 := Nat.le_trans E.size Gb3;have GLb3 := Nat.le_trans LW.size Gb3;replace E := E.trans Eb3.no;replace HF := HF.cons (yb Gb3)
 replace E := E.cons (some gb3);replace XLW := Mut.grow XLW (fun k e => Or.inr (Nat.le_trans LW.size ((yb Gb3) k e)));refine qe (xz sz40 rfl rfl Bb3 rfl rfl rfl ?_);intro w5 Bx Eb3;replace Bb3 : Blk w5 gb3 40 #[.int .i64 21, .int .i64 1, .int .i64 2, .int .i64 0, .int .i64 0, .int .i64 0, .slice (some ⟨gb1, 0, none⟩) 2 2] := Bx;replace E := E.step1 Eb3 Mut.head
 replace HF := HF.on E;replace LW := LW.step E XLW;have SB : ∀ q9, No q9 → Mut [(some gb3)] q9 := (Mut.skip Mut.nil_);replace HF := HF.less SB;replace XLW := fun k h => XLW k (SB k h);clear SB;replace E := erx (No) w5;replace HF := HF.and (Per.blkN Bb3 NotIn.nil)
 refine rnx (srx (za rfl (jf (cs := #[.int .i64 41, .int .i64 0, .int .i64 0, .int .i64 0, .int .i64 0, .int .i64 0, .slice none 0 0]) pl40 zr40 rfl rfl (za rfl (qg (cs := #[.int .i64 41, .int .i64 0, .int .i64 0, .int .i64 0, .int .i64 0, .int .i64 0, .slice none 0 0]) Tryd.underlying34 sz40 zr40 (by decide) rfl (by rw [qy]; rfl) ?_)))));intro gb6 w7 Bb6 Eb6 Gb6
 have Gb6 : _ ≤ gb6 := Nat.le_trans E.size Gb6;have GLb6 := Nat.le_trans LW.size Gb6;replace E := E.trans Eb6.no;replace HF := HF.cons (yb Gb6);replace E := E.cons (some gb6);replace XLW := Mut.grow XLW (fun k e => Or.inr (Nat.le_trans LW.size ((yb Gb6) k e)));replace HF := HF.on E;replace LW := LW.step E XLW;have SB : ∀ q9, No q9 → Mut [(some gb6)] q9 := (Mut.skip Mut.nil_)
 replace HF := HF.less SB;replace XLW := fun k h => XLW k (SB k h);clear SB;replace E := erx (No) w7;replace HF := HF.and (Per.blkN Bb6 NotIn.nil)
 refine za rfl (jf (cs := #[.string ⟨#[]⟩, .int .i64 0, .int .i64 1, .int .i64 0, .bool false, .int .i64 0, .slice none 0 0, .slice none 0 0, .slice (some ⟨gb6, 0, none⟩) 1 1, .slice none 0 0]) pl37 zr37 rfl rfl (za rfl (qg (cs := #[.string ⟨#[]⟩, .int .i64 0, .int .i64 1, .int .i64 0, .bool false, .int .i64 0, .slice none 0 0, .slice none 0 0, .slice (some ⟨gb6, 0, none⟩) 1 1, .slice none 0 0]) Tryd.underlying22 sz37 zr37 (by decide) rfl (fill1x10 (.string ⟨#[]⟩) (.int .i64 0) (.int .i64 1) (.int .i64 0) (.bool false) (.int .i64 0) (.slice none 0 0) (.slice none 0 0) (.slice (some ⟨gb6, 0, none⟩) 1 1) (.slice none 0 0)) ?_)))
 intro gb8 w9 Bb8 Eb8 Gb8;have Gb8 : _ ≤ gb8 := Nat.le_trans E.size Gb8;have GLb8 := Nat.le_trans LW.size Gb8;replace E := E.trans Eb8.no;replace HF := HF.cons (yb Gb8);replace E := E.cons (some gb8);replace XLW := Mut.grow XLW (fun k e => Or.inr (Nat.le_trans LW.size ((yb Gb8) k e)));replace HF := HF.on E;replace LW := LW.step E XLW
 have SB : ∀ q9, No q9 → Mut [(some gb8)] q9 := (Mut.skip Mut.nil_);replace HF := HF.less SB;replace XLW := fun k h => XLW k (SB k h);clear SB;replace E := erx (No) w9;replace HF := HF.and (Per.blkN Bb8 NotIn.nil);refine za rfl (jf (cs := #[.slice (some ⟨gb8, 0, none⟩) 1 1]) pl24 zr24 rfl rfl (za rfl (vv zr24 ?_)));intro gb10 w11 Bb10 Eb10 Gb10
 have Gb10 : _ ≤ gb10 := Nat.le_trans E.size Gb10;have GLb10 := Nat.le_trans LW.size Gb10;replace E := E.trans Eb10.no;replace HF := HF.cons (yb Gb10);replace E := E.cons (some gb10);replace XLW := Mut.grow XLW (fun k e => Or.inr (Nat.le_trans LW.size ((yb Gb10) k e)));refine qe (qv sz24 rfl rfl Bb10 rfl rfl (Nat.le_of_ble_eq_true rfl) ?_);intro w12 Bx Eb10;replace Bb10 := Bx
 replace E := E.step1 Eb10 Mut.head;replace HF := HF.on E;replace LW := LW.step E XLW;have SB : ∀ q9, No q9 → Mut [(some gb10)] q9 := (Mut.skip Mut.nil_);replace HF := HF.less SB;replace XLW := fun k h => XLW k (SB k h);clear SB;replace E := erx (No) w12;replace HF := HF.and (Per.blkN Bb10 NotIn.nil)
 refine rnx (srx (za rfl (jp Tryd.underlying24 rfl sz24 rfl (HF.on E).here.2 rfl (za rfl (zz en7 rfl ((yaz _ (some ⟨gb8, 0, none⟩) _ 1 [oneF] (one_fs (HF.on E).here.1.1.2 (HF.on E).here.1.2) (HF.on E).here.1.1.1.1.1.1.2 ⟨te, pe, (HF.on E).here.1.1.1.1.1.2⟩).mono ?_))))));rintro e w13 ⟨rfl, hb⟩;refine ⟨_, rfl, ?_⟩;replace E := blx E hb
 refine ye 18 (.tuple #[.int .i64 0, .int .i64 0, .int .i64 0]) rfl ((by rw [check_one]; rfl : (res3 (go [oneF]) : Value) = _)) (mvx rfl (za rfl (yc rfl rfl (za rfl (yc rfl rfl (za rfl (yc rfl rfl (avx rfl (avx rfl (anx rfl (srx (za rfl (jf (cs := #[.slice none 0 0]) pl24 zr24 rfl rfl (za rfl (zz en7 rfl ((yaz _ none _ 0 [] (no_fs _) (HF.on E).here.1.1.1.1.1.1.2 ⟨te, pe, (HF.on E).here.1.1.1.1.1.2⟩).mono ?_))))))))))))))))
 rintro e w14 ⟨rfl, hb⟩;refine ⟨_, rfl, ?_⟩;replace E := blx E hb
 refine ye 24 (.tuple #[.int .i64 (-1), .int .i64 (-1), .int .i64 3]) rfl ((by rw [check_nil]; rfl : (res3 (go []) : Value) = _)) (mvx rfl (za rfl (yc rfl rfl (za rfl (yc rfl rfl (za rfl (yc rfl rfl (avx rfl (avx rfl (anx rfl (srx (za rfl (jp Tryd.underlying40 rfl sz40 rfl (HF.on E).here.1.1.1.2 rfl (za rfl (zz en9 rfl ((reads_any _ readI (some ⟨gb1, 0, none⟩) 2 _ (ints_blk (xs := [3, 2]) (HF.on E).here.1.1.1.1.2 ((HF.on E).here.1.1.1.1.2).lt (by decide) i64_two) (Nat.le_refl _)).mono ?_))))))))))))))))
 rintro e w15 ⟨A1, c1, rfl, o1, hb⟩;refine ⟨_, rfl, ?_⟩;replace E := blx E hb;have hi1 := OwnsI.ints o1 (by rw [yek]; decide) (by rw [yek]; exact i64_three);rw [yek] at hi1;refine ye 29 (.slice A1 [(2 : Int), 3, 2].length c1) rfl ((by rw [yek] : (.slice A1 (qu readI).length c1 : Value) = _)) ?_;replace HF := HF.on E;replace LW := LW.step E XLW;replace E := erx (No) w15
 replace HF := HF.and (Per.ints hi1 (fun _ h => h.elim));refine za rfl (qg (cs := #[.int .i64 2, .int .i64 3, .int .i64 2]) Tryd.underlying38 sz3 zr3 (by decide) rfl (by rw [qy]; rfl) ?_);intro gb16 w17 Bb16 Eb16 Gb16;have Gb16 : _ ≤ gb16 := Nat.le_trans E.size Gb16;have GLb16 := Nat.le_trans LW.size Gb16;replace E := E.trans Eb16.no;replace HF := HF.cons (yb Gb16)
 replace E := E.cons (some gb16);replace XLW := Mut.grow XLW (fun k e => Or.inr (Nat.le_trans LW.size ((yb Gb16) k e)));replace HF := HF.on E;replace LW := LW.step E XLW;have SB : ∀ q9, No q9 → Mut [(some gb16)] q9 := (Mut.skip Mut.nil_);replace HF := HF.less SB;replace XLW := fun k h => XLW k (SB k h);clear SB;replace E := erx (No) w17;replace HF := HF.and (Per.blkN Bb16 NotIn.nil)
 refine za rfl (zz en12 rfl ((same_ints _ A1 (some ⟨gb16, 0, none⟩) c1 3 _ _ [2, 3, 2] (HF.on E).here.1.2 (ints_blk (xs := [2, 3, 2]) (HF.on E).here.2 ((HF.on E).here.2).lt (by decide) i64_three)).mono ?_));rintro e w18 ⟨rfl, hb⟩;refine ⟨_, rfl, ?_⟩;replace E := blx E hb
 refine mvx rfl (onx rfl (zo rfl (onx rfl (yd rfl rfl (za rfl (zw rfl rfl (mvx rfl (onx rfl (zo rfl (onx rfl (yd rfl rfl (za rfl (zw rfl rfl (mvx rfl (onx rfl (zo rfl (onx rfl (yd rfl rfl (za rfl (zw rfl rfl (mvx rfl (onx rfl (zo rfl (onx rfl (yd rfl rfl (za rfl (zw rfl rfl (anx rfl (zr (zq (rs := [.tmp 0]) (vs := [_]) rfl ⟨rfl, trivial⟩ ?_))))))))))))))))))))))))))))))
 exact ⟨rfl, (LW.step E XLW).toBelow⟩
end Go.Proofs.YtmjemknimipnjaaDoor
namespace Go.Proofs.YtmjemknimipnjaaDoor
open Go.RowKit
set_option maxRecDepth 100000
attribute [local irreducible] OW RS
theorem Per.cellsR {X : Nat → Prop} {w : World} {n g o : Nat} {cs : List Value} (h : xc w g o cs) (hg : g < n) (hX : ∀ k, X k → n ≤ k) : Per X w (fun b => xc b g o cs) := fun _ hb => Low.cells ⟨hb, hX⟩ hg h
set_option maxHeartbeats 1000000 in
theorem within_law (w : World) {bp op cp bf of cf bl ol cl : Nat} (A : Option Addr) (n ca : Nat) (fs : List LFn) (hfs : FsA n w A fs) (hn : n ≤ w.heap.size) (hT : Tabs bp op cp bf of cf bl ol cl w) (hE : ∃ te pe, w.cell? ⟨2, 0, none⟩ = some (.iface te pe)) : Calls Tryd.prog 4 #[.agg #[.slice A fs.length ca]] w fun e w' => e = .returned (.bool true) ∧ Below w.heap.size w w' := by
 obtain ⟨te, pe, hE⟩ := hE;have hfl := hfs.len;refine yk Tryd.func4 rfl Tryd.ntmps4 rfl ?_;have HF : Per (No) w (fun _ => True) := Per.true_;have LW := erx (No) w;have XLW := grx (No) w;have E := erx (No) w;replace HF := HF.on E;replace LW := LW.step E XLW;replace E := erx (No) w;replace HF := HF.and (Per.fsA hfs (fun _ h => h.elim));replace HF := HF.on E;replace LW := LW.step E XLW
 replace E := erx (No) w;replace HF := HF.and (Per.tabs hT (fun _ h => h.elim));replace HF := HF.on E;replace LW := LW.step E XLW;replace E := erx (No) w;replace HF := HF.and (Per.cellA hE (fun _ h => h.elim));refine srx (za rfl (jv rfl ?_));intro gb1 w2 Bb1 Eb1 Gb1;have Gb1 : _ ≤ gb1 := Nat.le_trans E.size Gb1;have GLb1 := Nat.le_trans LW.size Gb1;replace E := E.trans Eb1.no
 replace HF := HF.cons (yb Gb1);replace E := E.cons (some gb1);replace XLW := Mut.grow XLW (fun k e => Or.inr (Nat.le_trans LW.size ((yb Gb1) k e)));replace HF := HF.on E;replace LW := LW.step E XLW;have SB : ∀ q9, No q9 → Mut [(some gb1)] q9 := (Mut.skip Mut.nil_);replace HF := HF.less SB;replace XLW := fun k h => XLW k (SB k h);clear SB;replace E := erx (No) w2
 replace HF := HF.and (Per.blkN Bb1 NotIn.nil);refine anx rfl (zf (srx (za rfl (zz en6 rfl ((known_any _ (HF.on E).here.1.1.2 ⟨te, pe, (HF.on E).here.1.2⟩).mono ?_)))));rintro e w3 ⟨rfl, hb⟩;refine ⟨_, rfl, ?_⟩;replace E := blx E hb
 refine za rfl (vp rfl (rnx (zy rfl (zj (ze (srx (za rfl (jp Tryd.underlying24 rfl sz24 rfl (HF.on E).here.2 rfl (za rfl (zz en7 rfl ((yaz _ A n ca fs (HF.on E).here.1.1.1.2 (HF.on E).here.1.1.2 ⟨te, pe, (HF.on E).here.1.2⟩).mono ?_)))))))))));rintro e w4 ⟨rfl, hb⟩;refine ⟨_, rfl, ?_⟩;replace E := blx E hb
 refine mvx rfl (za rfl (yc rfl rfl (za rfl (yc rfl rfl (za rfl (yc rfl rfl (avx rfl (avx rfl (anx rfl (zf (srx (mvx rfl (za rfl (qm rfl rfl (rnx ?_)))))))))))))));by_cases hz : (go fs).2.2 = 0
 ·
  refine zu 22 (.bool false) rfl ((by rw [hz]; rfl : (.bool ((go fs).2.2 != 0) : Value) = _)) ?_;obtain ⟨hf1, hf4, hform⟩ := check_form hz;refine zy rfl (zj (ze (zf (srx (anx rfl (zx ?_))))));replace HF := HF.on E;replace LW := LW.step E XLW;replace E := erx (No) w4
  refine qk (ι := Nat) (fun k => [(1, .pointer (some ⟨gb1, 0, none⟩)), (6, .int .i64 ((k : Nat) : Int))]) (fun k w' => Ext (No) w4 w' ∧ (k ≤ fs.length)) (fun k => fs.length - k) 0 ⟨rfl, rfl, trivial⟩ ⟨Ext.refl _ _, Nat.zero_le _⟩ ?_;rintro k w6 ⟨M5, hk⟩;have XM5 := grx (No) w4;replace E := E.trans M5;replace HF := HF.on E;replace LW := LW.step E XLW;replace E := erx (No) w6
  refine zf (srx (mvx rfl (za rfl (zb Tryd.underlying24 rfl sz22 (by decide) rfl (za rfl (zl Tryd.underlying22 rfl rfl (HF.on E).here.2 rfl (za rfl (vk Tryd.underlying22 rfl (za rfl (yt rfl rfl (rnx (zt rfl (fun q => ?_) (fun q => ?_)))))))))))))
  ·
   have q := of_decide_eq_true q;have hlt : k < fs.length := by omega
   obtain ⟨f, hf⟩ : ∃ f, fs[k]? = some f := ⟨_, List.getElem?_eq_getElem hlt⟩;obtain ⟨g, o, p, hA, hg, hF, hc⟩ := ((HF.on E).here.1.1.1.2).at hf;have hil := hF.ins.len;have hri := hF.regs;have hfm := hform k f hf;replace HF := HF.on E;replace LW := LW.step E XLW;replace M5 := M5.step E XM5;replace E := erx (No) w6;replace HF := HF.and (Per.fnA hF (fun _ h => h.elim))
   refine zj (ze (zf (zx (srx (za rfl (zb Tryd.underlying24 rfl sz22 (by decide) rfl (za rfl (zl Tryd.underlying22 rfl rfl (HF.on E).here.1.2 rfl (mvx rfl (za rfl (qj (j := k) Tryd.underlying22 sz37 (congrArg (fun z ↦ some (Value.slice z fs.length ca)) hA) rfl rfl hlt (za rfl (xq (cs := (fnC p f).toArray) Tryd.underlying37 rfl sz37 rfl rfl (fun j v hj ↦ hc j v (by simpa using hj)) (za rfl (vv zr37 ?_)))))))))))))))
   intro gb7 w8 Bb7 Eb7 Gb7;have Gb7 : _ ≤ gb7 := Nat.le_trans E.size Gb7;have GLb7 := Nat.le_trans LW.size Gb7;replace E := E.trans Eb7.no;replace HF := HF.cons (yb Gb7);replace E := E.cons (some gb7);replace XLW := Mut.grow XLW (fun k e => Or.inr (Nat.le_trans LW.size ((yb Gb7) k e)));replace XM5 := Mut.grow XM5 (fun k e => Or.inr (Nat.le_trans M5.size ((yb Gb7) k e)))
   refine qe (xz sz37 rfl rfl Bb7 rfl rfl rfl ?_);intro w9 Bx Eb7;replace Bb7 : Blk w9 gb7 37 #[.string f.name, .int .i64 f.params, .int .i64 f.regs, .int .i64 f.frees, .bool f.gen, .int .i64 f.bound, .slice p.an f.names.length p.cn, .slice p.ac f.consts.length p.cc, .slice p.ai f.ins.length p.ci, .slice p.ar f.rgs.length p.cr] := Bx;replace E := E.step1 Eb7 Mut.head
   refine rnx (srx (anx rfl (zx ?_)));replace HF := HF.on E;replace LW := LW.step E XLW;replace M5 := M5.step E XM5;have SB : ∀ q9, No q9 → Mut [(some gb7)] q9 := (Mut.skip Mut.nil_);replace HF := HF.less SB;replace XLW := fun k h => XLW k (SB k h);replace XM5 := fun k h => XM5 k (SB k h);clear SB;replace E := erx (No) w9;replace HF := HF.and (Per.blkN Bb7 NotIn.nil);replace HF := HF.on E
   replace LW := LW.step E XLW;replace M5 := M5.step E XM5;replace E := erx (No) w9
   refine qk (ι := Nat) (fun m => [(1, .pointer (some ⟨gb1, 0, none⟩)), (6, .int .i64 ((k : Nat) : Int)), (7, .pointer (some ⟨gb7, 0, none⟩)), (8, .int .i64 ((m : Nat) : Int))]) (fun m w' => Ext (No) w9 w' ∧ (m ≤ f.ins.length)) (fun m => f.ins.length - m) 0 ⟨rfl, rfl, rfl, rfl, trivial⟩ ⟨Ext.refl _ _, Nat.zero_le _⟩ ?_;rintro m w11 ⟨M10, hm⟩;have XM10 := grx (No) w9
   replace E := E.trans M10;replace HF := HF.on E;replace LW := LW.step E XLW;replace M5 := M5.step E XM5;replace E := erx (No) w11
   refine zf (srx (mvx rfl (za rfl (zb Tryd.underlying37 rfl sz34 (by decide) rfl (za rfl (zl Tryd.underlying34 rfl rfl (HF.on E).here.2 rfl (za rfl (vk Tryd.underlying34 rfl (za rfl (yt rfl rfl (rnx (zt rfl (fun q2 => ?_) (fun q2 => ?_)))))))))))))
   ·
    have q2 := of_decide_eq_true q2;obtain ⟨x, hx⟩ : ∃ x, f.ins[m]? = some x := ⟨_, List.getElem?_eq_getElem (by omega)⟩;obtain ⟨g2, o2, hA2, hg2, hI, B, cB, hcB, hl, hcells⟩ := ((HF.on E).here.1.2).ins.row.at hx;have hw := ins_within (hfm.ins m x hx) (by omega) (by omega);have hll := hl.len;have hrw := rw_len (i := x);have hgl := goes_len x ((m : Nat) : Int);have hri64 := reads_i64 hI hl
    have hwi64 := writes_i64' hI hl;have hin : ∀ y ∈ qu x ++ qf x, 0 ≤ y ∧ y < f.regs := fun y hy => (List.mem_append.1 hy).elim (hw.reads y) (hw.writes y);have hw2 := writes_len (i := x) hl;replace HF := HF.on E;replace LW := LW.step E XLW;replace M5 := M5.step E XM5;replace M10 := M10.step E XM10;replace E := erx (No) w11;replace HF := HF.and (Per.ints hl (fun _ h => h.elim))
    replace HF := HF.on E;replace LW := LW.step E XLW;replace M5 := M5.step E XM5;replace M10 := M10.step E XM10;replace E := erx (No) w11;replace HF := HF.and (Per.cellsR hcells hg2 (fun _ h => h.elim));have HFs := HF;have SLW := LW;have SXLW := XLW;have SM5 := M5;have SXM5 := XM5;have SM10 := M10;have SXM10 := XM10;have Es := E;have hB0 := E.size
    obtain ⟨N0, hN0⟩ : ∃ N0, N0 = w11.heap.size := ⟨_, rfl⟩;refine zj (ze (zf (zx (zf ?_))));have OY : ∀ q9, (Mut (kx [])) q9 → q9 < (World.drew w11).heap.size → (No) q9 := fun k h _ => (Mut.none_) k h;refine cw_any mixed (ak_cut 12 rfl ?_);refine aw_drawn (No) Mut.none_ [] [] (xx [Fx.of (.pointer (some ⟨gb7, 8, none⟩)),
     Fx.of (.slice p.ai f.ins.length p.ci),
     Fx.of (.int .i64 ((m : Nat) : Int)),
     Fx.of (.pointer (some ⟨g2, o2 + m * 7, none⟩)),
     Fx.of (.agg #[.int .i64 x.op, .int .i64 x.d, .int .i64 x.a, .int .i64 x.b, .int .i64 x.t, .int .i64 x.k, .slice B x.l.length cB]),
     ⟨(Option Addr × Nat), fun (A1, c1) => .slice A1 (qu x).length c1, fun (A1, c1) b => (OwnsI b w.heap.size A1 c1 (qu x) ∧ ∀ k, (Value.slice A1 (qu x).length c1).ownBlock = some k → N0 ≤ k)⟩,
     Fx.of (.pointer (some ⟨gb7, 8, none⟩)),
     Fx.of (.slice p.ai f.ins.length p.ci),
     Fx.of (.int .i64 ((m : Nat) : Int)),
     Fx.of (.pointer (some ⟨g2, o2 + m * 7, none⟩)),
     Fx.of (.agg #[.int .i64 x.op, .int .i64 x.d, .int .i64 x.a, .int .i64 x.b, .int .i64 x.t, .int .i64 x.k, .slice B x.l.length cB]),
     ⟨(Option Addr × Nat), fun (A2, c2) => .slice A2 (qf x).length c2, fun (A2, c2) b => (OwnsI b w.heap.size A2 c2 (qf x))⟩]) rfl trivial (fun _ h => by cases h) ?_ ?_
    · refine ⟨?_, ?_, ?_, ?_, ?_, ?_, ?_, ?_, ?_, ?_, ?_, ?_, trivial⟩
      · intro vs X wq K;exact zb Tryd.underlying37 rfl sz34 (by decide) rfl ⟨Below.refl _ _, Left.of rfl⟩
      · intro vs X wq K;have LE := K.1;obtain ⟨_, e0, k0⟩ := K.dep 0 rfl rfl rfl;refine zg 44 (.pointer (some ⟨gb7, 8, none⟩)) rfl e0 ?_;exact zl Tryd.underlying34 rfl rfl (HF.on (E.drew.trans (LE.mono OY))).here.1.1.2 rfl ⟨Below.refl _ _, Left.of rfl⟩
      · intro vs X wq K;exact zo rfl ⟨Below.refl _ _, Left.of rfl⟩
      · intro vs X wq K;obtain ⟨_, e1, k1⟩ := K.dep 1 rfl rfl rfl;refine zg 45 (.slice p.ai f.ins.length p.ci) rfl e1 ?_;obtain ⟨_, e2, k2⟩ := K.dep 2 rfl rfl rfl;refine zg 46 (.int .i64 ((m : Nat) : Int)) rfl e2 ?_;exact qj (j := m) Tryd.underlying34 sz40 (congrArg (fun z ↦ some (Value.slice z f.ins.length p.ci)) hA2) rfl rfl (by omega) ⟨Below.refl _ _, Left.of rfl⟩
      · intro vs X wq K;have LE := K.1;obtain ⟨_, e3, k3⟩ := K.dep 3 rfl rfl rfl;refine zg 47 (.pointer (some ⟨g2, o2 + m * 7, none⟩)) rfl e3 ?_;exact xq (cs := (insV x B cB).toArray) Tryd.underlying40 rfl sz40 rfl rfl (fun j v hj ↦ (HF.on (E.drew.trans (LE.mono OY))).here.2 j v (by simpa using hj)) ⟨Below.refl _ _, Left.of rfl⟩
      · intro vs X wq K;have LE := K.1;have XN := K.2.1;have SQ := Nat.le_trans LW.size (Nat.le_trans E.size LE.size);obtain ⟨_, e4, k4⟩ := K.dep 4 rfl rfl rfl
        refine zg 48 (.agg #[.int .i64 x.op, .int .i64 x.d, .int .i64 x.a, .int .i64 x.b, .int .i64 x.t, .int .i64 x.k, .slice B x.l.length cB]) rfl e4 (zz en9 rfl ((reads_any _ x B cB n (HF.on (E.drew.trans (LE.mono OY))).here.1.2 (Nat.le_trans hn SQ)).mono ?_));rintro e w2 ⟨A1, c1, rfl, o1, hb⟩
        exact ⟨_, rfl, hb, ⟨(A1, c1), rfl, (Per.ownsI o1 XN SQ).and (fun _ _ k hk => by rw [hN0]; exact Nat.le_trans LE.size (owns_ge o1 k hk))⟩⟩
      · intro vs X wq K;exact zb Tryd.underlying37 rfl sz34 (by decide) rfl ⟨Below.refl _ _, Left.of rfl⟩
      · intro vs X wq K;have LE := K.1;obtain ⟨_, e6, k6⟩ := K.dep 6 rfl rfl rfl;refine zg 50 (.pointer (some ⟨gb7, 8, none⟩)) rfl e6 ?_;exact zl Tryd.underlying34 rfl rfl (HF.on (E.drew.trans (LE.mono OY))).here.1.1.2 rfl ⟨Below.refl _ _, Left.of rfl⟩
      · intro vs X wq K;exact zo rfl ⟨Below.refl _ _, Left.of rfl⟩
      · intro vs X wq K;obtain ⟨_, e7, k7⟩ := K.dep 7 rfl rfl rfl;refine zg 51 (.slice p.ai f.ins.length p.ci) rfl e7 ?_;obtain ⟨_, e8, k8⟩ := K.dep 8 rfl rfl rfl;refine zg 52 (.int .i64 ((m : Nat) : Int)) rfl e8 ?_;exact qj (j := m) Tryd.underlying34 sz40 (congrArg (fun z ↦ some (Value.slice z f.ins.length p.ci)) hA2) rfl rfl (by omega) ⟨Below.refl _ _, Left.of rfl⟩
      · intro vs X wq K;have LE := K.1;obtain ⟨_, e9, k9⟩ := K.dep 9 rfl rfl rfl;refine zg 53 (.pointer (some ⟨g2, o2 + m * 7, none⟩)) rfl e9 ?_;exact xq (cs := (insV x B cB).toArray) Tryd.underlying40 rfl sz40 rfl rfl (fun j v hj ↦ (HF.on (E.drew.trans (LE.mono OY))).here.2 j v (by simpa using hj)) ⟨Below.refl _ _, Left.of rfl⟩
      · intro vs X wq K;have LE := K.1;have XN := K.2.1;have SQ := Nat.le_trans LW.size (Nat.le_trans E.size LE.size);obtain ⟨_, e10, k10⟩ := K.dep 10 rfl rfl rfl
        refine zg 54 (.agg #[.int .i64 x.op, .int .i64 x.d, .int .i64 x.a, .int .i64 x.b, .int .i64 x.t, .int .i64 x.k, .slice B x.l.length cB]) rfl e10 (zz en10 rfl ((writes_any _ x B cB n (HF.on (E.drew.trans (LE.mono OY))).here.1.2 (Nat.le_trans hn SQ)).mono ?_));rintro e w2 ⟨A2, c2, rfl, o2, hb⟩;exact ⟨_, rfl, hb, ⟨(A2, c2), rfl, Per.ownsI o2 XN SQ⟩⟩
    intro vs w12 LE AO AL AF AA;replace E := E.drew.trans (LE.mono OY);have Ed := E;obtain ⟨⟨A1, c1⟩, e5, k5⟩ := AL.2.2.2.2.2.1;obtain ⟨⟨A2, c2⟩, e11, k11⟩ := AL.2.2.2.2.2.2.2.2.2.2.2.1;replace HF := HF.on E;replace LW := LW.step E XLW;replace E := erx (No) w12
    replace HF := HF.and ((k5.map (fun _ h => h) : Per (No) w12 (fun b => OwnsI b w.heap.size A1 c1 (qu x) ∧ ∀ k, (Value.slice A1 (qu x).length c1).ownBlock = some k → N0 ≤ k)));replace HF := HF.on E;replace LW := LW.step E XLW;replace E := erx (No) w12;replace HF := HF.and ((k11.map (fun _ h => h) : Per (No) w12 (fun b => OwnsI b w.heap.size A2 c2 (qf x))))
    refine jg (τ := [(1, _), (6, _), (7, _), (8, _), (49, .slice A1 (qu x).length c1), (55, .slice A2 (qf x).length c2)]) ⟨rfl, rfl, rfl, rfl, congrArg some e5, congrArg some e11, trivial⟩ ?_;clear AL AF AA LE AO OY e5 e11 k5 k11;refine ew_ak (ak_of_rs (by kernel_rfl) (fun _ _ d_ _ _ h => by cases d_ <;> exact h) ?_);have o1 := ((HF.on E).here.1.2).1
    have n5 := ((HF.on E).here.1.2).2;have o2 := (HF.on E).here.2;have hSE := Nat.le_trans LW.size E.size;refine za rfl (vu (news := vd (qf x)) Tryd.underlying38 inf3 rfl (by decide) rfl o1 rfl ((OwnsI.ints o2 hw2 hwi64).reads (Nat.le_refl _)) zdz (by unfold maxLen; omega) (by omega) (by exact hSE) ?_);rintro v0 wD On En KN;obtain ⟨A3, c3, rfl⟩ := vm On
    have hEd : Ext No _ wD := Ext.step Ed En (fun i h => Or.inr (by
     rcases h with h | h
     · have := n5 i h.symm;omega
     · exact h.elim))
    have h3D : IntsA wD.heap.size wD A3 (qu x ++ qf x) := ints_app On (by rw [List.length_append]; omega) (fun y hy => (List.mem_append.1 hy).elim (hri64 y) (hwi64 y));replace HF := HFs;replace E : Ext No w11 wD := hEd;replace M10 := SM10;replace XM10 := SXM10;replace HF := HF.on E;replace M10 := M10.step E XM10;replace E := erx (No) wD
    replace HF := HF.and (Per.ints h3D (fun _ h => h.elim));have hlen3 : (qu x ++ qf x).length = (qu x).length + (qf x).length := List.length_append;refine anx rfl (zf (srx (anx rfl (zx ?_))));replace HF := HF.on E;replace M10 := M10.step E XM10;replace E := erx (No) wD
    refine qk (ι := Nat) (fun j => [(1, .pointer (some ⟨gb1, 0, none⟩)), (6, .int .i64 ((k : Nat) : Int)), (7, .pointer (some ⟨gb7, 0, none⟩)), (8, .int .i64 ((m : Nat) : Int)), (9, .slice A3 ((qu x).length + (qf x).length) c3), (10, .int .i64 ((j : Nat) : Int))]) (fun j w' => Ext (No) wD w' ∧ (j ≤ (qu x).length + (qf x).length)) (fun j => (qu x).length + (qf x).length - j) 0 ⟨rfl, rfl, rfl, rfl, rfl, rfl, trivial⟩ ⟨Ext.refl _ _, Nat.zero_le _⟩ ?_
    rintro j w14 ⟨M13, hj⟩;have XM13 := grx (No) wD;replace E := E.trans M13;replace HF := HF.on E;replace M10 := M10.step E XM10;replace E := erx (No) w14;refine zf (srx (mvx rfl (mvx rfl (za rfl (vk Tryd.underlying38 rfl (za rfl (yt rfl rfl (rnx (zt rfl (fun q3 => ?_) (fun q3 => ?_))))))))))
    ·
     have q3 := of_decide_eq_true q3;obtain ⟨y, hy⟩ : ∃ y, (qu x ++ qf x)[j]? = some y := ⟨_, List.getElem?_eq_getElem (by omega)⟩;obtain ⟨gy, oy, hAy, _, _⟩ := ((HF.on E).here.2).cell hy;have hyi := hin y (List.mem_of_getElem? hy);refine zj (ze (zf (zx (zf ?_))))
     have OY : ∀ q9, (Mut (kx [])) q9 → q9 < (World.drew w14).heap.size → (No) q9 := fun k h _ => (Mut.none_) k h;refine vj (No) Mut.none_ [] [] (xx [Fx.of (.slice A3 ((qu x).length + (qf x).length) c3),
      Fx.of (.int .i64 ((j : Nat) : Int)),
      Fx.of (.pointer (some ⟨gy, oy + j, none⟩)),
      Fx.of (.int .i64 y),
      Fx.of (.bool false),
      Fx.of (.bool false),
      Fx.of (.slice A3 ((qu x).length + (qf x).length) c3),
      Fx.of (.int .i64 ((j : Nat) : Int)),
      Fx.of (.pointer (some ⟨gy, oy + j, none⟩)),
      Fx.of (.int .i64 y),
      Fx.of (.pointer (some ⟨gb7, 2, none⟩)),
      Fx.of (.int .i64 f.regs),
      Fx.of (.bool false),
      Fx.of (.bool false)]) mixed rfl trivial (fun _ h => by cases h) ?_ ?_
     · refine ⟨?_, ?_, ?_, ?_, ?_, ?_, ?_, ?_, ?_, ?_, ?_, ?_, ?_, ?_, trivial⟩
       · intro vs X wq K;exact zo rfl ⟨Below.refl _ _, Left.of rfl⟩
       · intro vs X wq K;exact zo rfl ⟨Below.refl _ _, Left.of rfl⟩
       · intro vs X wq K;obtain ⟨_, e0, k0⟩ := K.dep 0 rfl rfl rfl;refine zg 63 (.slice A3 ((qu x).length + (qf x).length) c3) rfl e0 ?_;obtain ⟨_, e1, k1⟩ := K.dep 1 rfl rfl rfl;refine zg 64 (.int .i64 ((j : Nat) : Int)) rfl e1 ?_
         exact ja (j := j) Tryd.underlying38 sz3 (congrArg (fun z ↦ some (Value.slice z ((qu x).length + (qf x).length) c3)) hAy) rfl rfl (by omega) ⟨Below.refl _ _, Left.of rfl⟩
       · intro vs X wq K;have LE := K.1;obtain ⟨_, e2, k2⟩ := K.dep 2 rfl rfl rfl;refine zg 65 (.pointer (some ⟨gy, oy + j, none⟩)) rfl e2 ?_;exact ym Tryd.underlying3 rfl rfl (((HF.on (E.drew.trans (LE.mono OY))).here.2).cellA hy hAy) ⟨Below.refl _ _, Left.of rfl⟩
       · intro vs X wq K;obtain ⟨_, e3, k3⟩ := K.dep 3 rfl rfl rfl;refine zg 66 (.int .i64 y) rfl e3 ?_;exact yt rfl rfl ⟨Below.refl _ _, Left.of ((by rw [decide_eq_false (by omega)] : (.bool (decide (y < 0)) : Value) = _))⟩
       · intro vs X wq K;obtain ⟨_, e4, k4⟩ := K.dep 4 rfl rfl rfl;refine zg 67 (.bool false) rfl e4 ?_;exact zo rfl ⟨Below.refl _ _, Left.of rfl⟩
       · intro vs X wq K;obtain ⟨_, e5, k5⟩ := K.dep 5 rfl rfl rfl;refine zg 68 (.bool false) rfl e5 ?_;exact jo rfl (zo rfl ⟨Below.refl _ _, Left.of rfl⟩)
       · intro vs X wq K;obtain ⟨_, e5, k5⟩ := K.dep 5 rfl rfl rfl;refine zg 68 (.bool false) rfl e5 ?_;exact jo rfl (zo rfl ⟨Below.refl _ _, Left.of rfl⟩)
       · intro vs X wq K;obtain ⟨_, e6, k6⟩ := K.dep 6 rfl rfl rfl;refine zg 69 (.slice A3 ((qu x).length + (qf x).length) c3) rfl e6 ?_;obtain ⟨_, e7, k7⟩ := K.dep 7 rfl rfl rfl;refine zg 70 (.int .i64 ((j : Nat) : Int)) rfl e7 ?_;obtain ⟨_, e5, k5⟩ := K.dep 5 rfl rfl rfl;refine zg 68 (.bool false) rfl e5 ?_
         exact jo rfl (ja (j := j) Tryd.underlying38 sz3 (congrArg (fun z ↦ some (Value.slice z ((qu x).length + (qf x).length) c3)) hAy) rfl rfl (by omega) ⟨Below.refl _ _, Left.of rfl⟩)
       · intro vs X wq K;have LE := K.1;obtain ⟨_, e8, k8⟩ := K.dep 8 rfl rfl rfl;refine zg 71 (.pointer (some ⟨gy, oy + j, none⟩)) rfl e8 ?_;obtain ⟨_, e5, k5⟩ := K.dep 5 rfl rfl rfl;refine zg 68 (.bool false) rfl e5 ?_;exact jo rfl (ym Tryd.underlying3 rfl rfl (((HF.on (E.drew.trans (LE.mono OY))).here.2).cellA hy hAy) ⟨Below.refl _ _, Left.of rfl⟩)
       · intro vs X wq K;obtain ⟨_, e5, k5⟩ := K.dep 5 rfl rfl rfl;refine zg 68 (.bool false) rfl e5 ?_;exact jo rfl (zb Tryd.underlying37 rfl sz3 (by decide) rfl ⟨Below.refl _ _, Left.of rfl⟩)
       · intro vs X wq K;have LE := K.1;obtain ⟨_, e10, k10⟩ := K.dep 10 rfl rfl rfl;refine zg 73 (.pointer (some ⟨gb7, 2, none⟩)) rfl e10 ?_;obtain ⟨_, e5, k5⟩ := K.dep 5 rfl rfl rfl;refine zg 68 (.bool false) rfl e5 ?_;exact jo rfl (zl Tryd.underlying3 rfl rfl (HF.on (E.drew.trans (LE.mono OY))).here.1.1.1.2 rfl ⟨Below.refl _ _, Left.of rfl⟩)
       · intro vs X wq K;obtain ⟨_, e9, k9⟩ := K.dep 9 rfl rfl rfl;refine zg 72 (.int .i64 y) rfl e9 ?_;obtain ⟨_, e11, k11⟩ := K.dep 11 rfl rfl rfl;refine zg 74 (.int .i64 f.regs) rfl e11 ?_;obtain ⟨_, e5, k5⟩ := K.dep 5 rfl rfl rfl;refine zg 68 (.bool false) rfl e5 ?_
         exact jo rfl (vi rfl rfl ⟨Below.refl _ _, Left.of ((by rw [decide_eq_false (by omega)] : (.bool (decide (f.regs ≤ y)) : Value) = _))⟩)
       · intro vs X wq K;obtain ⟨_, e5, k5⟩ := K.dep 5 rfl rfl rfl;refine zg 68 (.bool false) rfl e5 ?_;obtain ⟨_, e12, k12⟩ := K.dep 12 rfl rfl rfl;refine zg 75 (.bool false) rfl e12 ?_;exact ya rfl rfl ⟨Below.refl _ _, Left.of rfl⟩
     intro vs w15 LE AO AL AF AA;replace E := E.drew.trans (LE.mono OY);have Ed := E;obtain ⟨_, e13, k13⟩ := AL.2.2.2.2.2.2.2.2.2.2.2.2.2.1;refine jg (τ := [(1, _), (6, _), (7, _), (8, _), (9, _), (10, _), (76, .bool false)]) ⟨rfl, rfl, rfl, rfl, rfl, rfl, congrArg some e13, trivial⟩ ?_;clear AL AF AA LE AO OY e13 k13
     refine ze (zy rfl (zj (zm (ze (zi (mvx rfl (za rfl (yg rfl rfl (zp (by omega)) (avx rfl (yf ?_))))))))));exact yl (j + 1) (by show (qu x).length + (qf x).length - (j + 1) < (qu x).length + (qf x).length - j; omega) ⟨rfl, rfl, rfl, rfl, rfl, rfl, trivial⟩ ⟨M13.step E XM13, by omega⟩
    ·
     refine yn (zh (zh (zv (ze (srx (za rfl (zb Tryd.underlying37 rfl sz34 (by decide) rfl (za rfl (zl Tryd.underlying34 rfl rfl (HF.on E).here.1.1.1.2 rfl (mvx rfl (za rfl (qj (j := m) Tryd.underlying34 sz40 (congrArg (fun z ↦ some (Value.slice z f.ins.length p.ci)) hA2) rfl rfl (by omega) (za rfl (xq (cs := (insV x B cB).toArray) Tryd.underlying40 rfl sz40 rfl rfl (fun j v hj ↦ (HF.on E).here.1.2 j v (by simpa using hj)) (mvx rfl (za rfl (zz en11 rfl ((goes_any _ x B cB ((m : Nat) : Int) (by unfold I64; omega)).mono ?_))))))))))))))))))
     rintro e w16 ⟨A6, c6, rfl, o6, hb⟩;refine ⟨_, rfl, ?_⟩;replace E := blx E hb;replace HF := HF.on E;replace M10 := M10.step E XM10;replace E := erx (No) w16;replace HF := HF.and (Per.ints (OwnsI.ints o6 (by omega) (goes_i64 hI (by unfold I64; omega))) (fun _ h => h.elim));refine anx rfl (srx (anx rfl (zx ?_)));replace HF := HF.on E;replace M10 := M10.step E XM10
     replace E := erx (No) w16
     refine qk (ι := Nat) (fun j => [(1, .pointer (some ⟨gb1, 0, none⟩)), (6, .int .i64 ((k : Nat) : Int)), (7, .pointer (some ⟨gb7, 0, none⟩)), (8, .int .i64 ((m : Nat) : Int)), (11, .slice A6 (qz x ((m : Nat) : Int)).length c6), (12, .int .i64 ((j : Nat) : Int))]) (fun j w' => Ext (No) w16 w' ∧ (j ≤ (qz x ((m : Nat) : Int)).length)) (fun j => (qz x ((m : Nat) : Int)).length - j) 0 ⟨rfl, rfl, rfl, rfl, rfl, rfl, trivial⟩ ⟨Ext.refl _ _, Nat.zero_le _⟩ ?_
     rintro j w18 ⟨M17, hj⟩;have XM17 := grx (No) w16;replace E := E.trans M17;replace HF := HF.on E;replace M10 := M10.step E XM10;replace E := erx (No) w18;refine zf (srx (mvx rfl (mvx rfl (za rfl (vk Tryd.underlying38 rfl (za rfl (yt rfl rfl (rnx (zt rfl (fun q4 => ?_) (fun q4 => ?_))))))))))
     ·
      have q4 := of_decide_eq_true q4;obtain ⟨y, hy⟩ : ∃ y, (qz x ((m : Nat) : Int))[j]? = some y := ⟨_, List.getElem?_eq_getElem (by omega)⟩;obtain ⟨gy, oy, hAy, _, _⟩ := ((HF.on E).here.2).cell hy;have hyi := hw.goes y (List.mem_of_getElem? hy);refine zj (ze (zf (zx (zf ?_))))
      have OY : ∀ q9, (Mut (kx [])) q9 → q9 < (World.drew w18).heap.size → (No) q9 := fun k h _ => (Mut.none_) k h;refine vj (No) Mut.none_ [] [] (xx [Fx.of (.slice A6 (qz x ((m : Nat) : Int)).length c6),
       Fx.of (.int .i64 ((j : Nat) : Int)),
       Fx.of (.pointer (some ⟨gy, oy + j, none⟩)),
       Fx.of (.int .i64 y),
       Fx.of (.bool false),
       Fx.of (.bool false),
       Fx.of (.slice A6 (qz x ((m : Nat) : Int)).length c6),
       Fx.of (.int .i64 ((j : Nat) : Int)),
       Fx.of (.pointer (some ⟨gy, oy + j, none⟩)),
       Fx.of (.int .i64 y),
       Fx.of (.pointer (some ⟨gb7, 8, none⟩)),
       Fx.of (.slice p.ai f.ins.length p.ci),
       Fx.of (.int .i64 (((f.ins.length : Nat)) : Int)),
       Fx.of (.bool false),
       Fx.of (.bool false)]) mixed rfl trivial (fun _ h => by cases h) ?_ ?_
      · refine ⟨?_, ?_, ?_, ?_, ?_, ?_, ?_, ?_, ?_, ?_, ?_, ?_, ?_, ?_, ?_, trivial⟩
        · intro vs X wq K;exact zo rfl ⟨Below.refl _ _, Left.of rfl⟩
        · intro vs X wq K;exact zo rfl ⟨Below.refl _ _, Left.of rfl⟩
        · intro vs X wq K;obtain ⟨_, e0, k0⟩ := K.dep 0 rfl rfl rfl;refine zg 90 (.slice A6 (qz x ((m : Nat) : Int)).length c6) rfl e0 ?_;obtain ⟨_, e1, k1⟩ := K.dep 1 rfl rfl rfl;refine zg 91 (.int .i64 ((j : Nat) : Int)) rfl e1 ?_
          exact ja (j := j) Tryd.underlying38 sz3 (congrArg (fun z ↦ some (Value.slice z (qz x ((m : Nat) : Int)).length c6)) hAy) rfl rfl (by omega) ⟨Below.refl _ _, Left.of rfl⟩
        · intro vs X wq K;have LE := K.1;obtain ⟨_, e2, k2⟩ := K.dep 2 rfl rfl rfl;refine zg 92 (.pointer (some ⟨gy, oy + j, none⟩)) rfl e2 ?_;exact ym Tryd.underlying3 rfl rfl (((HF.on (E.drew.trans (LE.mono OY))).here.2).cellA hy hAy) ⟨Below.refl _ _, Left.of rfl⟩
        · intro vs X wq K;obtain ⟨_, e3, k3⟩ := K.dep 3 rfl rfl rfl;refine zg 93 (.int .i64 y) rfl e3 ?_;exact yt rfl rfl ⟨Below.refl _ _, Left.of ((by rw [decide_eq_false (by omega)] : (.bool (decide (y < 0)) : Value) = _))⟩
        · intro vs X wq K;obtain ⟨_, e4, k4⟩ := K.dep 4 rfl rfl rfl;refine zg 94 (.bool false) rfl e4 ?_;exact zo rfl ⟨Below.refl _ _, Left.of rfl⟩
        · intro vs X wq K;obtain ⟨_, e5, k5⟩ := K.dep 5 rfl rfl rfl;refine zg 95 (.bool false) rfl e5 ?_;exact jo rfl (zo rfl ⟨Below.refl _ _, Left.of rfl⟩)
        · intro vs X wq K;obtain ⟨_, e5, k5⟩ := K.dep 5 rfl rfl rfl;refine zg 95 (.bool false) rfl e5 ?_;exact jo rfl (zo rfl ⟨Below.refl _ _, Left.of rfl⟩)
        · intro vs X wq K;obtain ⟨_, e6, k6⟩ := K.dep 6 rfl rfl rfl;refine zg 96 (.slice A6 (qz x ((m : Nat) : Int)).length c6) rfl e6 ?_;obtain ⟨_, e7, k7⟩ := K.dep 7 rfl rfl rfl;refine zg 97 (.int .i64 ((j : Nat) : Int)) rfl e7 ?_;obtain ⟨_, e5, k5⟩ := K.dep 5 rfl rfl rfl;refine zg 95 (.bool false) rfl e5 ?_
          exact jo rfl (ja (j := j) Tryd.underlying38 sz3 (congrArg (fun z ↦ some (Value.slice z (qz x ((m : Nat) : Int)).length c6)) hAy) rfl rfl (by omega) ⟨Below.refl _ _, Left.of rfl⟩)
        · intro vs X wq K;have LE := K.1;obtain ⟨_, e8, k8⟩ := K.dep 8 rfl rfl rfl;refine zg 98 (.pointer (some ⟨gy, oy + j, none⟩)) rfl e8 ?_;obtain ⟨_, e5, k5⟩ := K.dep 5 rfl rfl rfl;refine zg 95 (.bool false) rfl e5 ?_;exact jo rfl (ym Tryd.underlying3 rfl rfl (((HF.on (E.drew.trans (LE.mono OY))).here.2).cellA hy hAy) ⟨Below.refl _ _, Left.of rfl⟩)
        · intro vs X wq K;obtain ⟨_, e5, k5⟩ := K.dep 5 rfl rfl rfl;refine zg 95 (.bool false) rfl e5 ?_;exact jo rfl (zb Tryd.underlying37 rfl sz34 (by decide) rfl ⟨Below.refl _ _, Left.of rfl⟩)
        · intro vs X wq K;have LE := K.1;obtain ⟨_, e10, k10⟩ := K.dep 10 rfl rfl rfl;refine zg 100 (.pointer (some ⟨gb7, 8, none⟩)) rfl e10 ?_;obtain ⟨_, e5, k5⟩ := K.dep 5 rfl rfl rfl;refine zg 95 (.bool false) rfl e5 ?_;exact jo rfl (zl Tryd.underlying34 rfl rfl (HF.on (E.drew.trans (LE.mono OY))).here.1.1.1.1.2 rfl ⟨Below.refl _ _, Left.of rfl⟩)
        · intro vs X wq K;obtain ⟨_, e11, k11⟩ := K.dep 11 rfl rfl rfl;refine zg 101 (.slice p.ai f.ins.length p.ci) rfl e11 ?_;obtain ⟨_, e5, k5⟩ := K.dep 5 rfl rfl rfl;refine zg 95 (.bool false) rfl e5 ?_;exact jo rfl (vk Tryd.underlying34 rfl ⟨Below.refl _ _, Left.of rfl⟩)
        · intro vs X wq K;obtain ⟨_, e9, k9⟩ := K.dep 9 rfl rfl rfl;refine zg 99 (.int .i64 y) rfl e9 ?_;obtain ⟨_, e12, k12⟩ := K.dep 12 rfl rfl rfl;refine zg 102 (.int .i64 (((f.ins.length : Nat)) : Int)) rfl e12 ?_;obtain ⟨_, e5, k5⟩ := K.dep 5 rfl rfl rfl;refine zg 95 (.bool false) rfl e5 ?_
          exact jo rfl (vi rfl rfl ⟨Below.refl _ _, Left.of ((by rw [decide_eq_false (by omega)] : (.bool (decide ((((f.ins.length : Nat)) : Int) ≤ y)) : Value) = _))⟩)
        · intro vs X wq K;obtain ⟨_, e5, k5⟩ := K.dep 5 rfl rfl rfl;refine zg 95 (.bool false) rfl e5 ?_;obtain ⟨_, e13, k13⟩ := K.dep 13 rfl rfl rfl;refine zg 103 (.bool false) rfl e13 ?_;exact ya rfl rfl ⟨Below.refl _ _, Left.of rfl⟩
      intro vs w19 LE AO AL AF AA;replace E := E.drew.trans (LE.mono OY);have Ed := E;obtain ⟨_, e14, k14⟩ := AL.2.2.2.2.2.2.2.2.2.2.2.2.2.2.1;refine jg (τ := [(1, _), (6, _), (7, _), (8, _), (11, _), (12, _), (104, .bool false)]) ⟨rfl, rfl, rfl, rfl, rfl, rfl, congrArg some e14, trivial⟩ ?_;clear AL AF AA LE AO OY e14 k14
      refine ze (zy rfl (zj (zm (ze (zi (mvx rfl (za rfl (yg rfl rfl (zp (by omega)) (avx rfl (yf ?_))))))))));exact yl (j + 1) (by show (qz x ((m : Nat) : Int)).length - (j + 1) < (qz x ((m : Nat) : Int)).length - j; omega) ⟨rfl, rfl, rfl, rfl, rfl, rfl, trivial⟩ ⟨M17.step E XM17, by omega⟩
     ·
      refine yn (zh (zh (zv (zm (ze (zi (mvx rfl (za rfl (yg rfl rfl (zp (by omega)) (avx rfl (yf ?_)))))))))));exact yl (m + 1) (by show f.ins.length - (m + 1) < f.ins.length - m; omega) ⟨rfl, rfl, rfl, rfl, trivial⟩ ⟨M10.step E XM10, by omega⟩
   ·
    refine yn (zh (zh (zv (zm (ze (zi (mvx rfl (za rfl (yg rfl rfl (zp (by omega)) (avx rfl (yf ?_)))))))))));exact yl (k + 1) (by show fs.length - (k + 1) < fs.length - k; omega) ⟨rfl, rfl, trivial⟩ ⟨M5.step E XM5, by omega⟩
  ·
   have q := of_decide_eq_false q
   refine yn (zh (zh (zv (ze (srx (za rfl (zb Tryd.underlying24 rfl sz22 (by decide) rfl (za rfl (zl Tryd.underlying22 rfl rfl (HF.on E).here.2 rfl (za rfl (vk Tryd.underlying22 rfl (za rfl (qn rfl rfl (anx rfl (zr (zq (rs := [.tmp 2]) (vs := [_]) rfl ⟨rfl, trivial⟩ ?_))))))))))))))))
   exact ⟨by rw [decide_eq_true (by omega)]; rfl, (LW.step E XLW).toBelow⟩
 ·
  refine zu 22 (.bool true) rfl ((by simp [hz] : (.bool ((go fs).2.2 != 0) : Value) = _)) ?_;have h3 : (go fs).2.2 = 3 := (check_err fs).resolve_left hz;refine yh rfl (srx (mvx rfl (za rfl (yd rfl rfl (anx rfl (zr (zd (zq (rs := [.tmp 2]) (vs := [_]) rfl ⟨rfl, trivial⟩ ?_))))))));exact ⟨by rw [h3]; rfl, (LW.step E XLW).toBelow⟩
end Go.Proofs.YtmjemknimipnjaaDoor
