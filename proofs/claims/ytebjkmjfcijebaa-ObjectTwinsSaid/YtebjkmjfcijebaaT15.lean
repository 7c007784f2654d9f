/- Texts of this claim. -/
import Derived.Test.YtebjkmjfcijebaaT14
import Derived.WalkKit
import Derived.Lib.Mul64
import Derived.Laws.Bits64b
import Derived.BigQuiet
import Derived.Deep.QuietTactic
import Derived.Lib.Hide
import Derived.Laws.Externs
import Derived.Deep.DeepCutAuto
import Derived.Deep.CutBlock
import Derived.Test.YtebjkmjfcijebaaRows
namespace Go.Proofs.Ytebjkmjfcijebaa
open Go.RowKit Go.Lib
namespace M64
theorem maskN (a : Nat) (ha : a < 18446744073709551616) : bits .and .u64 (a : Int) 4294967295 = ((a % 4294967296 : Nat) : Int) := by
 have h := bits_and_u64_nat a 4294967295 ha (by omega);have e : a &&& 4294967295 = a % 4294967296 := Nat.and_two_pow_sub_one_eq_mod a 32;rw [e] at h;exact h
theorem divN (a : Nat) : (a : Int) / 4294967296 = ((a / 4294967296 : Nat) : Int) := by omega
theorem mulN (a b : Nat) : (a : Int) * (b : Int) = ((a * b : Nat) : Int) := (Int.natCast_mul a b).symm
theorem addN (a b : Nat) : (a : Int) + (b : Int) = ((a + b : Nat) : Int) := (Int.natCast_add a b).symm
theorem wrapN (a : Nat) (ha : a < 18446744073709551616) : IntKind.u64.wrap (a : Int) = (a : Int) := by rw [IntKind.wrap_u64]; omega
theorem wrapM (a : Nat) : IntKind.u64.wrap (a : Int) = ((a % 18446744073709551616 : Nat) : Int) := by rw [IntKind.wrap_u64]; omega
end M64
set_option maxHeartbeats 1000000 in
theorem mul64_any (x y : Nat) (hx : x < 18446744073709551616) (hy : y < 18446744073709551616) (w : World) :
 Calls Try.prog 70 #[.int .u64 x, .int .u64 y] w fun e w' => e = .returned (.tuple #[.int .u64 ((x * y / 18446744073709551616 : Nat) : Int), .int .u64 ((x * y % 18446744073709551616 : Nat) : Int)]) ∧ w = w' := by
 obtain ⟨bd, bt, bw, hhi⟩ := Lib.mul64_hi x y hx hy;have ba := Lib.half_mul_le (a := x / 4294967296) (b := y / 4294967296) (by omega) (by omega);have bb := Lib.half_mul_le (a := x / 4294967296) (b := y % 4294967296) (by omega) (by omega);have bc := Lib.half_mul_le (a := x % 4294967296) (b := y / 4294967296) (by omega) (by omega)
 have ba' : x / 4294967296 * (y / 4294967296) < 18446744073709551616 := by omega
 have bb' : x / 4294967296 * (y % 4294967296) < 18446744073709551616 := by omega
 have bc' : x % 4294967296 * (y / 4294967296) < 18446744073709551616 := by omega
 have bh1 : x / 4294967296 * (y / 4294967296) + (x / 4294967296 * (y % 4294967296) + x % 4294967296 * (y % 4294967296) / 4294967296) / 4294967296 < 18446744073709551616 := by omega
 have bh : x / 4294967296 * (y / 4294967296) + (x / 4294967296 * (y % 4294967296) + x % 4294967296 * (y % 4294967296) / 4294967296) / 4294967296 + ((x / 4294967296 * (y % 4294967296) + x % 4294967296 * (y % 4294967296) / 4294967296) % 4294967296 + x % 4294967296 * (y / 4294967296)) / 4294967296 < 18446744073709551616 := by omega
 go_enter Try.func70, Try.ntmps70
 go_wp2
 simp only [M64.maskN x hx, M64.maskN y hy, M64.divN, M64.mulN, M64.addN, M64.wrapN _ bd, M64.wrapN _ bb', M64.wrapN _ bt, M64.maskN _ bt, M64.wrapN _ bc', M64.wrapN _ bw, M64.wrapN _ ba', M64.wrapN _ bh1, M64.wrapN _ bh, M64.wrapM (x * y)]
 rw [hhi];go_ret2
 exact ⟨rfl, rfl⟩
set_option maxRecDepth 100000
theorem lead_base (w : World) : Calls Try.prog 90 #[.int .u64 1000000000000000000] w fun e w' => e = .returned (.int .i64 4) ∧ w = w' := by
 go_enter Try.func90, Try.ntmps90
 go_wp2
 go_ret
 exact ⟨by kernel_rfl, rfl⟩
theorem add64_run (x y : Int) (hx : 0 ≤ x) (hy : 0 ≤ y) (w : World) :
 (callFunc 72 #[.int .u64 x, .int .u64 y, .int .u64 0]).run Try.prog w =
  .ok (.value (.tuple #[.int .u64 ((x + y) % 18446744073709551616), .int .u64 ((x + y) / 18446744073709551616)])) w := by
 rw [run_callFunc_extern Try.func72 (by kernel_rfl) (by kernel_rfl) (by kernel_rfl) (e := add64Entry) (by kernel_rfl), run_add64 x y 0 hx hy (by omega) (by omega)];simp only [Result.andThen, Int.add_zero]
theorem or_low (hi lo : Int) (h0 : 0 ≤ hi) (h1 : hi < 1000000000000000000) (l0 : 0 ≤ lo) (l1 : lo < 18446744073709551616) :
 bits .or .u64 (hi * 16) (lo / 1152921504606846976) = hi * 16 + lo / 1152921504606846976 := by
 obtain ⟨a, rfl⟩ := Int.eq_ofNat_of_zero_le h0;obtain ⟨b, hb⟩ := Int.eq_ofNat_of_zero_le (show 0 ≤ lo / 1152921504606846976 by omega);rw [hb];have h := bits_or_u64_nat (a * 16) b (by omega) (by omega);have e : a * 16 ||| b = a * 16 + b := by
  have := Nat.shiftLeft_add_eq_or_of_lt (show b < 2 ^ 4 by omega) a;rw [Nat.shiftLeft_eq] at this;exact this.symm
 rw [e] at h;rw [show ((a : Int) * 16) = ((a * 16 : Nat) : Int) by omega, h];omega
theorem mask_low (V : Int) (h0 : 0 ≤ V) (h1 : V < 18446744073709551616) : bits .and .u64 V 4294967295 = V % 4294967296 := by
 obtain ⟨a, rfl⟩ := Int.eq_ofNat_of_zero_le h0;rw [M64.maskN a (by omega)];omega
theorem zfk {U V q r : Int} (h0 : 0 ≤ U) (h1 : U < 16000000000000000000) (v0 : 0 ≤ V) (v1 : V < 4294967296) (hq : q * 3725290298 + r = U) (hr : 0 ≤ r)
 (hQ : (U * 4294967296 + V) / 16000000000000000000 ≤ q) (ht : q * 1983905792 ≤ 4294967296 * r + V) : q = (U * 4294967296 + V) / 16000000000000000000 := by omega
theorem zqv {U V q r : Int} (h0 : 0 ≤ U) (h1 : U < 16000000000000000000) (v0 : 0 ≤ V) (v1 : V < 4294967296) (hq : q * 3725290298 + r = U)
 (ht : 4294967296 ≤ q ∨ 4294967296 * r + V < q * 1983905792) : (U * 4294967296 + V) / 16000000000000000000 ≤ q - 1 := by omega
set_option maxRecDepth 100000
set_option maxHeartbeats 2000000 in
theorem div64_base (hi lo : Int) (h0 : 0 ≤ hi) (h1 : hi < 1000000000000000000) (l0 : 0 ≤ lo) (l1 : lo < 18446744073709551616) (w : World) :
 Calls Try.prog 81 #[.int .u64 hi, .int .u64 lo, .int .u64 1000000000000000000] w fun e w' => e = .returned (.tuple #[.int .u64 ((hi * 18446744073709551616 + lo) / 1000000000000000000), .int .u64 ((hi * 18446744073709551616 + lo) % 1000000000000000000)]) ∧ ∃ n, w' = w.drewN n := by
 by_cases hz : hi = 0
 · subst hz;have e1 : (0 : Int) * 18446744073709551616 + lo = lo := by omega
   rw [e1];have hq0 : 0 ≤ lo / 1000000000000000000 := by omega
   have hr0 : 0 ≤ lo % 1000000000000000000 := by omega
   go_enter Try.func81, Try.ntmps81
   go_wp2
   go_quiet (fail)
   go_wp2
   go_ret2
   exact ⟨by simp, _, rfl⟩
 · have hz2 : (hi == 0) = false := by simpa using hz
   have hle : ¬ 1000000000000000000 ≤ hi := by omega
   clear hz;obtain ⟨U, hU⟩ : ∃ U, U = hi * 16 + lo / 1152921504606846976 := ⟨_, rfl⟩;obtain ⟨V, hV⟩ : ∃ V, V = lo * 16 % 18446744073709551616 := ⟨_, rfl⟩;obtain ⟨V1, hV1⟩ : ∃ V1, V1 = V / 4294967296 := ⟨_, rfl⟩;obtain ⟨V0, hV0⟩ : ∃ V0, V0 = V % 4294967296 := ⟨_, rfl⟩;obtain ⟨Q, hQ⟩ : ∃ Q, Q = U / 3725290298 := ⟨_, rfl⟩
   have eor : bits .or .u64 (hi * 16) (lo / 1152921504606846976) = U := by rw [or_low hi lo h0 h1 l0 l1, hU]
   have ew : IntKind.u64.wrap (lo * 16) = V := by rw [IntKind.wrap_u64, hV]
   have bU0 : 0 ≤ U := by omega
   have bU1 : U < 16000000000000000000 := by omega
   have bV0 : 0 ≤ V := by omega
   have bV1 : V < 18446744073709551616 := by omega
   have b10 : 0 ≤ V1 := by omega
   have b11 : V1 < 4294967296 := by omega
   have b00 : 0 ≤ V0 := by omega
   have b01 : V0 < 4294967296 := by omega
   have bQ0 : 0 ≤ Q := by omega
   have bQ1 : Q ≤ 4294967297 := by omega
   have em : bits .and .u64 V 4294967295 = V0 := by rw [mask_low V bV0 bV1, hV0]
   have ed : V / 4294967296 = V1 := hV1.symm;have ec : bits .and .u64 16000000000000000000 4294967295 = 1983905792 := by rw [mask_low _ (by omega) (by omega)]; rfl
   have eq : U / 3725290298 = Q := hQ.symm;have HU := Lib.hid hU; have HV := Lib.hid hV; have HV1 := Lib.hid hV1; have HV0 := Lib.hid hV0; have HQ := Lib.hid hQ;have bR0 : 0 ≤ U - Q * 3725290298 := by omega
   have bR1 : U - Q * 3725290298 < 3725290298 := by omega
   clear hU hV hV1 hV0 hQ;go_enter Try.func81, Try.ntmps81
   go_upto_block 0 with (go_at_call 90; refine (lead_base _).mono ?_; rintro e w' ⟨rfl, rfl⟩)
   clear eq eor ew em ed ec;go_cut [15] (fun v wx => v = .int .u64 ((U * 4294967296 + V1) / 16000000000000000000) ∧ w = wx)
   case first =>
    go_wp2_with fail
    go_loop [15, 16] (fun qv rv => ∃ q r : Int, qv = .int .u64 q ∧ rv = .int .u64 r ∧ 0 ≤ q ∧ q ≤ 4294967297 ∧ 0 ≤ r ∧ r < 4294967296 ∧ Hid (q * 3725290298 + r = U) ∧ Hid ((U * 4294967296 + V1) / 16000000000000000000 ≤ q)) (fun qv _ => (RowKit.intOf qv).toNat)
    case atStart => exact ⟨Q, U - Q * 3725290298, by rw [HQ.out], rfl, bQ0, bQ1, bR0, by omega, by show _ = _; omega, by have := HQ.out; show _ ≤ _; omega⟩
    case round =>
     obtain ⟨q, r, rfl, rfl, hq0, hq1, hr0, hr1, HQR, HLE⟩ := hrel;by_cases hA : 4294967296 ≤ q
     · have hdn := zqv bU0 bU1 b10 b11 HQR.out (Or.inl hA);have hqp : 1 ≤ q := by omega
       have HDN := Lib.hid hdn;have HQ2 : Hid ((q - 1) * 3725290298 + (r + 3725290298) = U) := by have := HQR.out; show _ = _; omega
       clear hdn;by_cases hB : 4294967296 ≤ r + 3725290298
       · have hend := zfk bU0 bU1 b10 b11 HQ2.out (by omega) HDN.out (by omega);have HEND := Lib.hid hend;clear hend;go_wp2
         go_meet
         exact ⟨by rw [HEND.out], rfl⟩
       · go_wp2
         go_round
         case rel => exact ⟨q - 1, r + 3725290298, rfl, rfl, by omega, by omega, by omega, by omega, HQ2, HDN⟩
         case measure => simp [RowKit.intOf]; omega
     · by_cases hT : 4294967296 * r + V1 < q * 1983905792
       · have hdn := zqv bU0 bU1 b10 b11 HQR.out (Or.inr hT);have hqp : 1 ≤ q := by omega
         have HDN := Lib.hid hdn;have HQ2 : Hid ((q - 1) * 3725290298 + (r + 3725290298) = U) := by have := HQR.out; show _ = _; omega
         clear hdn;by_cases hB : 4294967296 ≤ r + 3725290298
         · have hend := zfk bU0 bU1 b10 b11 HQ2.out (by omega) HDN.out (by omega);have HEND := Lib.hid hend;clear hend;go_wp2
           go_meet
           exact ⟨by rw [HEND.out], rfl⟩
         · go_wp2
           go_round
           case rel => exact ⟨q - 1, r + 3725290298, rfl, rfl, by omega, by omega, by omega, by omega, HQ2, HDN⟩
           case measure => simp [RowKit.intOf]; omega
       · have hend := zfk bU0 bU1 b10 b11 HQR.out hr0 HLE.out (by omega);have HEND := Lib.hid hend;clear hend;go_wp2
         go_meet
         exact ⟨by rw [HEND.out], rfl⟩
   case rest =>
    obtain ⟨rfl, rfl⟩ := hcut;obtain ⟨P, hP⟩ : ∃ P, P = (U * 4294967296 + V1) / 16000000000000000000 := ⟨_, rfl⟩;obtain ⟨T, hT⟩ : ∃ T, T = (U * 4294967296 + V1) % 16000000000000000000 := ⟨_, rfl⟩;rw [← hP];have bP0 : 0 ≤ P := by omega
    have bP1 : P < 4294967296 := by omega
    have bT0 : 0 ≤ T := by omega
    have bT1 : T < 16000000000000000000 := by omega
    obtain ⟨Q2, hQ2⟩ : ∃ Q2, Q2 = T / 3725290298 := ⟨_, rfl⟩;have cQ0 : 0 ≤ Q2 := by omega
    have cQ1 : Q2 ≤ 4294967297 := by omega
    have cR0 : 0 ≤ T - Q2 * 3725290298 := by omega
    have cR1 : T - Q2 * 3725290298 < 3725290298 := by omega
    obtain ⟨X1, hX1⟩ : ∃ X, X = IntKind.u64.wrap (U * 4294967296) := ⟨_, rfl⟩;obtain ⟨X2, hX2⟩ : ∃ X, X = IntKind.u64.wrap (X1 + V1) := ⟨_, rfl⟩;obtain ⟨X3, hX3⟩ : ∃ X, X = IntKind.u64.wrap (P * 16000000000000000000) := ⟨_, rfl⟩;have e4 : IntKind.u64.wrap (X2 - X3) = T := by rw [hX2, hX3, hX1]; simp only [IntKind.wrap_u64]; omega
    have e1 := hX1.symm; have e2 := hX2.symm; have e3 := hX3.symm;have hX1b : 0 ≤ X1 ∧ X1 < 18446744073709551616 := by rw [hX1]; simp only [IntKind.wrap_u64]; omega
    have hX2b : 0 ≤ X2 ∧ X2 < 18446744073709551616 := by rw [hX2]; simp only [IntKind.wrap_u64]; omega
    have hX3b : 0 ≤ X3 ∧ X3 < 18446744073709551616 := by rw [hX3]; simp only [IntKind.wrap_u64]; omega
    have HP := Lib.hid hP; have HT := Lib.hid hT; have HQ2e := Lib.hid hQ2;clear hP hT hQ2 hX1 hX2 hX3;go_upto_block 2 with fail
    clear e1 e2 e3 e4 hX1b hX2b hX3b;go_cut [18] (fun v wx => v = .int .u64 ((T * 4294967296 + V0) / 16000000000000000000) ∧ w = wx)
    case first =>
     go_wp2_with fail
     go_loop [18, 16] (fun qv rv => ∃ q r : Int, qv = .int .u64 q ∧ rv = .int .u64 r ∧ 0 ≤ q ∧ q ≤ 4294967297 ∧ 0 ≤ r ∧ r < 4294967296 ∧ Hid (q * 3725290298 + r = T) ∧ Hid ((T * 4294967296 + V0) / 16000000000000000000 ≤ q)) (fun qv _ => (RowKit.intOf qv).toNat)
     case atStart => exact ⟨Q2, T - Q2 * 3725290298, by rw [HQ2e.out], by rw [HQ2e.out], cQ0, cQ1, cR0, by omega, by show _ = _; omega, by have := HQ2e.out; show _ ≤ _; omega⟩
     case round =>
      obtain ⟨q, r, rfl, rfl, hq0, hq1, hr0, hr1, HQR, HLE⟩ := hrel;by_cases hA : 4294967296 ≤ q
      · have hdn := zqv bT0 bT1 b00 b01 HQR.out (Or.inl hA);have hqp : 1 ≤ q := by omega
        have HDN := Lib.hid hdn;have HQ2 : Hid ((q - 1) * 3725290298 + (r + 3725290298) = T) := by have := HQR.out; show _ = _; omega
        clear hdn;by_cases hB : 4294967296 ≤ r + 3725290298
        · have hend := zfk bT0 bT1 b00 b01 HQ2.out (by omega) HDN.out (by omega);have HEND := Lib.hid hend;clear hend;go_wp2
          go_meet
          exact ⟨by rw [HEND.out], rfl⟩
        · go_wp2
          go_round
          case rel => exact ⟨q - 1, r + 3725290298, rfl, rfl, by omega, by omega, by omega, by omega, HQ2, HDN⟩
          case measure => simp [RowKit.intOf]; omega
      · by_cases hT : 4294967296 * r + V0 < q * 1983905792
        · have hdn := zqv bT0 bT1 b00 b01 HQR.out (Or.inr hT);have hqp : 1 ≤ q := by omega
          have HDN := Lib.hid hdn;have HQ2 : Hid ((q - 1) * 3725290298 + (r + 3725290298) = T) := by have := HQR.out; show _ = _; omega
          clear hdn;by_cases hB : 4294967296 ≤ r + 3725290298
          · have hend := zfk bT0 bT1 b00 b01 HQ2.out (by omega) HDN.out (by omega);have HEND := Lib.hid hend;clear hend;go_wp2
            go_meet
            exact ⟨by rw [HEND.out], rfl⟩
          · go_wp2
            go_round
            case rel => exact ⟨q - 1, r + 3725290298, rfl, rfl, by omega, by omega, by omega, by omega, HQ2, HDN⟩
            case measure => simp [RowKit.intOf]; omega
        · have hend := zfk bT0 bT1 b00 b01 HQR.out hr0 HLE.out (by omega);have HEND := Lib.hid hend;clear hend;go_wp2
          go_meet
          exact ⟨by rw [HEND.out], rfl⟩
    case rest =>
     obtain ⟨rfl, rfl⟩ := hcut;obtain ⟨P2, hP2⟩ : ∃ P, P = (T * 4294967296 + V0) / 16000000000000000000 := ⟨_, rfl⟩;obtain ⟨T2, hT2⟩ : ∃ T2, T2 = (T * 4294967296 + V0) % 16000000000000000000 := ⟨_, rfl⟩;rw [← hP2];have cP0 : 0 ≤ P2 := by omega
     have cP1 : P2 < 4294967296 := by omega
     have cT0 : 0 ≤ T2 := by omega
     have cT1 : T2 < 16000000000000000000 := by omega
     obtain ⟨X1, hX1⟩ : ∃ X, X = IntKind.u64.wrap (T * 4294967296) := ⟨_, rfl⟩;obtain ⟨X2, hX2⟩ : ∃ X, X = IntKind.u64.wrap (X1 + V0) := ⟨_, rfl⟩;obtain ⟨X3, hX3⟩ : ∃ X, X = IntKind.u64.wrap (P2 * 16000000000000000000) := ⟨_, rfl⟩;have e4 : IntKind.u64.wrap (X2 - X3) = T2 := by rw [hX2, hX3, hX1]; simp only [IntKind.wrap_u64]; omega
     have e1 := hX1.symm; have e2 := hX2.symm; have e3 := hX3.symm;have hX1b : 0 ≤ X1 ∧ X1 < 18446744073709551616 := by rw [hX1]; simp only [IntKind.wrap_u64]; omega
     have hX2b : 0 ≤ X2 ∧ X2 < 18446744073709551616 := by rw [hX2]; simp only [IntKind.wrap_u64]; omega
     have hX3b : 0 ≤ X3 ∧ X3 < 18446744073709551616 := by rw [hX3]; simp only [IntKind.wrap_u64]; omega
     have hfin : P * 4294967296 + P2 = (hi * 18446744073709551616 + lo) / 1000000000000000000 ∧ T2 / 16 = (hi * 18446744073709551616 + lo) % 1000000000000000000 := by
      have a1 := HU.out; have a2 := HV.out; have a3 := HV1.out; have a4 := HV0.out; have a5 := HP.out; have a6 := HT.out;omega
     obtain ⟨f1, f2⟩ := hfin;have F1 := Lib.hid f1; have F2 := Lib.hid f2;have bF : P * 4294967296 + P2 < 18446744073709551616 := by omega
     clear hP2 hT2 hX1 hX2 hX3 f1 f2;go_wp2
     go_ret2
     exact ⟨by rw [F1.out, F2.out]; rfl, 0, rfl⟩
end Go.Proofs.Ytebjkmjfcijebaa
namespace Go.Proofs.Ytebjkmjfcijebaa
open Go.RowKit
theorem fits_out (neg : Bool) (A : Option Addr) (c : Nat) (xs : List Nat) (w : World) (hx : Nums w A xs) (hs : small B18 xs) (hl : xs.length ≤ 1048576) :
 Calls Try.prog 91 #[.bool neg, .slice A xs.length c] w (jj w (outV true (sgn neg (val B18 xs))) (outE true (sgn neg (val B18 xs)))) := by
 rcases Nat.lt_or_ge (val B18 xs) (B18 ^ 30) with h | h
 · rw [zzq (by rw [ki]; exact h), zzk (by rw [ki]; exact h)]; exact fits_yes neg A c xs w hx hs hl h
 · rw [outV_big (by rw [ki]; exact h), outE_big (by rw [ki]; exact h)]; exact fits_no neg A c xs w hx hs hl h
theorem mul_step {ys zs : List Nat} {k j u t C X : Nat} (hz : k + j < zs.length) (h : val B18 zs + B18 ^ (k + j) * u = C + B18 ^ k * (X * val B18 (ys.take j))) (ht : t = X * ys.getD j 0 + zs.getD (k + j) 0 + u) :
 val B18 (zs.set (k + j) (t % B18)) + B18 ^ (k + (j + 1)) * (t / B18) = C + B18 ^ k * (X * val B18 (ys.take (j + 1))) := by
 have h1 := zov (b := B18) zs (k + j) (t % B18) hz;have h2 : B18 ^ (k + (j + 1)) * (t / B18) = B18 ^ (k + j) * (B18 * (t / B18)) := by rw [← Nat.add_assoc, Nat.pow_succ, Nat.mul_assoc]
 have h3 : B18 ^ (k + j) * (t % B18) + B18 ^ (k + j) * (B18 * (t / B18)) = B18 ^ (k + j) * t := by rw [← Nat.mul_add, Nat.mod_add_div]
 have h4 : B18 ^ (k + j) * t = B18 ^ (k + j) * (X * ys.getD j 0) + B18 ^ (k + j) * zs.getD (k + j) 0 + B18 ^ (k + j) * u := by rw [ht, Nat.mul_add, Nat.mul_add]
 have h5 : B18 ^ k * (X * val B18 (ys.take (j + 1))) = B18 ^ k * (X * val B18 (ys.take j)) + B18 ^ (k + j) * (X * ys.getD j 0) := by
  rw [qg, Nat.mul_add, Nat.mul_add, Nat.pow_add, Nat.mul_left_comm X, Nat.mul_assoc (B18 ^ k)]
 omega
theorem mul_close {xs ys zs : List Nat} {k u : Nat} (hz : k + ys.length < zs.length) (h0 : zs.getD (k + ys.length) 0 = 0)
 (h : val B18 zs + B18 ^ (k + ys.length) * u = val B18 (xs.take k) * val B18 ys + B18 ^ k * (xs.getD k 0 * val B18 (ys.take ys.length))) :
 val B18 (zs.set (k + ys.length) u) = val B18 (xs.take (k + 1)) * val B18 ys := by
 have h1 := zov (b := B18) zs (k + ys.length) u hz;rw [h0, Nat.mul_zero, Nat.add_zero] at h1;rw [h1, h, List.take_length, qg, Nat.add_mul, Nat.mul_assoc]
def ThreeB (w : World) (n1 n2 : Bool) (A B : Option Addr) (c d : Nat) (xs ys : List Nat) (b : World) : Prop :=
 Two w n1 n2 A B c d xs ys b ∧ (b.cell? ⟨w.heap.size + 1 + 1, 0, none⟩ = some (.bool false) ∧ b.cell? ⟨w.heap.size + 1 + 1, 1, none⟩ = some (.slice none 0 0) ∧ b.frozen? ⟨w.heap.size + 1 + 1, 0, none⟩ = false ∧ b.frozen? ⟨w.heap.size + 1 + 1, 1, none⟩ = false)
def zgk (w : World) (n1 n2 : Bool) (A B : Option Addr) (c d : Nat) (xs ys : List Nat) : World := (two w n1 n2 A B c d xs ys).alloc (.cells #[.bool false, .slice none 0 0] 40)
theorem ygv (w : World) (n1 n2 : Bool) (A B : Option Addr) (c d : Nat) (xs ys : List Nat) : Below w.heap.size w (zgk w n1 n2 A B c d xs ys) :=
 (zxk w n1 n2 A B c d xs ys).alloc (zxk w n1 n2 A B c d xs ys).size _
theorem yrz (w : World) (n1 n2 : Bool) (A B : Option Addr) (c d : Nat) (xs ys : List Nat) : (zgk w n1 n2 A B c d xs ys).heap.size = w.heap.size + 3 := by simp [zgk, two]
theorem ygk {w b : World} {n1 n2 : Bool} {A B : Option Addr} {c d : Nat} {xs ys : List Nat} (hx : Nums w A xs) (hy : Nums w B ys) (hb : Below (zgk w n1 n2 A B c d xs ys).heap.size (zgk w n1 n2 A B c d xs ys) b) : ThreeB w n1 n2 A B c d xs ys b := by
 have k : Below (two w n1 n2 A B c d xs ys).heap.size (two w n1 n2 A B c d xs ys) (zgk w n1 n2 A B c d xs ys) := (Below.refl _ _).alloc (Nat.le_refl _) _;have Z : Blk (zgk w n1 n2 A B c d xs ys) (w.heap.size + 1 + 1) 40 #[.bool false, .slice none 0 0] := Blk.newAt (by simp [two]);exact ⟨two_since hx hy (zdq k hb), (Z.below hb Z.lt).two⟩
section
variable (n1 n2 : Bool) (A B : Option Addr) (c d : Nat) (xs ys : List Nat) (w : World)
set_option maxRecDepth 100000
set_option maxHeartbeats 1000000 in
theorem mul_bad (hx : Nums w A xs) (hy : Nums w B ys) (hl : xs.length ≤ 9223372036854775807) (hl' : ys.length ≤ 9223372036854775807) (hok : (qr n1 xs && qr n2 ys) = false) :
 Calls Try.prog 83 #[.agg #[.bool n1, .slice A xs.length c], .agg #[.bool n2, .slice B ys.length d]] w (jj w 0 3) := by
 obtain ⟨W0, hW0⟩ : ∃ W0, W0 = zgk w n1 n2 A B c d xs ys := ⟨_, rfl⟩;have LW : Below w.heap.size w W0 := by rw [hW0]; exact ygv ..
 have HWs : Hid (W0.heap.size = w.heap.size + 3) := by rw [hW0]; exact yrz ..
 have HF : Hid (∀ b1, Below W0.heap.size W0 b1 → ThreeB w n1 n2 A B c d xs ys b1) := fun b1 hb => by rw [hW0] at hb; exact ygk hx hy hb
 have hg1 := fun w hx => vv n1 c w A xs hl hx;have hg2 := fun w hy => vv n2 d w B ys hl' hy;clear hx hy;unfold zgk two at hW0;have L : Below W0.heap.size W0 W0 := Below.refl _ _;obtain ⟨⟨⟨x0, x1, y0, y1⟩, hx, hy⟩, r0, r1, r2, r3⟩ := HF.out _ L;go_enter Try.func83, Try.ntmps83
 cases h1 : qr n1 xs
 · rw [h1] at hg1;clear hok h1;go_upto_region 1 with fail
   rw [← hW0];clear hW0;go_wp2_with (go_at_call 39; refine (hg1 _ hx).mono ?_; rintro e w1 ⟨rfl, hb⟩; have L := zdq L hb; clear x0 x1 y0 y1 hx hy r0 r1 r2 r3 hb; obtain ⟨⟨⟨x0, x1, y0, y1⟩, hx, hy⟩, r0, r1, r2, r3⟩ := HF.out _ L)
   refine bodyPost_ret (v := .tuple #[.agg #[.bool false, .slice none 0 0], .int .i64 3]) (by simp [results, Try.results83, go_sem, r0, r1]) rfl ?_;exact fin_zero (LW.trans (L.mono LW.size)) (by omega) _ _
 · rw [h1, Bool.true_and] at hok;rw [h1] at hg1;rw [hok] at hg2;clear hok h1;go_upto_region 1 with fail
   rw [← hW0];clear hW0;go_wp2_with (go_at_call 39; refine (hg1 _ hx).mono ?_; rintro e w1 ⟨rfl, hb⟩; have L := zdq L hb; clear x0 x1 y0 y1 hx hy r0 r1 r2 r3 hb; obtain ⟨⟨⟨x0, x1, y0, y1⟩, hx, hy⟩, r0, r1, r2, r3⟩ := HF.out _ L; refine Hid.out ?_)
   refine Lib.hid ?_;go_wp2_with (go_at_call 39; refine (hg2 _ hy).mono ?_; rintro e w1 ⟨rfl, hb⟩; have L := zdq L hb; clear x0 x1 y0 y1 hx hy r0 r1 r2 r3 hb; obtain ⟨⟨⟨x0, x1, y0, y1⟩, hx, hy⟩, r0, r1, r2, r3⟩ := HF.out _ L)
   refine bodyPost_ret (v := .tuple #[.agg #[.bool false, .slice none 0 0], .int .i64 3]) (by simp [results, Try.results83, go_sem, r0, r1]) rfl ?_;exact fin_zero (LW.trans (L.mono LW.size)) (by omega) _ _
theorem mul_bound {p z u : Int} (p0 : 0 ≤ p) (p1 : p ≤ 999999999999999999 * 999999999999999999) (z0 : 0 ≤ z) (z1 : z < 1000000000000000000) (u0 : 0 ≤ u) (u1 : u < 1000000000000000000) :
 0 ≤ p / 18446744073709551616 ∧ p / 18446744073709551616 < 1000000000000000000 ∧
 (p / 18446744073709551616 + (p % 18446744073709551616 + z) / 18446744073709551616 + ((p % 18446744073709551616 + z) % 18446744073709551616 + u) / 18446744073709551616) * 18446744073709551616 + ((p % 18446744073709551616 + z) % 18446744073709551616 + u) % 18446744073709551616 = p + z + u ∧
 (p + z + u) / 1000000000000000000 < 1000000000000000000 ∧
 p / 18446744073709551616 + (p % 18446744073709551616 + z) / 18446744073709551616 + ((p % 18446744073709551616 + z) % 18446744073709551616 + u) / 18446744073709551616 < 1000000000000000000 := by
 refine ⟨by omega, by omega, by omega, by omega, by omega⟩
theorem val_rep (b n : Nat) : val b (List.replicate n 0) = 0 := by
 induction n with
 | zero => rfl
 | succ n ih => rw [List.replicate_succ, val, ih]; simp
theorem mul64_int (x y : Int) (h0 : 0 ≤ x) (h1 : x < 18446744073709551616) (k0 : 0 ≤ y) (k1 : y < 18446744073709551616) (w : World) :
 Calls Try.prog 70 #[.int .u64 x, .int .u64 y] w fun e w' => e = .returned (.tuple #[.int .u64 (x * y / 18446744073709551616), .int .u64 (x * y % 18446744073709551616)]) ∧ w' = w := by
 obtain ⟨a, rfl⟩ := Int.eq_ofNat_of_zero_le h0;obtain ⟨b, rfl⟩ := Int.eq_ofNat_of_zero_le k0;refine (mul64_any a b (by omega) (by omega) w).mono fun e w' h => ?_;obtain ⟨rfl, rfl⟩ := h;rw [← Int.natCast_mul];exact ⟨by congr 1, rfl⟩
theorem nth_mul_le {xs ys : List Nat} (hs : small B18 xs) (ht : small B18 ys) (k j : Nat) : 0 ≤ nth xs k * nth ys j ∧ nth xs k * nth ys j ≤ 999999999999999999 * 999999999999999999 := by
 have a0 := qn xs k; have b0 := qn ys j;have a1 := jk (by unfold B18; omega) hs k; have b1 := jk (by unfold B18; omega) ht j;rw [B18_eq] at a1 b1;refine ⟨Int.mul_nonneg a0 b0, Int.mul_le_mul (by omega) (by omega) b0 (by omega)⟩
set_option maxHeartbeats 2000000 in
theorem mul_good (hx : Nums w A xs) (hy : Nums w B ys) (hg : qr n1 xs = true) (hk : qr n2 ys = true) :
 Calls Try.prog 83 #[.agg #[.bool n1, .slice A xs.length c], .agg #[.bool n2, .slice B ys.length d]] w (jj w (outV true (num n1 xs * num n2 ys)) (outE true (num n1 xs * num n2 ys))) := by
 obtain ⟨hs, _, hl, _⟩ := jm hg;obtain ⟨ht, _, hl', _⟩ := jm hk;have hprod : ∀ v, v = val B18 xs * val B18 ys → sgn (n1 != n2) v = num n1 xs * num n2 ys := fun v hv => by
  rw [hv, zaq, zaq]; unfold sgn; cases n1 <;> cases n2 <;> simp [Int.natCast_mul, Int.neg_mul, Int.mul_neg]
 have HP := Lib.hid hprod; have HS := Lib.hid hs; have HT := Lib.hid ht;obtain ⟨q, hq⟩ : ∃ q, q = num n1 xs * num n2 ys := ⟨_, rfl⟩;rw [← hq] at HP ⊢;obtain ⟨W0, hW0⟩ : ∃ W0, W0 = zgk w n1 n2 A B c d xs ys := ⟨_, rfl⟩;have LW : Below w.heap.size w W0 := by rw [hW0]; exact ygv ..
 have HWs : Hid (W0.heap.size = w.heap.size + 3) := by rw [hW0]; exact yrz ..
 have HF : Hid (∀ b1, Below W0.heap.size W0 b1 → ThreeB w n1 n2 A B c d xs ys b1) := fun b1 hb => by rw [hW0] at hb; exact ygk hx hy hb
 have hg1 := fun w hx => vv n1 c w A xs (by omega) hx;have hg2 := fun w hy => vv n2 d w B ys (by omega) hy;rw [hg] at hg1;rw [hk] at hg2;clear hx hy hq hprod hs ht hg hk;unfold zgk two at hW0;have L : Below W0.heap.size W0 W0 := Below.refl _ _;obtain ⟨⟨⟨x0, x1, y0, y1⟩, hx, hy⟩, r0, r1, r2, r3⟩ := HF.out _ L;go_enter Try.func83, Try.ntmps83
 go_upto_region 1 with fail
 rw [← hW0];clear hW0;go_wp2_with (go_at_call 39; refine (hg1 _ hx).mono ?_; rintro e w1 ⟨rfl, hb⟩; have L := zdq L hb; clear x0 x1 y0 y1 hx hy r0 r1 r2 r3 hb; obtain ⟨⟨⟨x0, x1, y0, y1⟩, hx, hy⟩, r0, r1, r2, r3⟩ := HF.out _ L; refine Hid.out ?_)
 refine Lib.hid ?_;go_wp2_with (go_at_call 39; refine (hg2 _ hy).mono ?_; rintro e w1 ⟨rfl, hb⟩; have L := zdq L hb; clear x0 x1 y0 y1 hx hy r0 r1 r2 r3 hb; obtain ⟨⟨⟨x0, x1, y0, y1⟩, hx, hy⟩, r0, r1, r2, r3⟩ := HF.out _ L; refine Hid.out ?_)
 refine Lib.hid ?_;clear hg1 hg2;obtain ⟨N, hN⟩ : ∃ N : Nat, N = xs.length + ys.length + 1 := ⟨_, rfl⟩;have hmk := zuz N (by omega);have hNi : ((xs.length : Int) + (ys.length : Int) + 1) = (N : Int) := by omega
 have HN := Lib.hid hN;have hNb : N ≤ 61 := by omega
 clear hN;go_upto_region 4 with fail
 obtain ⟨g, hg⟩ : ∃ g, g = w1.heap.size := ⟨_, rfl⟩;obtain ⟨W1, hW1⟩ : ∃ W1, W1 = w1.alloc (.cells (madeCells #[.int .u64 0] N) 25) := ⟨_, rfl⟩;have k1 : Below w1.heap.size w1 W1 := by rw [hW1]; exact (Below.refl _ _).alloc (Nat.le_refl _) _
 have hrow : Row W1 g N (List.replicate N 0) := by
  have h := (Row.made w1 N).fill;rw [← hW1, ← hg] at h;simpa using h
 have hWg : W1.heap.size = g + 1 := by rw [hW1, hg]; simp
 have hgW : W0.heap.size ≤ g := by rw [hg]; exact L.size
 have L := zdq L k1;rw [← hg, ← hW1];clear x0 x1 y0 y1 hx hy r0 r1 r2 r3 hmk hNi hg hW1 k1;obtain ⟨⟨⟨x0, x1, y0, y1⟩, hx, hy⟩, r0, r1, r2, r3⟩ := HF.out _ L;go_wp2_with fail
 clear x0 x1 y0 y1 hx hy r0 r1 r2 r3;go_loopw [34] (fun iv wr => ∃ (k : Nat) (zs : List Nat), k ≤ xs.length ∧ iv = .int .i64 k ∧ Row wr g N zs ∧ zs.length = N ∧ small B18 zs ∧ Hid (val B18 zs = val B18 (xs.take k) * val B18 ys) ∧ Hid (∀ p, k + ys.length ≤ p → nth zs p = 0) ∧ Below W0.heap.size W0 wr) (fun iv _ => xs.length - (intOf iv).toNat)
 case atStart => exact ⟨0, List.replicate N 0, by omega, rfl, hrow, by simp, by intro x hx; rw [List.eq_of_mem_replicate hx]; unfold B18; omega, by show _ = _; rw [val_rep, List.take_zero]; simp [val], fun p _ => nth_replicate _ _, L⟩
 case round =>
  obtain ⟨k, zs, hk, rfl, hrw, hzl, hzs, HV, HZ, hbel⟩ := hrel;obtain ⟨⟨⟨x0, x1, y0, y1⟩, hx, hy⟩, r0, r1, r2, r3⟩ := HF.out _ hbel;by_cases hkn : k < xs.length
  · obtain ⟨wo, rfl⟩ : ∃ wo : World, wo = wr := ⟨_, rfl⟩;have hm1 : (k : Int) < (xs.length : Int) := by omega
    have HX0 : Hid (val B18 zs + B18 ^ (k + 0) * (0 : Int).toNat = val B18 (xs.take k) * val B18 ys + B18 ^ k * (xs.getD k 0 * val B18 (ys.take 0))) := by
     show _ = _; rw [HV.out]; simp [val]
    go_wp2_with fail
    clear x0 x1 y0 y1 hx hy r0 r1 r2 r3;go_loopw [8, 40] (fun cv jv wi => ∃ (j : Nat) (u : Int) (qs : List Nat), j ≤ ys.length ∧ jv = .int .i64 j ∧ cv = .int .u64 u ∧ 0 ≤ u ∧ u < 1000000000000000000 ∧ Row wi g N qs ∧ qs.length = N ∧ small B18 qs ∧
     Hid (val B18 qs + B18 ^ (k + j) * u.toNat = val B18 (xs.take k) * val B18 ys + B18 ^ k * (xs.getD k 0 * val B18 (ys.take j))) ∧ Hid (∀ p, k + ys.length ≤ p → nth qs p = 0) ∧ Below W0.heap.size W0 wi) (fun _ jv _ => ys.length - (intOf jv).toNat)
    case atStart => exact ⟨0, 0, zs, by omega, rfl, rfl, by omega, by omega, hrw, hzl, hzs, HX0, HZ, hbel⟩
    case round =>
     obtain ⟨j, u, qs, hj, rfl, rfl, hu0, hu1, hrq, hql, hqs, HQ, HZ2, hbel2⟩ := hrel;obtain ⟨⟨⟨x0, x1, y0, y1⟩, hx, hy⟩, r0, r1, r2, r3⟩ := HF.out _ hbel2;by_cases hjn : j < ys.length
     · have hN1 := HN.out;obtain ⟨b, o, rfl, hb, hc⟩ := hx.2 (by omega);obtain ⟨b', o', rfl, hb', hc'⟩ := hy.2 (by omega);have hcx := hc k hkn;have hcy := hc' j hjn;have hcz := hrq.cell (j := k + j) (by omega);have hm2 : (j : Int) < (ys.length : Int) := by omega
       have hk0 : (0 : Int) ≤ (k : Int) := by omega
       have hj0 : (0 : Int) ≤ (j : Int) := by omega
       have hnx := qn xs k; have hny := qn ys j; have hnz := qn qs (k + j);have hlx := jk (by unfold B18; omega) HS.out k; have hly := jk (by unfold B18; omega) HT.out j; have hlz := jk (by unfold B18; omega) hqs (k + j);rw [B18_eq] at hlx hly hlz;obtain ⟨p0, p1⟩ := nth_mul_le HS.out HT.out k j;obtain ⟨P, hP⟩ : ∃ P, P = nth xs k * nth ys j := ⟨_, rfl⟩
       rw [← hP] at p0 p1;obtain ⟨m1, m2, m3, m4, m5⟩ := mul_bound p0 p1 hnz hlz hu0 hu1;have hmul := fun w => mul64_int (nth xs k) (nth ys j) hnx (by omega) hny (by omega) w;rw [← hP] at hmul;obtain ⟨h0, hh0⟩ : ∃ h0, h0 = P / 18446744073709551616 := ⟨_, rfl⟩;obtain ⟨l0, hl0⟩ : ∃ l0, l0 = P % 18446744073709551616 := ⟨_, rfl⟩;rw [← hh0, ← hl0] at hmul
       obtain ⟨l1, hl1⟩ : ∃ l1, l1 = (l0 + nth qs (k + j)) % 18446744073709551616 := ⟨_, rfl⟩;obtain ⟨c1, hc1⟩ : ∃ c1, c1 = (l0 + nth qs (k + j)) / 18446744073709551616 := ⟨_, rfl⟩;obtain ⟨l2, hl2⟩ : ∃ l2, l2 = (l1 + u) % 18446744073709551616 := ⟨_, rfl⟩;obtain ⟨c2, hc2⟩ : ∃ c2, c2 = (l1 + u) / 18446744073709551616 := ⟨_, rfl⟩;have b1 : 0 ≤ l0 := by omega
       have b2 : 0 ≤ l1 := by omega
       have b3 : 0 ≤ l2 ∧ l2 < 18446744073709551616 := by omega
       have b4 : 0 ≤ c1 := by omega
       have b5 : 0 ≤ c2 := by omega
       have ha1 : ∀ w, (callFunc 72 #[.int .u64 l0, .int .u64 (nth qs (k + j)), .int .u64 0]).run Try.prog w = .ok (.value (.tuple #[.int .u64 l1, .int .u64 c1])) w := fun w => by rw [add64_run l0 _ b1 hnz, hl1, hc1]
       have ha2 : ∀ w, (callFunc 72 #[.int .u64 l1, .int .u64 u, .int .u64 0]).run Try.prog w = .ok (.value (.tuple #[.int .u64 l2, .int .u64 c2])) w := fun w => by rw [add64_run l1 _ b2 hu0, hl2, hc2]
       rw [← hh0, ← hl0, ← hl1, ← hc1, ← hl2, ← hc2] at m3;rw [← hh0, ← hl0, ← hl1, ← hc1, ← hc2] at m5;rw [← hh0] at m1 m2;have hdv := fun w => div64_base (h0 + c1 + c2) l2 (by omega) m5 b3.1 b3.2 w;rw [m3] at hdv;obtain ⟨T, hT⟩ : ∃ T, T = P + nth qs (k + j) + u := ⟨_, rfl⟩;rw [← hT] at hdv m4;obtain ⟨Q, hQ⟩ : ∃ Q, Q = T / 1000000000000000000 := ⟨_, rfl⟩
       obtain ⟨R, hR⟩ : ∃ R, R = T % 1000000000000000000 := ⟨_, rfl⟩;rw [← hQ, ← hR] at hdv;rw [← hQ] at m4;have hQ0 : 0 ≤ Q := by omega
       have hR0 : 0 ≤ R := by omega
       have hR1 : R < 1000000000000000000 := by omega
       have HST : Hid (val B18 (qs.set (k + j) R.toNat) + B18 ^ (k + (j + 1)) * Q.toNat = val B18 (xs.take k) * val B18 ys + B18 ^ k * (xs.getD k 0 * val B18 (ys.take (j + 1)))) := by
        have hTn : T.toNat = xs.getD k 0 * ys.getD j 0 + qs.getD (k + j) 0 + u.toNat := by
         have e1 : P = ((xs.getD k 0 * ys.getD j 0 : Nat) : Int) := by rw [hP]; unfold nth; rw [← Int.natCast_mul]
         have e2 : nth qs (k + j) = ((qs.getD (k + j) 0 : Nat) : Int) := by unfold nth; rfl
         rw [hT, e1, e2]; omega
        have h := mul_step (zs := qs) (k := k) (j := j) (ys := ys) (by omega) HQ.out hTn;have e3 : R.toNat = T.toNat % B18 := by rw [hR]; unfold B18; omega
        have e4 : Q.toNat = T.toNat / B18 := by rw [hQ]; unfold B18; omega
        show _ = _; rw [e3, e4]; exact h
       have hfz := hrq.frozen (k + j);have hkj : (k : Int) + (j : Int) < (N : Int) := by omega
       have hkj0 : (0 : Int) ≤ (k : Int) + (j : Int) := by omega
       have hw64 : IntKind.i64.wrap ((k : Int) + (j : Int)) = (k : Int) + (j : Int) := IntWalk.i64_in _ (by omega);clear hc hc' hP hh0 hl0 hl1 hc1 hl2 hc2 hT hQ hR m3 hN1 p0 p1;go_wp2_with fail
       go_quiet ((go_at_call 70; exact Calls.quiet_of_same (hmul _)))
       go_wp2_with (go_at_call 81; refine (hdv _).mono ?_; rintro e w' ⟨rfl, nd, rfl⟩)
       go_roundw
       case rel => exact ⟨j + 1, Q, qs.set (k + j) R.toNat, by omega, by go_num, rfl, hQ0, m4, by first | exact (hrq.drewN _).setInt R hR0 (by omega) | exact ((hrq.drewN _).drewN _).setInt R hR0 (by omega), by rw [List.length_set]; exact hql, jo hqs _ _ (by unfold B18; omega), HST,
        fun p hp => by rw [yvz _ _ _ (by omega), if_neg (by omega)]; exact HZ2.out p hp, by first | exact (kf hbel2 _).setCell hgW _ | exact (kf (kf hbel2 _) _).setCell hgW _⟩
       case measure => simp [intOf]; omega
     · obtain rfl : j = ys.length := by omega
       have hN1 := HN.out;have hcz := hrq.cell (j := k + ys.length) (by omega);have hz0 : nth qs (k + ys.length) = 0 := HZ2.out _ (Nat.le_refl _);rw [hz0] at hcz;have hfz := hrq.frozen (k + ys.length);have hm2 : ¬ (ys.length : Int) < (ys.length : Int) := by omega
       have hkj : (k : Int) + (ys.length : Int) < (N : Int) := by omega
       have hkj0 : (0 : Int) ≤ (k : Int) + (ys.length : Int) := by omega
       have hw64 : IntKind.i64.wrap ((k : Int) + (ys.length : Int)) = (k : Int) + (ys.length : Int) := IntWalk.i64_in _ (by omega);have hlq : k + ys.length < qs.length := by omega
       have HCL : Hid (val B18 (qs.set (k + ys.length) u.toNat) = val B18 (xs.take (k + 1)) * val B18 ys) := mul_close hlq (by unfold nth at hz0; omega) HQ.out;clear hz0 hN1;go_wp2_with fail
       go_roundw
       case rel => exact ⟨k + 1, qs.set (k + ys.length) u.toNat, by omega, by go_num, hrq.setInt u hu0 hlq, by rw [List.length_set]; exact hql, jo hqs _ _ (by unfold B18; omega), HCL,
        fun p hp => by rw [yvz _ _ _ hlq, if_neg (by omega)]; exact HZ2.out p (by omega), hbel2.setCell hgW _⟩
       case measure => simp [intOf]; omega
  · obtain rfl : k = xs.length := by omega
    have hm1 : ¬ (xs.length : Int) < (xs.length : Int) := by omega
    have hnum := hrw.nums hzl (ytv hzs);have hfit := fun w h => fits_out (n1 != n2) (some ⟨g, 0, none⟩) N zs w h hzs (by omega);have hval : sgn (n1 != n2) (val B18 zs) = q := HP.out _ (by rw [HV.out, List.take_length]);rw [hval, hzl] at hfit;clear hval
    go_wp2_with (go_at_call 91; refine (hfit _ hnum).mono ?_; rintro e w4 ⟨A4, c4, rfl, hown4, hb4⟩; have LB := hbel.trans (hb4.mono hbel.size); clear x0 x1 y0 y1 hx hy r0 r1 r2 r3; obtain ⟨⟨⟨x0, x1, y0, y1⟩, hx, hy⟩, r0, r1, r2, r3⟩ := HF.out _ LB)
    refine bodyPost_ret (v := .tuple #[.agg #[.bool (decide (outV true q < 0)), .slice A4 (limbs (outV true q)).length c4], .int .i64 (outE true q)]) (by simp [results, Try.results83, go_sem, r0, r1]) rfl ?_;exact fin_big hown4 (LW.trans (LB.mono LW.size)) (by omega) (by have := HWs.out; have := hbel.size; omega) _ _
theorem mul_any (hx : Nums w A xs) (hy : Nums w B ys) (hl : xs.length ≤ 9223372036854775807) (hl' : ys.length ≤ 9223372036854775807) :
 Calls Try.prog 83 #[.agg #[.bool n1, .slice A xs.length c], .agg #[.bool n2, .slice B ys.length d]] w
  (jj w (outV (qr n1 xs && qr n2 ys) (num n1 xs * num n2 ys)) (outE (qr n1 xs && qr n2 ys) (num n1 xs * num n2 ys))) := by
 cases h : (qr n1 xs && qr n2 ys)
 · rw [outV_bad, outE_bad]; exact mul_bad n1 n2 A B c d xs ys w hx hy hl hl' h
 · obtain ⟨hg, hk⟩ := Bool.and_eq_true_iff.1 h;exact mul_good n1 n2 A B c d xs ys w hx hy hg hk
end
section
variable {i j : Int} (A B : Option Addr) (c d : Nat) (w : World) (hi : i.natAbs < B18 ^ 30) (hj : j.natAbs < B18 ^ 30) (hx : Nums w A (limbs i)) (hy : Nums w B (limbs j))
include hi
include hx
include hj hy
theorem mulI : Calls Try.prog 83 #[.agg #[.bool (decide (i < 0)), .slice A (limbs i).length c], .agg #[.bool (decide (j < 0)), .slice B (limbs j).length d]] w (jj w (outV true (i * j)) (outE true (i * j))) := by
 have h := mul_any (decide (i < 0)) (decide (j < 0)) A B c d (limbs i) (limbs j) w hx hy (by have := xl hi; omega) (by have := xl hj; omega);rwa [kj hi, kj hj, kp, kp] at h
theorem cmpI_ : Calls Try.prog 65 #[.agg #[.bool (decide (i < 0)), .slice A (limbs i).length c], .agg #[.bool (decide (j < 0)), .slice B (limbs j).length d]] w fun e w' => e = .returned (.int .i64 (zdk i j)) ∧ Below w.heap.size w w' := by
 have h := cmp_any A B c d (limbs i) (limbs j) w (decide (i < 0)) (decide (j < 0)) hx hy (by have := xl hi; omega) (by have := xl hj; omega);rw [kj hi, kj hj, kp, kp] at h;unfold cmpO at h;exact h
end
theorem outE_zero {i : Int} (h : outE true i = 0) : i.natAbs < B18 ^ 30 := by
 unfold outE at h;rw [if_pos rfl] at h;split at h
 · assumption
 · cases h
set_option maxRecDepth 100000
structure PV where
 k : Int
 yes : Bool
 neg : Bool
 xs : List Nat
 bits : Nat
 s : ByteArray
 ni : Nat
structure PVp where
 a : Option Addr
 c : Nat
 b : Option Addr
 d : Nat
def PV.cells (v : PV) (p : PVp) : List Value := [.int .i64 v.k, .bool v.yes, .bool v.neg, .slice p.a v.xs.length p.c, .int .u64 ((v.bits : Nat) : Int), .string v.s, .slice p.b v.ni p.d]
def PV.val (v : PV) (p : PVp) : Value := .agg #[.int .i64 v.k, .bool v.yes, .bool v.neg, .slice p.a v.xs.length p.c, .int .u64 ((v.bits : Nat) : Int), .string v.s, .slice p.b v.ni p.d]
def PV.good (v : PV) : Bool :=
 decide (v.ni = 0) && (if v.k = 0 then !v.yes && (!v.neg && decide (v.xs.length = 0)) && decide (v.bits = 0) && (v.s.toList == (⟨#[]⟩ : ByteArray).toList)
  else if v.k = 1 then (!v.neg && decide (v.xs.length = 0)) && decide (v.bits = 0) && (v.s.toList == (⟨#[]⟩ : ByteArray).toList)
  else if v.k = 2 then qr v.neg v.xs && !v.yes && decide (v.bits = 0) && (v.s.toList == (⟨#[]⟩ : ByteArray).toList)
  else if v.k = 3 then (!v.neg && decide (v.xs.length = 0)) && !v.yes && (v.s.toList == (⟨#[]⟩ : ByteArray).toList)
  else if v.k = 4 then (!v.neg && decide (v.xs.length = 0)) && !v.yes && decide (v.bits = 0) && decide (v.s.size ≤ 20000)
  else false)
structure PVA (n : Nat) (w : World) (v : PV) (p : PVp) : Prop where
 k : I64 v.k
 bits : U64 v.bits
 limbs : WordsA n w p.a v.xs
end Go.Proofs.Ytebjkmjfcijebaa
namespace Go.Proofs.Ytebjkmjfcijebaa
open Go.RowKit
set_option maxRecDepth 100000
attribute [local irreducible] OW RS
theorem gr0 {n : Nat} (h : 0 < n) : n ≠ 0 := by omega
section
variable (w : World) (k : Int) (yes neg : Bool) (A B : Option Addr) (xs : List Nat) (c bits ni d : Nat) (s : ByteArray) (hx : Nums w A xs) (hl : xs.length ≤ 9223372036854775807)
include hx hl
set_option maxHeartbeats 2000000 in
theorem pgood_any : Calls Try.prog 18 #[.agg #[.int .i64 k, .bool yes, .bool neg, .slice A xs.length c, .int .u64 ((bits : Nat) : Int), .string s, .slice B ni d]] w fun e w' => e = .returned (.bool (PV.good ⟨k, yes, neg, xs, bits, s, ni⟩)) ∧ Below w.heap.size w w' := by
 refine yb Try.func18 rfl Try.ntmps18 rfl ?_;have HF : Per (No) w (fun _ => True) := Per.true_;have LW := erx (No) w;have XLW := grx (No) w;have E := erx (No) w;replace HF := HF.on E;replace LW := LW.step E XLW;replace E := erx (No) w;replace HF := HF.and (Per.nums0 hx);refine srx (za rfl (yt rfl ?_));intro gb1 w2 Bb1 Eb1 Gb1;have Gb1 : _ ≤ gb1 := Nat.le_trans E.size Gb1
 have GLb1 := Nat.le_trans LW.size Gb1;replace E := E.trans Eb1.no;replace HF := HF.cons (yj Gb1);replace E := E.cons (some gb1);replace XLW := Mut.grow XLW (fun k e => Or.inr (Nat.le_trans LW.size ((yj Gb1) k e)));replace HF := HF.on E;replace LW := LW.step E XLW;have SB : ∀ q9, No q9 → Mut [(some gb1)] q9 := (Mut.skip Mut.nil_);replace HF := HF.less SB
 replace XLW := fun k h => XLW k (SB k h);clear SB;replace E := erx (No) w2;replace HF := HF.and (Per.blkN Bb1 NotIn.nil)
 refine anx rfl (zl (srx (za rfl (zf Try.underlying43 rfl sz41 (by decide) rfl (za rfl (zk Try.underlying41 rfl rfl (HF.on E).here.2 rfl (za rfl (qe Try.underlying41 rfl (za rfl (vf rfl rfl (rnx (yv rfl (fun h1 => ?_) (fun h1 => ?_)))))))))))))
 ·
  refine yd 7 (.bool true) rfl (congrArg Value.bool h1) ?_;replace h1 := of_decide_eq_true h1;refine srx (anx rfl (zo (zh (zn (rs := [.tmp 2]) (vs := [_]) rfl ⟨rfl, trivial⟩ ?_))));exact ⟨by refine congrArg (fun z => Ending.returned (.bool z)) ?_; first | (simp_all [PV.good, gr0]; done) | (simp_all [PV.good, gr0]; omega), (LW.step E XLW).toBelow⟩
 ·
  refine yd 7 (.bool false) rfl (congrArg Value.bool h1) ?_;replace h1 := of_decide_eq_false h1
  refine zt (zj (srx (za rfl (zf Try.underlying43 rfl vk (by decide) rfl (za rfl (zf Try.underlying40 rfl sz4 (by decide) rfl (za rfl (zk Try.underlying4 rfl rfl (HF.on E).here.2 rfl (za rfl (qa rfl (mvx rfl (vp 12 rfl (fun h2 => ?_) (fun h2 => ?_)))))))))))))
  ·
   refine onx rfl (zf Try.underlying43 rfl vk (by decide) rfl (onx rfl (zf Try.underlying40 rfl kl (by decide) rfl (onx rfl (zk Try.underlying22 rfl rfl (HF.on E).here.2 rfl (onx rfl (qe Try.underlying22 rfl (onx rfl (yl rfl rfl (za rfl (ya rfl rfl (anx rfl (zl (srx (za rfl (zf Try.underlying43 rfl sz3 (by decide) rfl (za rfl (zk Try.underlying3 rfl rfl (HF.on E).here.2 rfl (rnx (yh (srx (za rfl (yl rfl rfl (anx rfl (yv rfl (fun h3 => ?_) (fun h3 => ?_))))))))))))))))))))))))))
   ·
    refine yd 21 (.bool true) rfl (congrArg Value.bool h3) ?_;replace h3 := eq_of_beq h3;subst h3;refine srx (za rfl (zf Try.underlying43 rfl sz4 (by decide) rfl (za rfl (zk Try.underlying4 rfl rfl (HF.on E).here.2 rfl (za rfl (qa rfl (mvx rfl (vp 26 rfl (fun h4 => ?_) (fun h4 => ?_)))))))))
    ·
     refine onx rfl (zp rfl (za rfl (ya rfl rfl (mvx rfl (vp 29 rfl (fun h5 => ?_) (fun h5 => ?_))))))
     ·
      replace h5 := eq_of_beq h5;refine onx rfl (zf Try.underlying43 rfl vc (by decide) rfl (onx rfl (zk Try.underlying25 rfl rfl (HF.on E).here.2 rfl (onx rfl (yl rfl rfl (za rfl (ya rfl rfl (mvx rfl (vp 34 rfl (fun h6 => ?_) (fun h6 => ?_))))))))))
      ·
       replace h6 := eq_of_beq h6;refine onx rfl (zf Try.underlying43 rfl sz9 (by decide) rfl (onx rfl (zk Try.underlying9 rfl rfl (HF.on E).here.2 rfl (onx rfl (zpk rfl rfl (za rfl (ya rfl rfl (anx rfl (zo (zr (zh (zn (rs := [.tmp 2]) (vs := [_]) rfl ⟨rfl, trivial⟩ ?_))))))))))))
       exact ⟨by refine congrArg (fun z => Ending.returned (.bool z)) ?_; first | (simp_all [PV.good, gr0]; done) | (simp_all [PV.good, gr0]; omega), (LW.step E XLW).toBelow⟩
      ·
       replace h6 := beq_eq_false_iff_ne.1 h6;refine za rfl (zd rfl (za rfl (zd rfl (za rfl (zd rfl (za rfl (zm rfl rfl (anx rfl (zo (zr (zh (zn (rs := [.tmp 2]) (vs := [_]) rfl ⟨rfl, trivial⟩ ?_))))))))))))
       exact ⟨by refine congrArg (fun z => Ending.returned (.bool z)) ?_; first | (simp_all [PV.good, gr0]; done) | (simp_all [PV.good, gr0]; omega), (LW.step E XLW).toBelow⟩
     ·
      replace h5 := beq_eq_false_iff_ne.1 h5;refine za rfl (zd rfl (za rfl (zd rfl (za rfl (zd rfl (za rfl (zm rfl rfl (mvx rfl (za rfl (zd rfl (za rfl (zd rfl (za rfl (zd rfl (za rfl (zm rfl rfl (anx rfl (zo (zr (zh (zn (rs := [.tmp 2]) (vs := [_]) rfl ⟨rfl, trivial⟩ ?_)))))))))))))))))))))
      exact ⟨by refine congrArg (fun z => Ending.returned (.bool z)) ?_; first | (simp_all [PV.good, gr0]; done) | (simp_all [PV.good, gr0]; omega), (LW.step E XLW).toBelow⟩
    ·
     refine za rfl (zd rfl (za rfl (zm rfl rfl (mvx rfl (za rfl (zd rfl (za rfl (zd rfl (za rfl (zd rfl (za rfl (zm rfl rfl (mvx rfl (za rfl (zd rfl (za rfl (zd rfl (za rfl (zd rfl (za rfl (zm rfl rfl (anx rfl (zo (zr (zh (zn (rs := [.tmp 2]) (vs := [_]) rfl ⟨rfl, trivial⟩ ?_))))))))))))))))))))))))))
     exact ⟨by refine congrArg (fun z => Ending.returned (.bool z)) ?_; first | (simp_all [PV.good, gr0]; done) | (simp_all [PV.good, gr0]; omega), (LW.step E XLW).toBelow⟩
   ·
    refine yd 21 (.bool false) rfl (congrArg Value.bool h3) ?_;replace h3 := beq_eq_false_iff_ne.1 h3;refine srx (za rfl (yl rfl rfl (anx rfl (yv rfl (fun h7 => ?_) (fun h7 => ?_)))))
    ·
     refine yd 39 (.bool true) rfl (congrArg Value.bool h7) ?_;replace h7 := eq_of_beq h7;subst h7;refine srx (mvx rfl (mvx rfl (vp 42 rfl (fun h8 => ?_) (fun h8 => ?_))))
     ·
      replace h8 := eq_of_beq h8;refine onx rfl (zf Try.underlying43 rfl vc (by decide) rfl (onx rfl (zk Try.underlying25 rfl rfl (HF.on E).here.2 rfl (onx rfl (yl rfl rfl (za rfl (ya rfl rfl (mvx rfl (vp 47 rfl (fun h9 => ?_) (fun h9 => ?_))))))))))
      ·
       replace h9 := eq_of_beq h9;refine onx rfl (zf Try.underlying43 rfl sz9 (by decide) rfl (onx rfl (zk Try.underlying9 rfl rfl (HF.on E).here.2 rfl (onx rfl (zpk rfl rfl (za rfl (ya rfl rfl (anx rfl (zo (zr (zh (zn (rs := [.tmp 2]) (vs := [_]) rfl ⟨rfl, trivial⟩ ?_))))))))))))
       exact ⟨by refine congrArg (fun z => Ending.returned (.bool z)) ?_; first | (simp_all [PV.good, gr0]; done) | (simp_all [PV.good, gr0]; omega), (LW.step E XLW).toBelow⟩
      ·
       replace h9 := beq_eq_false_iff_ne.1 h9;refine za rfl (zd rfl (za rfl (zd rfl (za rfl (zd rfl (za rfl (zm rfl rfl (anx rfl (zo (zr (zh (zn (rs := [.tmp 2]) (vs := [_]) rfl ⟨rfl, trivial⟩ ?_))))))))))))
       exact ⟨by refine congrArg (fun z => Ending.returned (.bool z)) ?_; first | (simp_all [PV.good, gr0]; done) | (simp_all [PV.good, gr0]; omega), (LW.step E XLW).toBelow⟩
     ·
      replace h8 := beq_eq_false_iff_ne.1 h8;refine za rfl (zd rfl (za rfl (zd rfl (za rfl (zd rfl (za rfl (zm rfl rfl (mvx rfl (za rfl (zd rfl (za rfl (zd rfl (za rfl (zd rfl (za rfl (zm rfl rfl (anx rfl (zo (zr (zh (zn (rs := [.tmp 2]) (vs := [_]) rfl ⟨rfl, trivial⟩ ?_)))))))))))))))))))))
      exact ⟨by refine congrArg (fun z => Ending.returned (.bool z)) ?_; first | (simp_all [PV.good, gr0]; done) | (simp_all [PV.good, gr0]; omega), (LW.step E XLW).toBelow⟩
    ·
     refine yd 39 (.bool false) rfl (congrArg Value.bool h7) ?_;replace h7 := beq_eq_false_iff_ne.1 h7;refine srx (za rfl (yl rfl rfl (anx rfl (yv rfl (fun h10 => ?_) (fun h10 => ?_)))))
     ·
      refine yd 52 (.bool true) rfl (congrArg Value.bool h10) ?_;replace h10 := eq_of_beq h10;subst h10;refine srx (za rfl (zf Try.underlying43 rfl vk (by decide) rfl (za rfl (ow_loadP Try.underlying40 rfl vk rfl (HF.on E).here.2 rfl rfl (za rfl (zi en39 rfl ((vv neg c _ A xs hl (HF.on E).here.1.2).mono ?_)))))));rintro e w3 ⟨rfl, hb⟩
      refine ⟨_, rfl, ?_⟩;replace E := blx E hb;refine mvx rfl (vp 57 rfl (fun h11 => ?_) (fun h11 => ?_))
      ·
       refine onx rfl (zf Try.underlying43 rfl sz4 (by decide) rfl (onx rfl (zk Try.underlying4 rfl rfl (HF.on E).here.2 rfl (onx rfl (qa rfl (za rfl (ya rfl rfl (mvx rfl (vp 62 rfl (fun h12 => ?_) (fun h12 => ?_))))))))))
       ·
        refine onx rfl (zf Try.underlying43 rfl vc (by decide) rfl (onx rfl (zk Try.underlying25 rfl rfl (HF.on E).here.2 rfl (onx rfl (yl rfl rfl (za rfl (ya rfl rfl (mvx rfl (vp 67 rfl (fun h13 => ?_) (fun h13 => ?_))))))))))
        ·
         replace h13 := eq_of_beq h13;refine onx rfl (zf Try.underlying43 rfl sz9 (by decide) rfl (onx rfl (zk Try.underlying9 rfl rfl (HF.on E).here.2 rfl (onx rfl (zpk rfl rfl (za rfl (ya rfl rfl (anx rfl (zo (zr (zh (zn (rs := [.tmp 2]) (vs := [_]) rfl ⟨rfl, trivial⟩ ?_))))))))))))
         exact ⟨by refine congrArg (fun z => Ending.returned (.bool z)) ?_; first | (simp_all [PV.good, gr0]; done) | (simp_all [PV.good, gr0]; omega), (LW.step E XLW).toBelow⟩
        ·
         replace h13 := beq_eq_false_iff_ne.1 h13;refine za rfl (zd rfl (za rfl (zd rfl (za rfl (zd rfl (za rfl (zm rfl rfl (anx rfl (zo (zr (zh (zn (rs := [.tmp 2]) (vs := [_]) rfl ⟨rfl, trivial⟩ ?_))))))))))))
         exact ⟨by refine congrArg (fun z => Ending.returned (.bool z)) ?_; first | (simp_all [PV.good, gr0]; done) | (simp_all [PV.good, gr0]; omega), (LW.step E XLW).toBelow⟩
       ·
        refine za rfl (zd rfl (za rfl (zd rfl (za rfl (zd rfl (za rfl (zm rfl rfl (mvx rfl (za rfl (zd rfl (za rfl (zd rfl (za rfl (zd rfl (za rfl (zm rfl rfl (anx rfl (zo (zr (zh (zn (rs := [.tmp 2]) (vs := [_]) rfl ⟨rfl, trivial⟩ ?_)))))))))))))))))))))
        exact ⟨by refine congrArg (fun z => Ending.returned (.bool z)) ?_; first | (simp_all [PV.good, gr0]; done) | (simp_all [PV.good, gr0]; omega), (LW.step E XLW).toBelow⟩
      ·
       refine za rfl (zd rfl (za rfl (zd rfl (za rfl (zd rfl (za rfl (zm rfl rfl (mvx rfl (za rfl (zd rfl (za rfl (zd rfl (za rfl (zd rfl (za rfl (zm rfl rfl (mvx rfl (za rfl (zd rfl (za rfl (zd rfl (za rfl (zd rfl (za rfl (zm rfl rfl (anx rfl (zo (zr (zh (zn (rs := [.tmp 2]) (vs := [_]) rfl ⟨rfl, trivial⟩ ?_))))))))))))))))))))))))))))))
       exact ⟨by refine congrArg (fun z => Ending.returned (.bool z)) ?_; first | (simp_all [PV.good, gr0]; done) | (simp_all [PV.good, gr0]; omega), (LW.step E XLW).toBelow⟩
     ·
      refine yd 52 (.bool false) rfl (congrArg Value.bool h10) ?_;replace h10 := beq_eq_false_iff_ne.1 h10;refine srx (za rfl (yl rfl rfl (anx rfl (yv rfl (fun h14 => ?_) (fun h14 => ?_)))))
      ·
       refine yd 72 (.bool true) rfl (congrArg Value.bool h14) ?_;replace h14 := eq_of_beq h14;subst h14;refine srx (mvx rfl (mvx rfl (vp 75 rfl (fun h15 => ?_) (fun h15 => ?_))))
       ·
        replace h15 := eq_of_beq h15;refine onx rfl (zf Try.underlying43 rfl sz4 (by decide) rfl (onx rfl (zk Try.underlying4 rfl rfl (HF.on E).here.2 rfl (onx rfl (qa rfl (za rfl (ya rfl rfl (mvx rfl (vp 80 rfl (fun h16 => ?_) (fun h16 => ?_))))))))))
        ·
         refine onx rfl (zf Try.underlying43 rfl sz9 (by decide) rfl (onx rfl (zk Try.underlying9 rfl rfl (HF.on E).here.2 rfl (onx rfl (zpk rfl rfl (za rfl (ya rfl rfl (anx rfl (zo (zr (zh (zn (rs := [.tmp 2]) (vs := [_]) rfl ⟨rfl, trivial⟩ ?_))))))))))))
         exact ⟨by refine congrArg (fun z => Ending.returned (.bool z)) ?_; first | (simp_all [PV.good, gr0]; done) | (simp_all [PV.good, gr0]; omega), (LW.step E XLW).toBelow⟩
        ·
         refine za rfl (zd rfl (za rfl (zd rfl (za rfl (zd rfl (za rfl (zm rfl rfl (anx rfl (zo (zr (zh (zn (rs := [.tmp 2]) (vs := [_]) rfl ⟨rfl, trivial⟩ ?_))))))))))))
         exact ⟨by refine congrArg (fun z => Ending.returned (.bool z)) ?_; first | (simp_all [PV.good, gr0]; done) | (simp_all [PV.good, gr0]; omega), (LW.step E XLW).toBelow⟩
       ·
        replace h15 := beq_eq_false_iff_ne.1 h15;refine za rfl (zd rfl (za rfl (zd rfl (za rfl (zd rfl (za rfl (zm rfl rfl (mvx rfl (za rfl (zd rfl (za rfl (zd rfl (za rfl (zd rfl (za rfl (zm rfl rfl (anx rfl (zo (zr (zh (zn (rs := [.tmp 2]) (vs := [_]) rfl ⟨rfl, trivial⟩ ?_)))))))))))))))))))))
        exact ⟨by refine congrArg (fun z => Ending.returned (.bool z)) ?_; first | (simp_all [PV.good, gr0]; done) | (simp_all [PV.good, gr0]; omega), (LW.step E XLW).toBelow⟩
      ·
       refine yd 72 (.bool false) rfl (congrArg Value.bool h14) ?_;replace h14 := beq_eq_false_iff_ne.1 h14;refine srx (za rfl (yl rfl rfl (anx rfl (yv rfl (fun h17 => ?_) (fun h17 => ?_)))))
       ·
        refine yd 85 (.bool true) rfl (congrArg Value.bool h17) ?_;replace h17 := eq_of_beq h17;subst h17;refine srx (mvx rfl (mvx rfl (vp 88 rfl (fun h18 => ?_) (fun h18 => ?_))))
        ·
         replace h18 := eq_of_beq h18;refine onx rfl (zf Try.underlying43 rfl sz4 (by decide) rfl (onx rfl (zk Try.underlying4 rfl rfl (HF.on E).here.2 rfl (onx rfl (qa rfl (za rfl (ya rfl rfl (mvx rfl (vp 93 rfl (fun h19 => ?_) (fun h19 => ?_))))))))))
         ·
          refine onx rfl (zf Try.underlying43 rfl vc (by decide) rfl (onx rfl (zk Try.underlying25 rfl rfl (HF.on E).here.2 rfl (onx rfl (yl rfl rfl (za rfl (ya rfl rfl (mvx rfl (vp 98 rfl (fun h20 => ?_) (fun h20 => ?_))))))))))
          ·
           replace h20 := eq_of_beq h20;refine onx rfl (zf Try.underlying43 rfl sz9 (by decide) rfl (onx rfl (zk Try.underlying9 rfl rfl (HF.on E).here.2 rfl (onx rfl (zyv Try.underlying9 rfl (onx rfl (kr rfl rfl (za rfl (ya rfl rfl (anx rfl (zo (zr (zh (zn (rs := [.tmp 2]) (vs := [_]) rfl ⟨rfl, trivial⟩ ?_))))))))))))))
           exact ⟨by refine congrArg (fun z => Ending.returned (.bool z)) ?_; first | (simp_all [PV.good, gr0]; done) | (simp_all [PV.good, gr0]; omega), (LW.step E XLW).toBelow⟩
          ·
           replace h20 := beq_eq_false_iff_ne.1 h20;refine za rfl (zd rfl (za rfl (zd rfl (za rfl (zd rfl (za rfl (zd rfl (za rfl (zm rfl rfl (anx rfl (zo (zr (zh (zn (rs := [.tmp 2]) (vs := [_]) rfl ⟨rfl, trivial⟩ ?_))))))))))))))
           exact ⟨by refine congrArg (fun z => Ending.returned (.bool z)) ?_; first | (simp_all [PV.good, gr0]; done) | (simp_all [PV.good, gr0]; omega), (LW.step E XLW).toBelow⟩
         ·
          refine za rfl (zd rfl (za rfl (zd rfl (za rfl (zd rfl (za rfl (zm rfl rfl (mvx rfl (za rfl (zd rfl (za rfl (zd rfl (za rfl (zd rfl (za rfl (zd rfl (za rfl (zm rfl rfl (anx rfl (zo (zr (zh (zn (rs := [.tmp 2]) (vs := [_]) rfl ⟨rfl, trivial⟩ ?_)))))))))))))))))))))))
          exact ⟨by refine congrArg (fun z => Ending.returned (.bool z)) ?_; first | (simp_all [PV.good, gr0]; done) | (simp_all [PV.good, gr0]; omega), (LW.step E XLW).toBelow⟩
        ·
         replace h18 := beq_eq_false_iff_ne.1 h18
         refine za rfl (zd rfl (za rfl (zd rfl (za rfl (zd rfl (za rfl (zm rfl rfl (mvx rfl (za rfl (zd rfl (za rfl (zd rfl (za rfl (zd rfl (za rfl (zm rfl rfl (mvx rfl (za rfl (zd rfl (za rfl (zd rfl (za rfl (zd rfl (za rfl (zd rfl (za rfl (zm rfl rfl (anx rfl (zo (zr (zh (zn (rs := [.tmp 2]) (vs := [_]) rfl ⟨rfl, trivial⟩ ?_))))))))))))))))))))))))))))))))
         exact ⟨by refine congrArg (fun z => Ending.returned (.bool z)) ?_; first | (simp_all [PV.good, gr0]; done) | (simp_all [PV.good, gr0]; omega), (LW.step E XLW).toBelow⟩
       ·
        refine yd 85 (.bool false) rfl (congrArg Value.bool h17) ?_;replace h17 := beq_eq_false_iff_ne.1 h17;refine zt (zx (zj (srx (anx rfl (zo (zn (rs := [.tmp 2]) (vs := [_]) rfl ⟨rfl, trivial⟩ ?_))))))
        exact ⟨by refine congrArg (fun z => Ending.returned (.bool z)) ?_; first | (simp_all [PV.good, gr0]; done) | (simp_all [PV.good, gr0]; omega), (LW.step E XLW).toBelow⟩
  ·
   refine za rfl (zd rfl (za rfl (zd rfl (za rfl (zd rfl (za rfl (zd rfl (za rfl (zd rfl (za rfl (zm rfl rfl (anx rfl (zl (srx (za rfl (zf Try.underlying43 rfl sz3 (by decide) rfl (za rfl (zk Try.underlying3 rfl rfl (HF.on E).here.2 rfl (rnx (yh (srx (za rfl (yl rfl rfl (anx rfl (yv rfl (fun h21 => ?_) (fun h21 => ?_))))))))))))))))))))))))))
   ·
    refine yd 21 (.bool true) rfl (congrArg Value.bool h21) ?_;replace h21 := eq_of_beq h21;subst h21;refine srx (za rfl (zf Try.underlying43 rfl sz4 (by decide) rfl (za rfl (zk Try.underlying4 rfl rfl (HF.on E).here.2 rfl (za rfl (qa rfl (mvx rfl (vp 26 rfl (fun h22 => ?_) (fun h22 => ?_)))))))))
    ·
     refine onx rfl (zp rfl (za rfl (ya rfl rfl (mvx rfl (za rfl (zd rfl (za rfl (zd rfl (za rfl (zd rfl (za rfl (zm rfl rfl (mvx rfl (za rfl (zd rfl (za rfl (zd rfl (za rfl (zd rfl (za rfl (zm rfl rfl (anx rfl (zo (zr (zh (zn (rs := [.tmp 2]) (vs := [_]) rfl ⟨rfl, trivial⟩ ?_))))))))))))))))))))))))))
     exact ⟨by refine congrArg (fun z => Ending.returned (.bool z)) ?_; first | (simp_all [PV.good, gr0]; done) | (simp_all [PV.good, gr0]; omega), (LW.step E XLW).toBelow⟩
    ·
     refine za rfl (zd rfl (za rfl (zm rfl rfl (mvx rfl (za rfl (zd rfl (za rfl (zd rfl (za rfl (zd rfl (za rfl (zm rfl rfl (mvx rfl (za rfl (zd rfl (za rfl (zd rfl (za rfl (zd rfl (za rfl (zm rfl rfl (anx rfl (zo (zr (zh (zn (rs := [.tmp 2]) (vs := [_]) rfl ⟨rfl, trivial⟩ ?_))))))))))))))))))))))))))
     exact ⟨by refine congrArg (fun z => Ending.returned (.bool z)) ?_; first | (simp_all [PV.good, gr0]; done) | (simp_all [PV.good, gr0]; omega), (LW.step E XLW).toBelow⟩
   ·
    refine yd 21 (.bool false) rfl (congrArg Value.bool h21) ?_;replace h21 := beq_eq_false_iff_ne.1 h21;refine srx (za rfl (yl rfl rfl (anx rfl (yv rfl (fun h23 => ?_) (fun h23 => ?_)))))
    ·
     refine yd 39 (.bool true) rfl (congrArg Value.bool h23) ?_;replace h23 := eq_of_beq h23;subst h23
     refine srx (mvx rfl (mvx rfl (za rfl (zd rfl (za rfl (zd rfl (za rfl (zd rfl (za rfl (zm rfl rfl (mvx rfl (za rfl (zd rfl (za rfl (zd rfl (za rfl (zd rfl (za rfl (zm rfl rfl (anx rfl (zo (zr (zh (zn (rs := [.tmp 2]) (vs := [_]) rfl ⟨rfl, trivial⟩ ?_))))))))))))))))))))))))
     exact ⟨by refine congrArg (fun z => Ending.returned (.bool z)) ?_; first | (simp_all [PV.good, gr0]; done) | (simp_all [PV.good, gr0]; omega), (LW.step E XLW).toBelow⟩
    ·
     refine yd 39 (.bool false) rfl (congrArg Value.bool h23) ?_;replace h23 := beq_eq_false_iff_ne.1 h23;refine srx (za rfl (yl rfl rfl (anx rfl (yv rfl (fun h24 => ?_) (fun h24 => ?_)))))
     ·
      refine yd 52 (.bool true) rfl (congrArg Value.bool h24) ?_;replace h24 := eq_of_beq h24;subst h24;refine srx (za rfl (zf Try.underlying43 rfl vk (by decide) rfl (za rfl (ow_loadP Try.underlying40 rfl vk rfl (HF.on E).here.2 rfl rfl (za rfl (zi en39 rfl ((vv neg c _ A xs hl (HF.on E).here.1.2).mono ?_)))))));rintro e w4 ⟨rfl, hb⟩
      refine ⟨_, rfl, ?_⟩;replace E := blx E hb;refine mvx rfl (vp 57 rfl (fun h25 => ?_) (fun h25 => ?_))
      ·
       refine onx rfl (zf Try.underlying43 rfl sz4 (by decide) rfl (onx rfl (zk Try.underlying4 rfl rfl (HF.on E).here.2 rfl (onx rfl (qa rfl (za rfl (ya rfl rfl (mvx rfl (vp 62 rfl (fun h26 => ?_) (fun h26 => ?_))))))))))
       ·
        refine onx rfl (zf Try.underlying43 rfl vc (by decide) rfl (onx rfl (zk Try.underlying25 rfl rfl (HF.on E).here.2 rfl (onx rfl (yl rfl rfl (za rfl (ya rfl rfl (mvx rfl (vp 67 rfl (fun h27 => ?_) (fun h27 => ?_))))))))))
        ·
         replace h27 := eq_of_beq h27;refine onx rfl (zf Try.underlying43 rfl sz9 (by decide) rfl (onx rfl (zk Try.underlying9 rfl rfl (HF.on E).here.2 rfl (onx rfl (zpk rfl rfl (za rfl (ya rfl rfl (anx rfl (zo (zr (zh (zn (rs := [.tmp 2]) (vs := [_]) rfl ⟨rfl, trivial⟩ ?_))))))))))))
         exact ⟨by refine congrArg (fun z => Ending.returned (.bool z)) ?_; first | (simp_all [PV.good, gr0]; done) | (simp_all [PV.good, gr0]; omega), (LW.step E XLW).toBelow⟩
        ·
         replace h27 := beq_eq_false_iff_ne.1 h27;refine za rfl (zd rfl (za rfl (zd rfl (za rfl (zd rfl (za rfl (zm rfl rfl (anx rfl (zo (zr (zh (zn (rs := [.tmp 2]) (vs := [_]) rfl ⟨rfl, trivial⟩ ?_))))))))))))
         exact ⟨by refine congrArg (fun z => Ending.returned (.bool z)) ?_; first | (simp_all [PV.good, gr0]; done) | (simp_all [PV.good, gr0]; omega), (LW.step E XLW).toBelow⟩
       ·
        refine za rfl (zd rfl (za rfl (zd rfl (za rfl (zd rfl (za rfl (zm rfl rfl (mvx rfl (za rfl (zd rfl (za rfl (zd rfl (za rfl (zd rfl (za rfl (zm rfl rfl (anx rfl (zo (zr (zh (zn (rs := [.tmp 2]) (vs := [_]) rfl ⟨rfl, trivial⟩ ?_)))))))))))))))))))))
        exact ⟨by refine congrArg (fun z => Ending.returned (.bool z)) ?_; first | (simp_all [PV.good, gr0]; done) | (simp_all [PV.good, gr0]; omega), (LW.step E XLW).toBelow⟩
      ·
       refine za rfl (zd rfl (za rfl (zd rfl (za rfl (zd rfl (za rfl (zm rfl rfl (mvx rfl (za rfl (zd rfl (za rfl (zd rfl (za rfl (zd rfl (za rfl (zm rfl rfl (mvx rfl (za rfl (zd rfl (za rfl (zd rfl (za rfl (zd rfl (za rfl (zm rfl rfl (anx rfl (zo (zr (zh (zn (rs := [.tmp 2]) (vs := [_]) rfl ⟨rfl, trivial⟩ ?_))))))))))))))))))))))))))))))
       exact ⟨by refine congrArg (fun z => Ending.returned (.bool z)) ?_; first | (simp_all [PV.good, gr0]; done) | (simp_all [PV.good, gr0]; omega), (LW.step E XLW).toBelow⟩
     ·
      refine yd 52 (.bool false) rfl (congrArg Value.bool h24) ?_;replace h24 := beq_eq_false_iff_ne.1 h24;refine srx (za rfl (yl rfl rfl (anx rfl (yv rfl (fun h28 => ?_) (fun h28 => ?_)))))
      ·
       refine yd 72 (.bool true) rfl (congrArg Value.bool h28) ?_;replace h28 := eq_of_beq h28;subst h28
       refine srx (mvx rfl (mvx rfl (za rfl (zd rfl (za rfl (zd rfl (za rfl (zd rfl (za rfl (zm rfl rfl (mvx rfl (za rfl (zd rfl (za rfl (zd rfl (za rfl (zd rfl (za rfl (zm rfl rfl (anx rfl (zo (zr (zh (zn (rs := [.tmp 2]) (vs := [_]) rfl ⟨rfl, trivial⟩ ?_))))))))))))))))))))))))
       exact ⟨by refine congrArg (fun z => Ending.returned (.bool z)) ?_; first | (simp_all [PV.good, gr0]; done) | (simp_all [PV.good, gr0]; omega), (LW.step E XLW).toBelow⟩
      ·
       refine yd 72 (.bool false) rfl (congrArg Value.bool h28) ?_;replace h28 := beq_eq_false_iff_ne.1 h28;refine srx (za rfl (yl rfl rfl (anx rfl (yv rfl (fun h29 => ?_) (fun h29 => ?_)))))
       ·
        refine yd 85 (.bool true) rfl (congrArg Value.bool h29) ?_;replace h29 := eq_of_beq h29;subst h29
        refine srx (mvx rfl (mvx rfl (za rfl (zd rfl (za rfl (zd rfl (za rfl (zd rfl (za rfl (zm rfl rfl (mvx rfl (za rfl (zd rfl (za rfl (zd rfl (za rfl (zd rfl (za rfl (zm rfl rfl (mvx rfl (za rfl (zd rfl (za rfl (zd rfl (za rfl (zd rfl (za rfl (zd rfl (za rfl (zm rfl rfl (anx rfl (zo (zr (zh (zn (rs := [.tmp 2]) (vs := [_]) rfl ⟨rfl, trivial⟩ ?_)))))))))))))))))))))))))))))))))))
        exact ⟨by refine congrArg (fun z => Ending.returned (.bool z)) ?_; first | (simp_all [PV.good, gr0]; done) | (simp_all [PV.good, gr0]; omega), (LW.step E XLW).toBelow⟩
       ·
        refine yd 85 (.bool false) rfl (congrArg Value.bool h29) ?_;replace h29 := beq_eq_false_iff_ne.1 h29;refine zt (zx (zj (srx (anx rfl (zo (zn (rs := [.tmp 2]) (vs := [_]) rfl ⟨rfl, trivial⟩ ?_))))))
        exact ⟨by refine congrArg (fun z => Ending.returned (.bool z)) ?_; first | (simp_all [PV.good, gr0]; done) | (simp_all [PV.good, gr0]; omega), (LW.step E XLW).toBelow⟩
end
end Go.Proofs.Ytebjkmjfcijebaa
namespace Go.Proofs.Ytebjkmjfcijebaa
end Go.Proofs.Ytebjkmjfcijebaa
namespace Go.Proofs.Ytebjkmjfcijebaa
open Go.RowKit
set_option maxRecDepth 100000
attribute [local irreducible] OW RS
end Go.Proofs.Ytebjkmjfcijebaa
namespace Go.Proofs.Ytebjkmjfcijebaa
open Go.RowKit
set_option maxRecDepth 100000
attribute [local irreducible] OW RS
def smallW (n : Int) : Nat := if 0 ≤ n then 4 * n.natAbs + 1 else 18446744073709551617 - 4 * n.natAbs
section
variable (w : World) (n : Int) (h1 : -999999999999999999 ≤ n) (h2 : n ≤ 999999999999999999)
include h1 h2
end
end Go.Proofs.Ytebjkmjfcijebaa
namespace Go.Proofs.Ytebjkmjfcijebaa
open Go.RowKit
set_option maxRecDepth 100000
attribute [local irreducible] OW RS
theorem NewM.rest {W V : List Nat} {top h i j : Nat} (hN : NewM W V top h i) (hz : ∀ i, top ≤ i → wat W i = 0) (hj : top + 2 + i ≤ j) (hl : j < W.length) : V.set j 0 = V := by
 refine set_zero (by rw [hN.1]; exact hl) ?_;rw [hN.2 j hl, if_neg (by omega), if_neg (by omega)];exact hz j (by omega)
theorem OwnM.same {lo gm gW cap top : Nat} {w w' : World} {W : List Nat} (h : OwnM lo w gm gW cap W top) (ho : w'.ownsRow lo 25 1 (.slice (some ⟨gW, 0, none⟩) W.length cap) W.length (qu W)) (k : Ext (Mut [some gW]) w w') : OwnM lo w' gm gW cap W top :=
 ⟨znv h.mb h.row (by decide) k, ho, h.in_, h.one, h.len, h.most⟩
section
variable (w : World) (A : Option Addr) (W : List Nat) (c n top k t r : Nat) (hM : MemA n w A W top) (hk : 1 ≤ k ∧ k < 256) (ht : t ≤ 1048576) (hr : r ≤ 1048576)
include hM hk ht hr
end
end Go.Proofs.Ytebjkmjfcijebaa
namespace Go.Proofs.Ytebjkmjfcijebaa
open Go.RowKit
set_option maxRecDepth 100000
attribute [local irreducible] OW RS
section
variable (w : World) (A B C : Option Addr) (W T R : List Nat) (c cb cc n top k : Nat) (hM : MemA n w A W top) (hT : WordsA n w B T) (hR : WordsA n w C R) (hk : 1 ≤ k ∧ k < 256) (ht : T.length ≤ 1048576) (hr : R.length ≤ 1048576)
include hM hT hR hk ht hr
end
end Go.Proofs.Ytebjkmjfcijebaa
namespace Go.Proofs.Ytebjkmjfcijebaa
open Go.RowKit
set_option maxRecDepth 100000
attribute [local irreducible] OW RS
def hwN (s : ByteArray) (m : Nat) : Nat → Nat
 | 0 => 0
 | r + 1 => hwN s m r * 256 + xp s (8 * m + 7 - r)
theorem wordsV_snoc (W : List Nat) (x : Nat) : qu W ++ [.int .u64 ((x : Nat) : Int)] = qu (W ++ [x]) := by unfold qu; rw [List.map_append]; rfl
end Go.Proofs.Ytebjkmjfcijebaa
namespace Go.Proofs.Ytebjkmjfcijebaa
set_option maxRecDepth 100000
def jh (W : List Nat) (a i : Nat) : Nat := if i + 2 < yk (wat W a) then wat W (a + 2 + i) else 0
theorem getW_in {W : List Nat} {a i : Nat} (h : i + 2 < yk (wat W a)) : jh W a i = wat W (a + 2 + i) := if_pos h
theorem getW_out {W : List Nat} {a i : Nat} (h : ¬ i + 2 < yk (wat W a)) : jh W a i = 0 := if_neg h
theorem zvq {W : List Nat} (hW : ∀ x ∈ W, U64 x) (a i : Nat) : U64 (jh W a i) := by
 unfold jh;split
 · exact zcx hW _
 · exact (by decide : (0 : Nat) < 18446744073709551616)
noncomputable def lkB (W : List Nat) (top x : Nat) : Bool := @decide (yu x = 0 ∧ Seen W top (x / 4)) (Classical.propDecidable _)
def lkA (x : Nat) : Nat := if yu x = 0 then x / 4 else 0
noncomputable def lkK (W : List Nat) (top x : Nat) : Nat := if lkB W top x then yr (wat W (x / 4)) else 0
noncomputable def lkT (W : List Nat) (top x : Nat) : Nat := if lkB W top x then yy (wat W (x / 4)) else 0
noncomputable def lkR (W : List Nat) (top x : Nat) : Nat := if lkB W top x then yk (wat W (x / 4)) - 2 - yy (wat W (x / 4)) else 0
noncomputable def gdW (W : List Nat) (top x : Nat) : Bool := if yu x = 0 then lkB W top x else (((yu x : Nat) : Int) != 3)
def nmI (x : Nat) : Int := if yu x = 1 then wnum x else 0
def nmE (x : Nat) : Int := if yu x = 1 then 0 else 9
section
variable {W : List Nat} {top x : Nat}
theorem ywx (hk : yu x = 0) (hS : Seen W top (x / 4)) : lkB W top x = true := @decide_eq_true _ (Classical.propDecidable _) ⟨hk, hS⟩
theorem yfq (h : ¬ (yu x = 0 ∧ Seen W top (x / 4))) : lkB W top x = false := @decide_eq_false _ (Classical.propDecidable _) h
theorem zuk (h : lkB W top x = true) : yu x = 0 ∧ Seen W top (x / 4) := @of_decide_eq_true _ (Classical.propDecidable _) h
theorem lkK_yes (hk : yu x = 0) (hS : Seen W top (x / 4)) : lkK W top x = yr (wat W (x / 4)) := by unfold lkK; rw [ywx hk hS]; rfl
theorem lkT_yes (hk : yu x = 0) (hS : Seen W top (x / 4)) : lkT W top x = yy (wat W (x / 4)) := by unfold lkT; rw [ywx hk hS]; rfl
theorem lkR_yes (hk : yu x = 0) (hS : Seen W top (x / 4)) : lkR W top x = yk (wat W (x / 4)) - 2 - yy (wat W (x / 4)) := by unfold lkR; rw [ywx hk hS]; rfl
theorem lkK_no (h : ¬ (yu x = 0 ∧ Seen W top (x / 4))) : lkK W top x = 0 := by unfold lkK; rw [yfq h]; rfl
theorem lkT_no (h : ¬ (yu x = 0 ∧ Seen W top (x / 4))) : lkT W top x = 0 := by unfold lkT; rw [yfq h]; rfl
theorem lkR_no (h : ¬ (yu x = 0 ∧ Seen W top (x / 4))) : lkR W top x = 0 := by unfold lkR; rw [yfq h]; rfl
theorem yjv (h : yu x = 0) : lkA x = x / 4 := if_pos h
theorem lkA_1 (h : yu x ≠ 0) : lkA x = 0 := if_neg h
theorem gdW_0 (h : yu x = 0) : gdW W top x = lkB W top x := if_pos h
theorem gdW_1 (h : yu x ≠ 0) : gdW W top x = (((yu x : Nat) : Int) != 3) := if_neg h
theorem nmI_yes (h : yu x = 1) : nmI x = wnum x := if_pos h
theorem nmI_no (h : yu x ≠ 1) : nmI x = 0 := if_neg h
theorem yvk (h : yu x = 1) : nmE x = 0 := if_pos h
theorem nmE_no (h : yu x ≠ 1) : nmE x = 9 := if_neg h
theorem wkind_1 (h : yu x = 1) : x % 4 = 1 := by
 unfold yu at h;split at h
 · split at h <;> cases h
 · split at h
   · rename_i h1; exact h1
   · split at h
     · split at h <;> cases h
     · cases h
theorem wkind_2 (h : yu x = 2) : x % 4 = 2 ∧ x < 18 := by
 unfold yu at h;split at h
 · split at h <;> cases h
 · split at h
   · split at h <;> cases h
   · split at h
     · rename_i h2
       split at h
       · rename_i h3; exact ⟨h2, h3⟩
       · cases h
     · cases h
theorem nmI_in : -999999999999999999 ≤ nmI x ∧ nmI x ≤ 999999999999999999 := by
 unfold nmI;split
 · rename_i h
   unfold yu at h;split at h
   · split at h <;> cases h
   · split at h
     · split at h
       · rename_i h2; exact ⟨h2.2, h2.1⟩
       · cases h
     · split at h
       · split at h <;> cases h
       · cases h
 · omega
end
/-! ### what a word is taken for -/
def vd (W : List Nat) (a n : Nat) : List Nat := (List.range n).map (jh W a)
theorem zaz (W : List Nat) (a n : Nat) : (vd W a n).length = n := by unfold vd; simp
theorem ymv {W : List Nat} {a n i : Nat} (h : i < n) : (vd W a n)[i]? = some (jh W a i) := by
 unfold vd;rw [List.getElem?_map, List.getElem?_range h]; rfl
theorem wordsO_snoc (W : List Nat) (a n : Nat) : vd W a n ++ [jh W a n] = vd W a (n + 1) := by
 unfold vd;rw [List.range_succ, List.map_append]; rfl
theorem zoz {W : List Nat} (hW : ∀ x ∈ W, U64 x) (a n : Nat) : ∀ x ∈ vd W a n, U64 x := fun x hx => by
 unfold vd at hx;obtain ⟨i, _, rfl⟩ := List.mem_map.1 hx;exact zvq hW a i
def byW (R : List Nat) (i : Nat) : UInt8 := UInt8.ofNat (wat R (1 + i / 8) / 2 ^ (8 * (i % 8)))
def ka (R : List Nat) : ByteArray := ⟨((List.range (wat R 0)).map (byW R)).toArray⟩
theorem ytx (R : List Nat) : (ka R).size = wat R 0 := by unfold ka ByteArray.size; simp
def vNil : PV := ⟨0, false, false, [], 0, ⟨#[]⟩, 0⟩
def vBool (b : Bool) : PV := ⟨1, b, false, [], 0, ⟨#[]⟩, 0⟩
def vInt (n : Bool) (xs : List Nat) : PV := ⟨2, false, n, xs, 0, ⟨#[]⟩, 0⟩
def vFlt (b : Nat) : PV := ⟨3, false, false, [], b, ⟨#[]⟩, 0⟩
def vStr (s : ByteArray) : PV := ⟨4, false, false, [], 0, s, 0⟩
def textO (R : List Nat) : Option PV := if xb (ka R) = R then some (vStr (ka R)) else none
def zik (k : Nat) (R : List Nat) : Option PV :=
 if k = 2 ∧ 2 < R.length ∧ wat R 0 ≤ 1 then (if qr (decide (wat R 0 = 1)) R.tail then some (vInt (decide (wat R 0 = 1)) R.tail) else none)
 else if k = 3 ∧ R.length = 1 ∧ wat R 0 = jn (vm (jn (vm (wat R 0)))) then some (vFlt (wat R 0))
 else if k = 4 ∧ 0 < R.length ∧ wat R 0 ≤ 20000 ∧ R.length = 1 + (wat R 0 + 7) / 8 then textO R else none
noncomputable def jp (W : List Nat) (top x : Nat) : Option PV :=
 if yu x = 1 then some (vInt (decide (wnum x < 0)) (limbs (wnum x)))
 else if x = 2 then some vNil else if x = 6 then some (vBool false) else if x = 10 then some (vBool true)
 else if lkB W top x = true ∧ lkT W top x = 0 then zik (lkK W top x) (vd W (x / 4) (lkR W top x)) else none
theorem rawO_kind {k : Nat} {R : List Nat} {v : PV} (h : zik k R = some v) : k = 2 ∨ k = 3 ∨ k = 4 := by
 unfold zik at h;split at h
 · rename_i h1; exact Or.inl h1.1
 · split at h
   · rename_i h1; exact Or.inr (Or.inl h1.1)
   · split at h
     · rename_i h1; exact Or.inr (Or.inr h1.1)
     · cases h
theorem takeO_kind {W : List Nat} {top x : Nat} {v : PV} (h : jp W top x = some v) : lkK W top x ≠ 5 ∧ lkK W top x ≠ 6 := by
 have hz : ∀ {k}, yu x = k → k ≠ 0 → lkK W top x ≠ 5 ∧ lkK W top x ≠ 6 := fun {k} h0 h1 => by
  rw [lkK_no (fun h => h1 (h0.symm.trans h.1))]; decide
 unfold jp at h;split at h
 · rename_i h1; exact hz h1 (by decide)
 · split at h
   · rename_i h1; subst h1; exact hz (k := 2) (by decide) (by decide)
   · split at h
     · rename_i h1; subst h1; exact hz (k := 2) (by decide) (by decide)
     · split at h
       · rename_i h1; subst h1; exact hz (k := 2) (by decide) (by decide)
       · split at h
         · have := rawO_kind h; omega
         · cases h
theorem takeO_bits {W : List Nat} {top x : Nat} {v : PV} (hW : ∀ y ∈ W, U64 y) (h : jp W top x = some v) : v.bits < 18446744073709551616 := by
 have h0 : (0 : Nat) < 18446744073709551616 := by decide
 unfold jp at h;split at h
 · injection h with h; subst h; exact h0
 · split at h
   · injection h with h; subst h; exact h0
   · split at h
     · injection h with h; subst h; exact h0
     · split at h
       · injection h with h; subst h; exact h0
       · split at h
         · unfold zik at h;split at h
           · split at h
             · injection h with h; subst h; exact h0
             · cases h
           · split at h
             · injection h with h; subst h
               have := zoz hW (x / 4) (lkR W top x);exact zcx this 0
             · split at h
               · unfold textO at h;split at h
                 · injection h with h; subst h; exact h0
                 · cases h
               · cases h
         · cases h
/-! ### items -/
def lsN (W : List Nat) (x : Nat) : Int := nmI (jh W (x / 4) 0)
noncomputable def lsSp (W : List Nat) (top x : Nat) : Nat := if jh W (x / 4) 1 = 2 then 0 else lkT W top (jh W (x / 4) 1)
def lsBk (W : List Nat) (x : Nat) : Nat := if jh W (x / 4) 1 = 2 then 0 else jh W (x / 4) 1 / 4
structure IsLs (W : List Nat) (top x : Nat) : Prop where
 look : lkB W top x = true
 kind : lkK W top x = 5
 tag : lkT W top x = 2
 raw : lkR W top x = 0
 num : yu (jh W (x / 4) 0) = 1
 pos : 0 ≤ lsN W x
 blk : jh W (x / 4) 1 ≠ 2 → lkB W top (jh W (x / 4) 1) = true ∧ lkK W top (jh W (x / 4) 1) = 11
 fit : lsN W x ≤ ((lsSp W top x : Nat) : Int)
noncomputable def gz (W : List Nat) (top x : Nat) : Option (List Nat) := by
 classical exact if lkB W top x = true then (if lkK W top x = 6 then some (vd W (x / 4) (lkT W top x)) else if IsLs W top x then some (vd W (lsBk W x) (lsN W x).toNat) else none) else none
end Go.Proofs.Ytebjkmjfcijebaa
namespace Go.Proofs.Ytebjkmjfcijebaa
open Go.RowKit
set_option maxRecDepth 100000
attribute [local irreducible] OW RS
section
variable (w : World) (A : Option Addr) (W : List Nat) (c n top a : Nat) (hM : MemA n w A W top) (h1 : 1 ≤ a) (ha : a ≤ 1048576) (hS : ¬ Seen W top a)
include hM h1 ha hS
theorem alook_no : Calls Try.prog 59 #[xj A W c top, .int .i64 ((a : Nat) : Int)] w fun e w' => (∃ x k t s : Int, e = .returned (.tuple #[.agg #[.int .i64 x, .int .i64 k, .int .i64 t, .int .i64 s], .bool false])) ∧ Below w.heap.size w w' := by
 have h3 := hM.len;have h4 := hM.most;refine yb Try.func59 rfl Try.ntmps59 rfl (srx (za rfl (yt rfl ?_)));rintro g2 wA B2a E1 G1;refine za rfl (ym zgx ?_);rintro g4 wB B4 E2 G2;have B2 : Blk wB g2 24 #[.slice A W.length c, .int .i64 ((top : Nat) : Int)] := B2a.ext E2 (fun h => h.elim);have hE := E1.trans E2;have hMB := hM.no hE;have hs1 := E1.size;have h2b := B2.lt
 have h4b := B4.lt;refine anx rfl (zl (srx (za rfl (zf Try.underlying24 rfl sz3 (by decide) rfl (za rfl (zk Try.underlying3 rfl rfl B2 rfl (za rfl (qo rfl rfl ?_))))))));by_cases ht3 : top < 3
 ·
  refine zq 10 (.bool true) rfl ((by rw [decide_eq_true]; omega : (.bool (decide (((top : Nat) : Int) < 3)) : Value) = _)) (mvx rfl (za rfl (zd rfl (za rfl (zd rfl (za rfl (zd rfl (za rfl (zd rfl (za rfl (zd rfl (za rfl (zd rfl (za rfl (ya rfl rfl (mvx rfl (za rfl (zd rfl (za rfl (zd rfl (za rfl (ya rfl rfl (mvx rfl (za rfl (zd rfl (za rfl (zd rfl (za rfl (zd rfl (za rfl (zd rfl (za rfl (zd rfl (za rfl (ya rfl rfl (rnx (ye rfl (srx (za rfl (qb (cs := #[.int .i64 0, .int .i64 0, .int .i64 0, .int .i64 0]) pl107 zgx rfl rfl (yn (yi kk rfl rfl B4 rfl rfl rfl ?_))))))))))))))))))))))))))))))))))))))))))
  rintro wE B4E E5;refine anx rfl (zo (zh (zn (rs := [.cell 4 107, .tmp 5]) (vs := [_, _]) rfl ⟨⟨_, rfl, qk Try.underlying107 rfl kk B4E rfl⟩, rfl, trivial⟩ ?_)));exact ⟨⟨_, _, _, _, rfl⟩, ((hE.noL w.heap.size).step E5 (fun q hq => Or.inl (show w.heap.size ≤ q by have := qd hq; omega))).below (fun _ h => h)⟩
 ·
  refine zq 10 (.bool false) rfl ((by rw [decide_eq_false]; omega : (.bool (decide (((top : Nat) : Int) < 3)) : Value) = _)) (mvx rfl (onx rfl (zf Try.underlying24 rfl sz3 (by decide) rfl (onx rfl (zk Try.underlying3 rfl rfl B2 rfl (onx rfl (zf Try.underlying24 rfl kl (by decide) rfl (onx rfl (zk Try.underlying22 rfl rfl B2 rfl (onx rfl (qe Try.underlying22 rfl (onx rfl (vf rfl rfl (zq 17 (.bool false) rfl ((by rw [decide_eq_false]; omega : (.bool (decide (((W.length : Nat) : Int) < ((top : Nat) : Int))) : Value) = _)) (za rfl (zm rfl rfl (mvx rfl (onx rfl (zp rfl (onx rfl (qo rfl rfl (zq 21 (.bool false) rfl ((by rw [decide_eq_false]; omega : (.bool (decide (((a : Nat) : Int) < 1)) : Value) = _)) (za rfl (zm rfl rfl (mvx rfl (onx rfl (zp rfl (onx rfl (zf Try.underlying24 rfl sz3 (by decide) rfl (onx rfl (zk Try.underlying3 rfl rfl B2 rfl (onx rfl (vq rfl rfl (zy (by omega)) (onx rfl (jr rfl rfl ?_)))))))))))))))))))))))))))))))))))
  by_cases hin : top < a + 2
  ·
   refine zq 28 (.bool true) rfl ((by rw [decide_eq_true]; omega : (.bool (decide (((top : Nat) : Int) - 1 ≤ ((a : Nat) : Int))) : Value) = _)) (za rfl (zm rfl rfl (rnx (ye rfl (srx (za rfl (qb (cs := #[.int .i64 0, .int .i64 0, .int .i64 0, .int .i64 0]) pl107 zgx rfl rfl (yn (yi kk rfl rfl B4 rfl rfl rfl ?_)))))))));rintro wE B4E E5
   refine anx rfl (zo (zh (zn (rs := [.cell 4 107, .tmp 5]) (vs := [_, _]) rfl ⟨⟨_, rfl, qk Try.underlying107 rfl kk B4E rfl⟩, rfl, trivial⟩ ?_)));exact ⟨⟨_, _, _, _, rfl⟩, ((hE.noL w.heap.size).step E5 (fun q hq => Or.inl (show w.heap.size ≤ q by have := qd hq; omega))).below (fun _ h => h)⟩
  ·
   refine zq 28 (.bool false) rfl ((by rw [decide_eq_false]; omega : (.bool (decide (((top : Nat) : Int) - 1 ≤ ((a : Nat) : Int))) : Value) = _)) ?_;have haW : a < W.length := by omega
   have hu : wat W a < 18446744073709551616 := zcx hM.words.in_ a;have h8 := ykx (wat W a);have h9 := yak (wat W a);have h10 := zcv (wat W a);refine za rfl (zm rfl rfl (rnx (zw rfl (zt (zj (srx (za rfl (zf Try.underlying24 rfl kl (by decide) rfl (za rfl (zk Try.underlying22 rfl rfl B2 rfl ?_))))))))))
   obtain ⟨gm, om, hA, hgm, hcm⟩ := hMB.words.at haW
   refine mvx rfl (za rfl (yc (j := a) Try.underlying22 vc (congrArg (fun z ↦ some (Value.slice z W.length c)) hA) rfl rfl haW (za rfl (qm Try.underlying25 rfl rfl hcm (anx rfl (srx (mvx rfl (mvx rfl (za rfl (xr rfl rfl (zbk (y := 255) (k := 8) hu (by decide) rfl) (zq 38 (.int .u64 ((yr (wat W a) : Nat) : Int)) rfl (rfl) (za rfl (qc Try.underlying3 Try.underlying25 rfl (zy (by omega)) (mvx rfl (za rfl (ju rfl rfl (by decide) (yhk (k := 8) (by decide)) (za rfl (xr rfl rfl (zbk (y := 16777215) (k := 24) (by omega) (by decide) rfl) (zq 42 (.int .u64 ((yy (wat W a) : Nat) : Int)) rfl (rfl) (za rfl (qc Try.underlying3 Try.underlying25 rfl (zy (by omega)) (mvx rfl (za rfl (ju rfl rfl (by decide) (yhk (k := 32) (by decide)) (za rfl (xr rfl rfl (zbk (y := 16777215) (k := 24) (by omega) (by decide) rfl) (zq 46 (.int .u64 ((yk (wat W a) : Nat) : Int)) rfl (rfl) (za rfl (qc Try.underlying3 Try.underlying25 rfl (zy (by omega)) (za rfl (qb (cs := #[.int .i64 ((a : Nat) : Int), .int .i64 ((yr (wat W a) : Nat) : Int), .int .i64 ((yy (wat W a) : Nat) : Int), .int .i64 ((yk (wat W a) : Nat) : Int)]) pl107 zgx rfl rfl (za rfl (ym zgx ?_)))))))))))))))))))))))))))))))))
   rintro g7 wC B70 E3 G3;refine yn (yi kk rfl rfl B70 rfl rfl rfl ?_);rintro wD B71 E4;have B7 : Blk wD g7 107 #[.int .i64 ((a : Nat) : Int), .int .i64 ((yr (wat W a) : Nat) : Int), .int .i64 ((yy (wat W a) : Nat) : Int), .int .i64 ((yk (wat W a) : Nat) : Int)] := B71
   have hX : Ext (fun q => wB.heap.size ≤ q) wB wD := (E3.noL wB.heap.size).step E4 (fun q hq => Or.inl (show wB.heap.size ≤ q by have := qd hq; omega));have B2D := B2.ext hX (fun h => by have h : wB.heap.size ≤ g2 := h; omega);have B4D := B4.ext hX (fun h => by have h : wB.heap.size ≤ g4 := h; omega);have h74 : ¬ Mut [some g4] g7 := fun h => by have := qd h; omega
   have h24 : ¬ Mut [some g4] g2 := fun h => by have := qd h; have := B2a.lt; omega
   by_cases hk : 0 < yr (wat W a)
   ·
    by_cases hf : yy (wat W a) + 2 ≤ yk (wat W a)
    ·
     have hr : ¬ a + yk (wat W a) ≤ top := fun hr ↦ hS ⟨h1, by omega, h3, hk, hf, hr⟩;refine rnx (zl (zbz vu (zbv 23 rfl ?_)))
     refine zwq 21 (Mut [some g4]) (fun k hk => (by have := qd hk; have := B4D.lt; omega : k < wD.heap.size)) (gg [Fx.of (.agg #[.int .i64 ((a : Nat) : Int), .int .i64 ((yr (wat W a) : Nat) : Int), .int .i64 ((yy (wat W a) : Nat) : Int), .int .i64 ((yk (wat W a) : Nat) : Int)]),
      Fx.of (.pointer (some ⟨g7, 1, none⟩)),
      Fx.of (.int .i64 ((yr (wat W a) : Nat) : Int)),
      Fx.of (.bool true),
      Fx.of (.bool true),
      Fx.of (.pointer (some ⟨g7, 3, none⟩)),
      Fx.of (.int .i64 ((yk (wat W a) : Nat) : Int)),
      Fx.of (.pointer (some ⟨g7, 2, none⟩)),
      Fx.of (.int .i64 ((yy (wat W a) : Nat) : Int)),
      Fx.of (.int .i64 (2 + ((yy (wat W a) : Nat) : Int))),
      Fx.of (.bool true),
      Fx.of (.bool true),
      Fx.of (.bool true),
      Fx.of (.pointer (some ⟨g7, 3, none⟩)),
      Fx.of (.int .i64 ((yk (wat W a) : Nat) : Int)),
      Fx.of (.pointer (some ⟨g2, 1, none⟩)),
      Fx.of (.int .i64 ((top : Nat) : Int)),
      Fx.of (.int .i64 ((a : Nat) : Int)),
      Fx.of (.int .i64 (((top : Nat) : Int) - ((a : Nat) : Int))),
      Fx.of (.bool false),
      Fx.of (.bool false),
      ⟨World, fun w9 => undef, fun w9 b => (Blk b g4 107 #[.int .i64 ((a : Nat) : Int), .int .i64 ((yr (wat W a) : Nat) : Int), .int .i64 ((yy (wat W a) : Nat) : Int), .int .i64 ((yk (wat W a) : Nat) : Int)])⟩,
      Fx.of (.bool false)]) rfl ?_ ?_
     · refine ⟨?_, ?_, ?_, ?_, ?_, ?_, ?_, ?_, ?_, ?_, ?_, ?_, ?_, ?_, ?_, ?_, ?_, ?_, ?_, ?_, ?_, ?_, ?_, trivial⟩
       · intro vs X wq K KQ;have LE := K.1;exact zz Try.underlying107 rfl kk rfl (jt LE h74 B7) rfl ⟨Below.refl _ _, Left.of rfl⟩
       · intro vs X wq K KQ;exact zf Try.underlying107 rfl sz3 (by decide) rfl ⟨Below.refl _ _, Left.of rfl⟩
       · intro vs X wq K KQ;have LE := K.1;obtain ⟨_, e1, k1⟩ := K.dep 1 rfl rfl rfl;refine zc 50 (.pointer (some ⟨g7, 1, none⟩)) rfl e1 ?_;exact zk Try.underlying3 rfl rfl (jt LE h74 B7) rfl ⟨Below.refl _ _, Left.of rfl⟩
       · intro vs X wq K KQ;obtain ⟨_, e2, k2⟩ := K.dep 2 rfl rfl rfl;refine zc 51 (.int .i64 ((yr (wat W a) : Nat) : Int)) rfl e2 ?_;exact vf rfl rfl ⟨Below.refl _ _, Left.of ((by rw [decide_eq_true]; omega : (.bool (decide (0 < ((yr (wat W a) : Nat) : Int))) : Value) = _))⟩
       · intro vs X wq K KQ;obtain ⟨_, e3, k3⟩ := K.dep 3 rfl rfl rfl;refine zc 52 (.bool true) rfl e3 ?_;exact zp rfl ⟨Below.refl _ _, Left.of rfl⟩
       · intro vs X wq K KQ;obtain ⟨_, e4, k4⟩ := K.dep 4 rfl rfl rfl;refine zc 53 (.bool true) rfl e4 ?_;exact yg rfl (zf Try.underlying107 rfl sz3 (by decide) rfl ⟨Below.refl _ _, Left.of rfl⟩)
       · intro vs X wq K KQ;have LE := K.1;obtain ⟨_, e5, k5⟩ := K.dep 5 rfl rfl rfl;refine zc 54 (.pointer (some ⟨g7, 3, none⟩)) rfl e5 ?_;obtain ⟨_, e4, k4⟩ := K.dep 4 rfl rfl rfl;refine zc 53 (.bool true) rfl e4 ?_;exact yg rfl (zk Try.underlying3 rfl rfl (jt LE h74 B7) rfl ⟨Below.refl _ _, Left.of rfl⟩)
       · intro vs X wq K KQ;obtain ⟨_, e4, k4⟩ := K.dep 4 rfl rfl rfl;refine zc 53 (.bool true) rfl e4 ?_;exact yg rfl (zf Try.underlying107 rfl sz3 (by decide) rfl ⟨Below.refl _ _, Left.of rfl⟩)
       · intro vs X wq K KQ;have LE := K.1;obtain ⟨_, e7, k7⟩ := K.dep 7 rfl rfl rfl;refine zc 56 (.pointer (some ⟨g7, 2, none⟩)) rfl e7 ?_;obtain ⟨_, e4, k4⟩ := K.dep 4 rfl rfl rfl;refine zc 53 (.bool true) rfl e4 ?_;exact yg rfl (zk Try.underlying3 rfl rfl (jt LE h74 B7) rfl ⟨Below.refl _ _, Left.of rfl⟩)
       · intro vs X wq K KQ;obtain ⟨_, e8, k8⟩ := K.dep 8 rfl rfl rfl;refine zc 57 (.int .i64 ((yy (wat W a) : Nat) : Int)) rfl e8 ?_;obtain ⟨_, e4, k4⟩ := K.dep 4 rfl rfl rfl;refine zc 53 (.bool true) rfl e4 ?_;exact yg rfl (yp rfl rfl (zy (by omega)) ⟨Below.refl _ _, Left.of rfl⟩)
       · intro vs X wq K KQ;obtain ⟨_, e6, k6⟩ := K.dep 6 rfl rfl rfl;refine zc 55 (.int .i64 ((yk (wat W a) : Nat) : Int)) rfl e6 ?_;obtain ⟨_, e9, k9⟩ := K.dep 9 rfl rfl rfl;refine zc 58 (.int .i64 (2 + ((yy (wat W a) : Nat) : Int))) rfl e9 ?_;obtain ⟨_, e4, k4⟩ := K.dep 4 rfl rfl rfl;refine zc 53 (.bool true) rfl e4 ?_
         exact yg rfl (jr rfl rfl ⟨Below.refl _ _, Left.of ((by rw [decide_eq_true]; omega : (.bool (decide ((2 + ((yy (wat W a) : Nat) : Int)) ≤ ((yk (wat W a) : Nat) : Int))) : Value) = _))⟩)
       · intro vs X wq K KQ;obtain ⟨_, e4, k4⟩ := K.dep 4 rfl rfl rfl;refine zc 53 (.bool true) rfl e4 ?_;obtain ⟨_, e10, k10⟩ := K.dep 10 rfl rfl rfl;refine zc 59 (.bool true) rfl e10 ?_;exact ya rfl rfl ⟨Below.refl _ _, Left.of rfl⟩
       · intro vs X wq K KQ;obtain ⟨_, e11, k11⟩ := K.dep 11 rfl rfl rfl;refine zc 60 (.bool true) rfl e11 ?_;exact zp rfl ⟨Below.refl _ _, Left.of rfl⟩
       · intro vs X wq K KQ;obtain ⟨_, e12, k12⟩ := K.dep 12 rfl rfl rfl;refine zc 61 (.bool true) rfl e12 ?_;exact yg rfl (zf Try.underlying107 rfl sz3 (by decide) rfl ⟨Below.refl _ _, Left.of rfl⟩)
       · intro vs X wq K KQ;have LE := K.1;obtain ⟨_, e13, k13⟩ := K.dep 13 rfl rfl rfl;refine zc 62 (.pointer (some ⟨g7, 3, none⟩)) rfl e13 ?_;obtain ⟨_, e12, k12⟩ := K.dep 12 rfl rfl rfl;refine zc 61 (.bool true) rfl e12 ?_;exact yg rfl (zk Try.underlying3 rfl rfl (jt LE h74 B7) rfl ⟨Below.refl _ _, Left.of rfl⟩)
       · intro vs X wq K KQ;obtain ⟨_, e12, k12⟩ := K.dep 12 rfl rfl rfl;refine zc 61 (.bool true) rfl e12 ?_;exact yg rfl (zf Try.underlying24 rfl sz3 (by decide) rfl ⟨Below.refl _ _, Left.of rfl⟩)
       · intro vs X wq K KQ;have LE := K.1;obtain ⟨_, e15, k15⟩ := K.dep 15 rfl rfl rfl;refine zc 64 (.pointer (some ⟨g2, 1, none⟩)) rfl e15 ?_;obtain ⟨_, e12, k12⟩ := K.dep 12 rfl rfl rfl;refine zc 61 (.bool true) rfl e12 ?_;exact yg rfl (zk Try.underlying3 rfl rfl (jt LE h24 B2D) rfl ⟨Below.refl _ _, Left.of rfl⟩)
       · intro vs X wq K KQ;obtain ⟨_, e12, k12⟩ := K.dep 12 rfl rfl rfl;refine zc 61 (.bool true) rfl e12 ?_;exact yg rfl (zp rfl ⟨Below.refl _ _, Left.of rfl⟩)
       · intro vs X wq K KQ;obtain ⟨_, e16, k16⟩ := K.dep 16 rfl rfl rfl;refine zc 65 (.int .i64 ((top : Nat) : Int)) rfl e16 ?_;obtain ⟨_, e17, k17⟩ := K.dep 17 rfl rfl rfl;refine zc 66 (.int .i64 ((a : Nat) : Int)) rfl e17 ?_;obtain ⟨_, e12, k12⟩ := K.dep 12 rfl rfl rfl;refine zc 61 (.bool true) rfl e12 ?_
         exact yg rfl (vq rfl rfl (zy (by omega)) ⟨Below.refl _ _, Left.of rfl⟩)
       · intro vs X wq K KQ;obtain ⟨_, e14, k14⟩ := K.dep 14 rfl rfl rfl;refine zc 63 (.int .i64 ((yk (wat W a) : Nat) : Int)) rfl e14 ?_;obtain ⟨_, e18, k18⟩ := K.dep 18 rfl rfl rfl;refine zc 67 (.int .i64 (((top : Nat) : Int) - ((a : Nat) : Int))) rfl e18 ?_;obtain ⟨_, e12, k12⟩ := K.dep 12 rfl rfl rfl;refine zc 61 (.bool true) rfl e12 ?_
         exact yg rfl (kr rfl rfl ⟨Below.refl _ _, Left.of ((by rw [decide_eq_false]; omega : (.bool (decide (((yk (wat W a) : Nat) : Int) ≤ (((top : Nat) : Int) - ((a : Nat) : Int)))) : Value) = _))⟩)
       · intro vs X wq K KQ;obtain ⟨_, e12, k12⟩ := K.dep 12 rfl rfl rfl;refine zc 61 (.bool true) rfl e12 ?_;obtain ⟨_, e19, k19⟩ := K.dep 19 rfl rfl rfl;refine zc 68 (.bool false) rfl e19 ?_;exact ya rfl rfl ⟨Below.refl _ _, Left.of rfl⟩
       · intro vs X wq K KQ;have LQ := KQ rfl;obtain ⟨_, e0, k0⟩ := K.dep 0 rfl rfl rfl;refine zc 49 (.agg #[.int .i64 ((a : Nat) : Int), .int .i64 ((yr (wat W a) : Nat) : Int), .int .i64 ((yy (wat W a) : Nat) : Int), .int .i64 ((yk (wat W a) : Nat) : Int)]) rfl e0 (yi kk rfl rfl (qj LQ B4D) rfl rfl rfl ?_);intro w9 B9 hb
         exact ⟨hb, ⟨w9, rfl, (fun z hz => B9.ext hz (fun h => h.elim))⟩⟩
       · intro vs X wq K KQ;obtain ⟨_, e20, k20⟩ := K.dep 20 rfl rfl rfl;refine zc 69 (.bool false) rfl e20 ?_;exact yw rfl ⟨Below.refl _ _, Left.of rfl⟩
     intro vs w1 LE AO AL AF AA;have hxd : Ext (Mut [some g4]) (wD) w1 := ((Ext.refl _ (wD)).drew).trans LE;obtain ⟨w9, e21, k21⟩ := AL.2.2.2.2.2.2.2.2.2.2.2.2.2.2.2.2.2.2.2.2.2.1;obtain ⟨_, e22, k22⟩ := AL.2.2.2.2.2.2.2.2.2.2.2.2.2.2.2.2.2.2.2.2.2.2.1;have Wc21 := k21.here;refine qy (τ := [(4, _), (5, .bool false)]) ⟨rfl, congrArg some e22, trivial⟩ ?_;clear AL AF AA AO
     refine znq (kq (by kernel_rfl) (fun _ _ d_ _ _ h => by cases d_ <;> exact h) ?_);have B4E := Wc21;refine rnx (zo (zn (rs := [.cell 4 107, .tmp 5]) (vs := [_, _]) rfl ⟨⟨_, rfl, qk Try.underlying107 rfl kk B4E rfl⟩, rfl, trivial⟩ ?_))
     exact ⟨⟨_, _, _, _, rfl⟩, (((hE.noL w.heap.size).step hX (fun q hq => Or.inl (show w.heap.size ≤ q by have hq : wB.heap.size ≤ q := hq; have := hE.size; omega))).step hxd (fun q hq => Or.inl (show w.heap.size ≤ q by have := qd hq; omega))).below (fun _ h => h)⟩
    ·
     refine rnx (zl (zbz vu (zbv 23 rfl ?_)));refine zwq 21 (Mut [some g4]) (fun k hk => (by have := qd hk; have := B4D.lt; omega : k < wD.heap.size)) (gg [Fx.of (.agg #[.int .i64 ((a : Nat) : Int), .int .i64 ((yr (wat W a) : Nat) : Int), .int .i64 ((yy (wat W a) : Nat) : Int), .int .i64 ((yk (wat W a) : Nat) : Int)]),
      Fx.of (.pointer (some ⟨g7, 1, none⟩)),
      Fx.of (.int .i64 ((yr (wat W a) : Nat) : Int)),
      Fx.of (.bool true),
      Fx.of (.bool true),
      Fx.of (.pointer (some ⟨g7, 3, none⟩)),
      Fx.of (.int .i64 ((yk (wat W a) : Nat) : Int)),
      Fx.of (.pointer (some ⟨g7, 2, none⟩)),
      Fx.of (.int .i64 ((yy (wat W a) : Nat) : Int)),
      Fx.of (.int .i64 (2 + ((yy (wat W a) : Nat) : Int))),
      Fx.of (.bool false),
      Fx.of (.bool false),
      Fx.of (.bool false),
      Fx.of undef,
      Fx.of undef,
      Fx.of undef,
      Fx.of undef,
      Fx.of undef,
      Fx.of undef,
      Fx.of undef,
      Fx.of (.bool false),
      ⟨World, fun w9 => undef, fun w9 b => (Blk b g4 107 #[.int .i64 ((a : Nat) : Int), .int .i64 ((yr (wat W a) : Nat) : Int), .int .i64 ((yy (wat W a) : Nat) : Int), .int .i64 ((yk (wat W a) : Nat) : Int)])⟩,
      Fx.of (.bool false)]) rfl ?_ ?_
     · refine ⟨?_, ?_, ?_, ?_, ?_, ?_, ?_, ?_, ?_, ?_, ?_, ?_, ?_, ?_, ?_, ?_, ?_, ?_, ?_, ?_, ?_, ?_, ?_, trivial⟩
       · intro vs X wq K KQ;have LE := K.1;exact zz Try.underlying107 rfl kk rfl (jt LE h74 B7) rfl ⟨Below.refl _ _, Left.of rfl⟩
       · intro vs X wq K KQ;exact zf Try.underlying107 rfl sz3 (by decide) rfl ⟨Below.refl _ _, Left.of rfl⟩
       · intro vs X wq K KQ;have LE := K.1;obtain ⟨_, e1, k1⟩ := K.dep 1 rfl rfl rfl;refine zc 50 (.pointer (some ⟨g7, 1, none⟩)) rfl e1 ?_;exact zk Try.underlying3 rfl rfl (jt LE h74 B7) rfl ⟨Below.refl _ _, Left.of rfl⟩
       · intro vs X wq K KQ;obtain ⟨_, e2, k2⟩ := K.dep 2 rfl rfl rfl;refine zc 51 (.int .i64 ((yr (wat W a) : Nat) : Int)) rfl e2 ?_;exact vf rfl rfl ⟨Below.refl _ _, Left.of ((by rw [decide_eq_true]; omega : (.bool (decide (0 < ((yr (wat W a) : Nat) : Int))) : Value) = _))⟩
       · intro vs X wq K KQ;obtain ⟨_, e3, k3⟩ := K.dep 3 rfl rfl rfl;refine zc 52 (.bool true) rfl e3 ?_;exact zp rfl ⟨Below.refl _ _, Left.of rfl⟩
       · intro vs X wq K KQ;obtain ⟨_, e4, k4⟩ := K.dep 4 rfl rfl rfl;refine zc 53 (.bool true) rfl e4 ?_;exact yg rfl (zf Try.underlying107 rfl sz3 (by decide) rfl ⟨Below.refl _ _, Left.of rfl⟩)
       · intro vs X wq K KQ;have LE := K.1;obtain ⟨_, e5, k5⟩ := K.dep 5 rfl rfl rfl;refine zc 54 (.pointer (some ⟨g7, 3, none⟩)) rfl e5 ?_;obtain ⟨_, e4, k4⟩ := K.dep 4 rfl rfl rfl;refine zc 53 (.bool true) rfl e4 ?_;exact yg rfl (zk Try.underlying3 rfl rfl (jt LE h74 B7) rfl ⟨Below.refl _ _, Left.of rfl⟩)
       · intro vs X wq K KQ;obtain ⟨_, e4, k4⟩ := K.dep 4 rfl rfl rfl;refine zc 53 (.bool true) rfl e4 ?_;exact yg rfl (zf Try.underlying107 rfl sz3 (by decide) rfl ⟨Below.refl _ _, Left.of rfl⟩)
       · intro vs X wq K KQ;have LE := K.1;obtain ⟨_, e7, k7⟩ := K.dep 7 rfl rfl rfl;refine zc 56 (.pointer (some ⟨g7, 2, none⟩)) rfl e7 ?_;obtain ⟨_, e4, k4⟩ := K.dep 4 rfl rfl rfl;refine zc 53 (.bool true) rfl e4 ?_;exact yg rfl (zk Try.underlying3 rfl rfl (jt LE h74 B7) rfl ⟨Below.refl _ _, Left.of rfl⟩)
       · intro vs X wq K KQ;obtain ⟨_, e8, k8⟩ := K.dep 8 rfl rfl rfl;refine zc 57 (.int .i64 ((yy (wat W a) : Nat) : Int)) rfl e8 ?_;obtain ⟨_, e4, k4⟩ := K.dep 4 rfl rfl rfl;refine zc 53 (.bool true) rfl e4 ?_;exact yg rfl (yp rfl rfl (zy (by omega)) ⟨Below.refl _ _, Left.of rfl⟩)
       · intro vs X wq K KQ;obtain ⟨_, e6, k6⟩ := K.dep 6 rfl rfl rfl;refine zc 55 (.int .i64 ((yk (wat W a) : Nat) : Int)) rfl e6 ?_;obtain ⟨_, e9, k9⟩ := K.dep 9 rfl rfl rfl;refine zc 58 (.int .i64 (2 + ((yy (wat W a) : Nat) : Int))) rfl e9 ?_;obtain ⟨_, e4, k4⟩ := K.dep 4 rfl rfl rfl;refine zc 53 (.bool true) rfl e4 ?_
         exact yg rfl (jr rfl rfl ⟨Below.refl _ _, Left.of ((by rw [decide_eq_false]; omega : (.bool (decide ((2 + ((yy (wat W a) : Nat) : Int)) ≤ ((yk (wat W a) : Nat) : Int))) : Value) = _))⟩)
       · intro vs X wq K KQ;obtain ⟨_, e4, k4⟩ := K.dep 4 rfl rfl rfl;refine zc 53 (.bool true) rfl e4 ?_;obtain ⟨_, e10, k10⟩ := K.dep 10 rfl rfl rfl;refine zc 59 (.bool false) rfl e10 ?_;exact ya rfl rfl ⟨Below.refl _ _, Left.of rfl⟩
       · intro vs X wq K KQ;obtain ⟨_, e11, k11⟩ := K.dep 11 rfl rfl rfl;refine zc 60 (.bool false) rfl e11 ?_;exact zp rfl ⟨Below.refl _ _, Left.of rfl⟩
       · intro vs X wq K KQ;obtain ⟨_, e12, k12⟩ := K.dep 12 rfl rfl rfl;refine zc 61 (.bool false) rfl e12 ?_;exact zd rfl ⟨Below.refl _ _, Left.of rfl⟩
       · intro vs X wq K KQ;obtain ⟨_, e13, k13⟩ := K.dep 13 rfl rfl rfl;refine zc 62 (undef) rfl e13 ?_;obtain ⟨_, e12, k12⟩ := K.dep 12 rfl rfl rfl;refine zc 61 (.bool false) rfl e12 ?_;exact zd rfl ⟨Below.refl _ _, Left.of rfl⟩
       · intro vs X wq K KQ;obtain ⟨_, e12, k12⟩ := K.dep 12 rfl rfl rfl;refine zc 61 (.bool false) rfl e12 ?_;exact zd rfl ⟨Below.refl _ _, Left.of rfl⟩
       · intro vs X wq K KQ;obtain ⟨_, e15, k15⟩ := K.dep 15 rfl rfl rfl;refine zc 64 (undef) rfl e15 ?_;obtain ⟨_, e12, k12⟩ := K.dep 12 rfl rfl rfl;refine zc 61 (.bool false) rfl e12 ?_;exact zd rfl ⟨Below.refl _ _, Left.of rfl⟩
       · intro vs X wq K KQ;obtain ⟨_, e12, k12⟩ := K.dep 12 rfl rfl rfl;refine zc 61 (.bool false) rfl e12 ?_;exact zd rfl ⟨Below.refl _ _, Left.of rfl⟩
       · intro vs X wq K KQ;obtain ⟨_, e16, k16⟩ := K.dep 16 rfl rfl rfl;refine zc 65 (undef) rfl e16 ?_;obtain ⟨_, e17, k17⟩ := K.dep 17 rfl rfl rfl;refine zc 66 (undef) rfl e17 ?_;obtain ⟨_, e12, k12⟩ := K.dep 12 rfl rfl rfl;refine zc 61 (.bool false) rfl e12 ?_;exact zd rfl ⟨Below.refl _ _, Left.of rfl⟩
       · intro vs X wq K KQ;obtain ⟨_, e14, k14⟩ := K.dep 14 rfl rfl rfl;refine zc 63 (undef) rfl e14 ?_;obtain ⟨_, e18, k18⟩ := K.dep 18 rfl rfl rfl;refine zc 67 (undef) rfl e18 ?_;obtain ⟨_, e12, k12⟩ := K.dep 12 rfl rfl rfl;refine zc 61 (.bool false) rfl e12 ?_;exact zd rfl ⟨Below.refl _ _, Left.of rfl⟩
       · intro vs X wq K KQ;obtain ⟨_, e12, k12⟩ := K.dep 12 rfl rfl rfl;refine zc 61 (.bool false) rfl e12 ?_;obtain ⟨_, e19, k19⟩ := K.dep 19 rfl rfl rfl;refine zc 68 (undef) rfl e19 ?_;exact zm rfl rfl ⟨Below.refl _ _, Left.of rfl⟩
       · intro vs X wq K KQ;have LQ := KQ rfl;obtain ⟨_, e0, k0⟩ := K.dep 0 rfl rfl rfl;refine zc 49 (.agg #[.int .i64 ((a : Nat) : Int), .int .i64 ((yr (wat W a) : Nat) : Int), .int .i64 ((yy (wat W a) : Nat) : Int), .int .i64 ((yk (wat W a) : Nat) : Int)]) rfl e0 (yi kk rfl rfl (qj LQ B4D) rfl rfl rfl ?_);intro w9 B9 hb
         exact ⟨hb, ⟨w9, rfl, (fun z hz => B9.ext hz (fun h => h.elim))⟩⟩
       · intro vs X wq K KQ;obtain ⟨_, e20, k20⟩ := K.dep 20 rfl rfl rfl;refine zc 69 (.bool false) rfl e20 ?_;exact yw rfl ⟨Below.refl _ _, Left.of rfl⟩
     intro vs w2 LE AO AL AF AA;have hxd : Ext (Mut [some g4]) (wD) w2 := ((Ext.refl _ (wD)).drew).trans LE;obtain ⟨w9, e21, k21⟩ := AL.2.2.2.2.2.2.2.2.2.2.2.2.2.2.2.2.2.2.2.2.2.1;obtain ⟨_, e22, k22⟩ := AL.2.2.2.2.2.2.2.2.2.2.2.2.2.2.2.2.2.2.2.2.2.2.1;have Wc21 := k21.here;refine qy (τ := [(4, _), (5, .bool false)]) ⟨rfl, congrArg some e22, trivial⟩ ?_;clear AL AF AA AO
     refine znq (kq (by kernel_rfl) (fun _ _ d_ _ _ h => by cases d_ <;> exact h) ?_);have B4E := Wc21;refine rnx (zo (zn (rs := [.cell 4 107, .tmp 5]) (vs := [_, _]) rfl ⟨⟨_, rfl, qk Try.underlying107 rfl kk B4E rfl⟩, rfl, trivial⟩ ?_))
     exact ⟨⟨_, _, _, _, rfl⟩, (((hE.noL w.heap.size).step hX (fun q hq => Or.inl (show w.heap.size ≤ q by have hq : wB.heap.size ≤ q := hq; have := hE.size; omega))).step hxd (fun q hq => Or.inl (show w.heap.size ≤ q by have := qd hq; omega))).below (fun _ h => h)⟩
   ·
    refine rnx (zl (zbz vu (zbv 23 rfl ?_)));refine zwq 21 (Mut [some g4]) (fun k hk => (by have := qd hk; have := B4D.lt; omega : k < wD.heap.size)) (gg [Fx.of (.agg #[.int .i64 ((a : Nat) : Int), .int .i64 ((yr (wat W a) : Nat) : Int), .int .i64 ((yy (wat W a) : Nat) : Int), .int .i64 ((yk (wat W a) : Nat) : Int)]),
     Fx.of (.pointer (some ⟨g7, 1, none⟩)),
     Fx.of (.int .i64 ((yr (wat W a) : Nat) : Int)),
     Fx.of (.bool false),
     Fx.of (.bool false),
     Fx.of undef,
     Fx.of undef,
     Fx.of undef,
     Fx.of undef,
     Fx.of undef,
     Fx.of undef,
     Fx.of (.bool false),
     Fx.of (.bool false),
     Fx.of undef,
     Fx.of undef,
     Fx.of undef,
     Fx.of undef,
     Fx.of undef,
     Fx.of undef,
     Fx.of undef,
     Fx.of (.bool false),
     ⟨World, fun w9 => undef, fun w9 b => (Blk b g4 107 #[.int .i64 ((a : Nat) : Int), .int .i64 ((yr (wat W a) : Nat) : Int), .int .i64 ((yy (wat W a) : Nat) : Int), .int .i64 ((yk (wat W a) : Nat) : Int)])⟩,
     Fx.of (.bool false)]) rfl ?_ ?_
    · refine ⟨?_, ?_, ?_, ?_, ?_, ?_, ?_, ?_, ?_, ?_, ?_, ?_, ?_, ?_, ?_, ?_, ?_, ?_, ?_, ?_, ?_, ?_, ?_, trivial⟩
      · intro vs X wq K KQ;have LE := K.1;exact zz Try.underlying107 rfl kk rfl (jt LE h74 B7) rfl ⟨Below.refl _ _, Left.of rfl⟩
      · intro vs X wq K KQ;exact zf Try.underlying107 rfl sz3 (by decide) rfl ⟨Below.refl _ _, Left.of rfl⟩
      · intro vs X wq K KQ;have LE := K.1;obtain ⟨_, e1, k1⟩ := K.dep 1 rfl rfl rfl;refine zc 50 (.pointer (some ⟨g7, 1, none⟩)) rfl e1 ?_;exact zk Try.underlying3 rfl rfl (jt LE h74 B7) rfl ⟨Below.refl _ _, Left.of rfl⟩
      · intro vs X wq K KQ;obtain ⟨_, e2, k2⟩ := K.dep 2 rfl rfl rfl;refine zc 51 (.int .i64 ((yr (wat W a) : Nat) : Int)) rfl e2 ?_;exact vf rfl rfl ⟨Below.refl _ _, Left.of ((by rw [decide_eq_false]; omega : (.bool (decide (0 < ((yr (wat W a) : Nat) : Int))) : Value) = _))⟩
      · intro vs X wq K KQ;obtain ⟨_, e3, k3⟩ := K.dep 3 rfl rfl rfl;refine zc 52 (.bool false) rfl e3 ?_;exact zp rfl ⟨Below.refl _ _, Left.of rfl⟩
      · intro vs X wq K KQ;obtain ⟨_, e4, k4⟩ := K.dep 4 rfl rfl rfl;refine zc 53 (.bool false) rfl e4 ?_;exact zd rfl ⟨Below.refl _ _, Left.of rfl⟩
      · intro vs X wq K KQ;obtain ⟨_, e5, k5⟩ := K.dep 5 rfl rfl rfl;refine zc 54 (undef) rfl e5 ?_;obtain ⟨_, e4, k4⟩ := K.dep 4 rfl rfl rfl;refine zc 53 (.bool false) rfl e4 ?_;exact zd rfl ⟨Below.refl _ _, Left.of rfl⟩
      · intro vs X wq K KQ;obtain ⟨_, e4, k4⟩ := K.dep 4 rfl rfl rfl;refine zc 53 (.bool false) rfl e4 ?_;exact zd rfl ⟨Below.refl _ _, Left.of rfl⟩
      · intro vs X wq K KQ;obtain ⟨_, e7, k7⟩ := K.dep 7 rfl rfl rfl;refine zc 56 (undef) rfl e7 ?_;obtain ⟨_, e4, k4⟩ := K.dep 4 rfl rfl rfl;refine zc 53 (.bool false) rfl e4 ?_;exact zd rfl ⟨Below.refl _ _, Left.of rfl⟩
      · intro vs X wq K KQ;obtain ⟨_, e8, k8⟩ := K.dep 8 rfl rfl rfl;refine zc 57 (undef) rfl e8 ?_;obtain ⟨_, e4, k4⟩ := K.dep 4 rfl rfl rfl;refine zc 53 (.bool false) rfl e4 ?_;exact zd rfl ⟨Below.refl _ _, Left.of rfl⟩
      · intro vs X wq K KQ;obtain ⟨_, e6, k6⟩ := K.dep 6 rfl rfl rfl;refine zc 55 (undef) rfl e6 ?_;obtain ⟨_, e9, k9⟩ := K.dep 9 rfl rfl rfl;refine zc 58 (undef) rfl e9 ?_;obtain ⟨_, e4, k4⟩ := K.dep 4 rfl rfl rfl;refine zc 53 (.bool false) rfl e4 ?_;exact zd rfl ⟨Below.refl _ _, Left.of rfl⟩
      · intro vs X wq K KQ;obtain ⟨_, e4, k4⟩ := K.dep 4 rfl rfl rfl;refine zc 53 (.bool false) rfl e4 ?_;obtain ⟨_, e10, k10⟩ := K.dep 10 rfl rfl rfl;refine zc 59 (undef) rfl e10 ?_;exact zm rfl rfl ⟨Below.refl _ _, Left.of rfl⟩
      · intro vs X wq K KQ;obtain ⟨_, e11, k11⟩ := K.dep 11 rfl rfl rfl;refine zc 60 (.bool false) rfl e11 ?_;exact zp rfl ⟨Below.refl _ _, Left.of rfl⟩
      · intro vs X wq K KQ;obtain ⟨_, e12, k12⟩ := K.dep 12 rfl rfl rfl;refine zc 61 (.bool false) rfl e12 ?_;exact zd rfl ⟨Below.refl _ _, Left.of rfl⟩
      · intro vs X wq K KQ;obtain ⟨_, e13, k13⟩ := K.dep 13 rfl rfl rfl;refine zc 62 (undef) rfl e13 ?_;obtain ⟨_, e12, k12⟩ := K.dep 12 rfl rfl rfl;refine zc 61 (.bool false) rfl e12 ?_;exact zd rfl ⟨Below.refl _ _, Left.of rfl⟩
      · intro vs X wq K KQ;obtain ⟨_, e12, k12⟩ := K.dep 12 rfl rfl rfl;refine zc 61 (.bool false) rfl e12 ?_;exact zd rfl ⟨Below.refl _ _, Left.of rfl⟩
      · intro vs X wq K KQ;obtain ⟨_, e15, k15⟩ := K.dep 15 rfl rfl rfl;refine zc 64 (undef) rfl e15 ?_;obtain ⟨_, e12, k12⟩ := K.dep 12 rfl rfl rfl;refine zc 61 (.bool false) rfl e12 ?_;exact zd rfl ⟨Below.refl _ _, Left.of rfl⟩
      · intro vs X wq K KQ;obtain ⟨_, e12, k12⟩ := K.dep 12 rfl rfl rfl;refine zc 61 (.bool false) rfl e12 ?_;exact zd rfl ⟨Below.refl _ _, Left.of rfl⟩
      · intro vs X wq K KQ;obtain ⟨_, e16, k16⟩ := K.dep 16 rfl rfl rfl;refine zc 65 (undef) rfl e16 ?_;obtain ⟨_, e17, k17⟩ := K.dep 17 rfl rfl rfl;refine zc 66 (undef) rfl e17 ?_;obtain ⟨_, e12, k12⟩ := K.dep 12 rfl rfl rfl;refine zc 61 (.bool false) rfl e12 ?_;exact zd rfl ⟨Below.refl _ _, Left.of rfl⟩
      · intro vs X wq K KQ;obtain ⟨_, e14, k14⟩ := K.dep 14 rfl rfl rfl;refine zc 63 (undef) rfl e14 ?_;obtain ⟨_, e18, k18⟩ := K.dep 18 rfl rfl rfl;refine zc 67 (undef) rfl e18 ?_;obtain ⟨_, e12, k12⟩ := K.dep 12 rfl rfl rfl;refine zc 61 (.bool false) rfl e12 ?_;exact zd rfl ⟨Below.refl _ _, Left.of rfl⟩
      · intro vs X wq K KQ;obtain ⟨_, e12, k12⟩ := K.dep 12 rfl rfl rfl;refine zc 61 (.bool false) rfl e12 ?_;obtain ⟨_, e19, k19⟩ := K.dep 19 rfl rfl rfl;refine zc 68 (undef) rfl e19 ?_;exact zm rfl rfl ⟨Below.refl _ _, Left.of rfl⟩
      · intro vs X wq K KQ;have LQ := KQ rfl;obtain ⟨_, e0, k0⟩ := K.dep 0 rfl rfl rfl;refine zc 49 (.agg #[.int .i64 ((a : Nat) : Int), .int .i64 ((yr (wat W a) : Nat) : Int), .int .i64 ((yy (wat W a) : Nat) : Int), .int .i64 ((yk (wat W a) : Nat) : Int)]) rfl e0 (yi kk rfl rfl (qj LQ B4D) rfl rfl rfl ?_);intro w9 B9 hb
        exact ⟨hb, ⟨w9, rfl, (fun z hz => B9.ext hz (fun h => h.elim))⟩⟩
      · intro vs X wq K KQ;obtain ⟨_, e20, k20⟩ := K.dep 20 rfl rfl rfl;refine zc 69 (.bool false) rfl e20 ?_;exact yw rfl ⟨Below.refl _ _, Left.of rfl⟩
    intro vs w3 LE AO AL AF AA;have hxd : Ext (Mut [some g4]) (wD) w3 := ((Ext.refl _ (wD)).drew).trans LE;obtain ⟨w9, e21, k21⟩ := AL.2.2.2.2.2.2.2.2.2.2.2.2.2.2.2.2.2.2.2.2.2.1;obtain ⟨_, e22, k22⟩ := AL.2.2.2.2.2.2.2.2.2.2.2.2.2.2.2.2.2.2.2.2.2.2.1;have Wc21 := k21.here;refine qy (τ := [(4, _), (5, .bool false)]) ⟨rfl, congrArg some e22, trivial⟩ ?_;clear AL AF AA AO
    refine znq (kq (by kernel_rfl) (fun _ _ d_ _ _ h => by cases d_ <;> exact h) ?_);have B4E := Wc21;refine rnx (zo (zn (rs := [.cell 4 107, .tmp 5]) (vs := [_, _]) rfl ⟨⟨_, rfl, qk Try.underlying107 rfl kk B4E rfl⟩, rfl, trivial⟩ ?_))
    exact ⟨⟨_, _, _, _, rfl⟩, (((hE.noL w.heap.size).step hX (fun q hq => Or.inl (show w.heap.size ≤ q by have hq : wB.heap.size ≤ q := hq; have := hE.size; omega))).step hxd (fun q hq => Or.inl (show w.heap.size ≤ q by have := qd hq; omega))).below (fun _ h => h)⟩
theorem akind_no : Calls Try.prog 46 #[xj A W c top, .int .i64 ((a : Nat) : Int)] w fun e w' => e = .returned (.tuple #[.int .i64 0, .int .i64 1]) ∧ Below w.heap.size w w' := by
 refine yb Try.func46 rfl Try.ntmps46 rfl (srx (za rfl (yt rfl ?_)));rintro g1 wA B1 E1 G1;have hsA := E1.size;refine avx rfl (anx rfl (srx (za rfl (zz Try.underlying24 rfl qx rfl B1 rfl (mvx rfl (za rfl (zi en59 rfl ((alook_no _ A W c n top a (hM.no E1) h1 ha hS).mono ?_))))))));rintro e w1 ⟨⟨x, k, t, s, rfl⟩, hb⟩;refine ⟨_, rfl, ?_⟩
 have E2 := E1.trans (Ext.of_below hb No);have hs2 := (Ext.of_below hb No).size;refine mvx rfl (za rfl (zg rfl rfl (za rfl (zg rfl rfl (za rfl (ym zgx ?_))))));rintro g6 wB B60 E3 G6;refine yn (yi kk rfl rfl B60 rfl rfl rfl ?_);rintro wC B6 E4
 refine anx rfl (zl (srx (mvx rfl (za rfl (qa rfl (rnx (ye rfl (srx (avx rfl (anx rfl (zo (zh (zn (rs := [.tmp 4, .tmp 5]) (vs := [_, _]) rfl ⟨rfl, rfl, trivial⟩ ?_)))))))))))));exact ⟨rfl, (((E2.trans E3).noL w.heap.size).step E4 (fun q hq => Or.inl (show w.heap.size ≤ q by have := qd hq; omega))).below (fun _ h => h)⟩
theorem asize_no : Calls Try.prog 47 #[xj A W c top, .int .i64 ((a : Nat) : Int)] w fun e w' => e = .returned (.tuple #[.int .i64 0, .int .i64 0, .int .i64 1]) ∧ Below w.heap.size w w' := by
 refine yb Try.func47 rfl Try.ntmps47 rfl (srx (za rfl (yt rfl ?_)));rintro g1 wA B1 E1 G1;have hsA := E1.size;refine avx rfl (avx rfl (anx rfl (srx (za rfl (zz Try.underlying24 rfl qx rfl B1 rfl (mvx rfl (za rfl (zi en59 rfl ((alook_no _ A W c n top a (hM.no E1) h1 ha hS).mono ?_)))))))));rintro e w1 ⟨⟨x, k, t, s, rfl⟩, hb⟩;refine ⟨_, rfl, ?_⟩
 have E2 := E1.trans (Ext.of_below hb No);have hs2 := (Ext.of_below hb No).size;refine mvx rfl (za rfl (zg rfl rfl (za rfl (zg rfl rfl (za rfl (ym zgx ?_))))));rintro g6 wB B60 E3 G6;refine yn (yi kk rfl rfl B60 rfl rfl rfl ?_);rintro wC B6 E4
 refine anx rfl (zl (srx (mvx rfl (za rfl (qa rfl (rnx (ye rfl (srx (avx rfl (avx rfl (anx rfl (zo (zh (zn (rs := [.tmp 4, .tmp 5, .tmp 6]) (vs := [_, _, _]) rfl ⟨rfl, rfl, rfl, trivial⟩ ?_))))))))))))));exact ⟨rfl, (((E2.trans E3).noL w.heap.size).step E4 (fun q hq => Or.inl (show w.heap.size ≤ q by have := qd hq; omega))).below (fun _ h => h)⟩
end
section
variable (w : World) (A : Option Addr) (W : List Nat) (c n top a i : Nat) (hM : MemA n w A W top) (hS : Seen W top a)
theorem ahas_no (k t s : Nat) (hs : s < 16777216) (hi : ¬ i + 2 < s) : Calls Try.prog 60 #[.agg #[.int .i64 ((a : Nat) : Int), .int .i64 ((k : Nat) : Int), .int .i64 ((t : Nat) : Int), .int .i64 ((s : Nat) : Int)], .int .i64 ((i : Nat) : Int)] w fun e w' => e = .returned (.bool false) ∧ Below w.heap.size w w' := by
 refine yb Try.func60 rfl Try.ntmps60 rfl (srx (za rfl (yt rfl ?_)));rintro g1 wA B1 E1 G1
 refine anx rfl (srx (mvx rfl (za rfl (jr rfl rfl (zq 6 (.bool true) rfl ((by rw [decide_eq_true]; omega : (.bool (decide ((0 : Int) ≤ ((i : Nat) : Int))) : Value) = _)) (mvx rfl (onx rfl (zp rfl (onx rfl (zf Try.underlying107 rfl sz3 (by decide) rfl (onx rfl (zk Try.underlying3 rfl rfl B1 rfl (onx rfl (vq rfl rfl (zy (by omega)) (onx rfl (qo rfl rfl (zq 12 (.bool false) rfl ((by rw [decide_eq_false]; omega : (.bool (decide (((i : Nat) : Int) < ((s : Nat) : Int) - 2)) : Value) = _)) (za rfl (ya rfl rfl (anx rfl (zo (zn (rs := [.tmp 4]) (vs := [_]) rfl ⟨rfl, trivial⟩ ?_))))))))))))))))))))))
 exact ⟨rfl, E1.toBelow⟩
include hM hS
theorem aget_no (hi : ¬ i + 2 < yk (wat W a)) : Calls Try.prog 49 #[xj A W c top, .int .i64 ((a : Nat) : Int), .int .i64 ((i : Nat) : Int)] w fun e w' => e = .returned (.tuple #[.int .u64 0, .int .i64 1]) ∧ Below w.heap.size w w' := by
 have h10 := zcv (wat W a);refine yb Try.func49 rfl Try.ntmps49 rfl (srx (za rfl (yt rfl ?_)));rintro g1 wA B1 E1 G1;have hsA := E1.size;have h1l := B1.lt;refine avx rfl (anx rfl (srx (za rfl (zz Try.underlying24 rfl qx rfl B1 rfl (mvx rfl (za rfl (zi en59 rfl ((zuq _ A W c n top a (hM.no E1) hS).mono ?_))))))));rintro e w1 ⟨rfl, hb⟩;refine ⟨_, rfl, ?_⟩
 have E2 := E1.trans (Ext.of_below hb No);have hs2 := (Ext.of_below hb No).size;refine mvx rfl (za rfl (zg rfl rfl (za rfl (zg rfl rfl (za rfl (ym zgx ?_))))));rintro g6 wB B60 E3 G6;refine yn (yi kk rfl rfl B60 rfl rfl rfl ?_);rintro wC B6 E4
 have hEC := ((E2.trans E3).noL w.heap.size).step E4 (fun q hq => Or.inl (show w.heap.size ≤ q by have := qd hq; omega));refine anx rfl (zl (srx (mvx rfl (za rfl (qa rfl (mvx rfl (onx rfl (zz Try.underlying107 rfl kk rfl B6 rfl (onx rfl (zp rfl (onx rfl (zi en60 rfl ((ahas_no _ a i _ _ _ h10 hi).mono ?_)))))))))))));rintro e w2 ⟨rfl, hb⟩;refine ⟨_, rfl, ?_⟩
 have hED := hEC.step (Ext.of_below hb No) (fun _ h => h.elim);refine onx rfl (qa rfl (za rfl (zm rfl rfl (rnx (ye rfl (srx (avx rfl (anx rfl (zo (zh (zn (rs := [.tmp 6, .tmp 7]) (vs := [_, _]) rfl ⟨rfl, rfl, trivial⟩ ?_)))))))))));exact ⟨rfl, hED.below (fun _ h => h)⟩
theorem zhk : Calls Try.prog 29 #[xj A W c top, .int .i64 ((a : Nat) : Int), .int .i64 ((i : Nat) : Int)] w fun e w' => e = .returned (.int .u64 ((jh W a i : Nat) : Int)) ∧ Below w.heap.size w w' := by
 by_cases hi : i + 2 < yk (wat W a)
 · rw [getW_in hi];exact ztv w A W c n top a hM hS i hi
 rw [getW_out hi];refine yb Try.func29 rfl Try.ntmps29 rfl (srx (za rfl (yt rfl ?_)));rintro g1 wA B1 E1 G1;refine anx rfl (srx (za rfl (zz Try.underlying24 rfl qx rfl B1 rfl (mvx rfl (mvx rfl (za rfl (zi en49 rfl ((aget_no _ A W c n top a i (hM.no E1) hS hi).mono ?_))))))));rintro e w1 ⟨rfl, hb⟩
 refine ⟨_, rfl, (mvx rfl (za rfl (zg rfl rfl (za rfl (zg rfl rfl (avx rfl (anx rfl (srx (mvx rfl (anx rfl (zo (zn (rs := [.tmp 6]) (vs := [_]) rfl ⟨rfl, trivial⟩ ?_))))))))))))⟩;exact ⟨rfl, (E1.trans (Ext.of_below hb No)).toBelow⟩
end
section
variable (w : World) (A : Option Addr) (W : List Nat) (c n top x : Nat) (hM : MemA n w A W top) (hx : U64 x)
include hM hx
theorem olook_no0 (hk : yu x = 0) (hS : ¬ Seen W top (x / 4)) : Calls Try.prog 27 #[xj A W c top, .int .u64 ((x : Nat) : Int)] w fun e w' => e = .returned (.tuple #[.int .i64 ((x / 4 : Nat) : Int), .agg #[.int .i64 0, .int .i64 0, .int .i64 0], .bool false]) ∧ Below w.heap.size w w' := by
 have hka := wkind_addr hk;refine yb Try.func27 rfl Try.ntmps27 rfl (srx (za rfl (yt rfl ?_)));rintro g1 wA B1 E1 G1;refine avx rfl (za rfl (ym xw ?_));rintro g5 wB B5 E2 G5;have hsA := E1.size;have h5l := B5.lt;have B1b : Blk wB g1 24 #[.slice A W.length c, .int .i64 ((top : Nat) : Int)] := B1.ext E2 (fun h => h.elim);have hEB := E1.trans E2
 refine anx rfl (srx (mvx rfl (za rfl (zi en45 rfl (((at_any _ x hx).mono (fun _ _ h => by rw [if_pos hk] at h; exact h)).mono ?_)))));rintro e w1 ⟨rfl, hb⟩;refine ⟨_, rfl, ?_⟩;have E3 := Ext.of_below hb No;have B12 := B1b.ext E3 (fun h => h.elim);have hE3 := hEB.trans E3
 refine mvx rfl (za rfl (zg rfl rfl (za rfl (zg rfl rfl (avx rfl (anx rfl (zl (srx (mvx rfl (za rfl (qh rfl rfl (rnx (zw rfl (zt (zj (srx (za rfl (zz Try.underlying24 rfl qx rfl B12 rfl (mvx rfl (za rfl (zi en46 rfl ((akind_no _ A W c n top (x / 4) (hM.no hE3) hka.2.1 (by omega) hS).mono ?_))))))))))))))))))))))
 rintro e w2 ⟨rfl, hb⟩;refine ⟨_, rfl, ?_⟩;have E4 := Ext.of_below hb No;have B13 := B12.ext E4 (fun h => h.elim);have hE4 := hE3.trans E4
 refine mvx rfl (za rfl (zg rfl rfl (za rfl (zg rfl rfl (avx rfl (anx rfl (srx (za rfl (zz Try.underlying24 rfl qx rfl B13 rfl (mvx rfl (za rfl (zi en47 rfl ((asize_no _ A W c n top (x / 4) (hM.no hE4) hka.2.1 (by omega) hS).mono ?_)))))))))))));rintro e w3 ⟨rfl, hb⟩;refine ⟨_, rfl, ?_⟩;have E5 := Ext.of_below hb No;have hE5 := hE4.trans E5
 have B5e := ((B5.ext E3 (fun h => h.elim)).ext E4 (fun h => h.elim)).ext E5 (fun h => h.elim)
 refine mvx rfl (za rfl (zg rfl rfl (za rfl (zg rfl rfl (za rfl (zg rfl rfl (avx rfl (avx rfl (anx rfl (srx (mvx rfl (mvx rfl (mvx rfl (mvx rfl (za rfl (qb (cs := #[.int .i64 0, .int .i64 0, .int .i64 0]) pl67 xw rfl rfl (mvx rfl (za rfl (yl rfl rfl (avx rfl (yn (yi xe rfl rfl B5e rfl rfl rfl ?_))))))))))))))))))))));rintro wC B5f E6
 refine anx rfl (zo (zn (rs := [.tmp 4, .cell 5 67, .tmp 6]) (vs := [_, _, _]) rfl ⟨rfl, ⟨_, rfl, qk Try.underlying67 rfl xe B5f rfl⟩, rfl, trivial⟩ ?_));exact ⟨rfl, ((hE5.noL w.heap.size).step E6 (fun q hq => Or.inl (show w.heap.size ≤ q by have := qd hq; omega))).below (fun _ h => h)⟩
theorem olook_no1 (hk : yu x ≠ 0) : Calls Try.prog 27 #[xj A W c top, .int .u64 ((x : Nat) : Int)] w fun e w' => e = .returned (.tuple #[.int .i64 0, .agg #[.int .i64 0, .int .i64 0, .int .i64 0], .bool false]) ∧ Below w.heap.size w w' := by
 have _ := hM;refine yb Try.func27 rfl Try.ntmps27 rfl (srx (za rfl (yt rfl ?_)));rintro g1 wA B1 E1 G1;refine avx rfl (za rfl (ym xw ?_));rintro g5 wB B5 E2 G5;have hsA := E1.size;have h5l := B5.lt;have hEB := E1.trans E2;refine anx rfl (srx (mvx rfl (za rfl (zi en45 rfl (((at_any _ x hx).mono (fun _ _ h => by rw [if_neg hk] at h; exact h)).mono ?_)))))
 rintro e w1 ⟨rfl, hb⟩;refine ⟨_, rfl, ?_⟩;have E3 := Ext.of_below hb No;have hE3 := hEB.trans E3;have B5e := B5.ext E3 (fun h => h.elim)
 refine mvx rfl (za rfl (zg rfl rfl (za rfl (zg rfl rfl (avx rfl (anx rfl (zl (srx (mvx rfl (za rfl (qh rfl rfl (rnx (ye rfl (srx (za rfl (qb (cs := #[.int .i64 0, .int .i64 0, .int .i64 0]) pl67 xw rfl rfl (avx rfl (yn (yi xe rfl rfl B5e rfl rfl rfl ?_)))))))))))))))))));rintro wC B5f E6
 refine anx rfl (zo (zh (zn (rs := [.tmp 4, .cell 5 67, .tmp 6]) (vs := [_, _, _]) rfl ⟨rfl, ⟨_, rfl, qk Try.underlying67 rfl xe B5f rfl⟩, rfl, trivial⟩ ?_)));exact ⟨rfl, ((hE3.noL w.heap.size).step E6 (fun q hq => Or.inl (show w.heap.size ≤ q by have := qd hq; omega))).below (fun _ h => h)⟩
theorem kb : Calls Try.prog 27 #[xj A W c top, .int .u64 ((x : Nat) : Int)] w fun e w' => e = .returned (.tuple #[.int .i64 ((lkA x : Nat) : Int), .agg #[.int .i64 ((lkK W top x : Nat) : Int), .int .i64 ((lkT W top x : Nat) : Int), .int .i64 ((lkR W top x : Nat) : Int)], .bool (lkB W top x)]) ∧ Below w.heap.size w w' := by
 by_cases hk : yu x = 0
 · by_cases hS : Seen W top (x / 4)
   · rw [yjv hk, lkK_yes hk hS, lkT_yes hk hS, lkR_yes hk hS, ywx hk hS];exact zmq w A W c n top x hM hx hk hS
   · rw [yjv hk, lkK_no (fun h => hS h.2), lkT_no (fun h => hS h.2), lkR_no (fun h => hS h.2), yfq (fun h => hS h.2)];exact olook_no0 w A W c n top x hM hx hk hS
 · rw [lkA_1 hk, lkK_no (fun h => hk h.1), lkT_no (fun h => hk h.1), lkR_no (fun h => hk h.1), yfq (fun h => hk h.1)];exact olook_no1 w A W c n top x hM hx hk
theorem yov : Calls Try.prog 15 #[xj A W c top, .int .u64 ((x : Nat) : Int)] w fun e w' => e = .returned (.bool (gdW W top x)) ∧ Below w.heap.size w w' := by
 refine yb Try.func15 rfl Try.ntmps15 rfl (srx (za rfl (yt rfl ?_)));rintro g1 wA B1 E1 G1;have hsA := E1.size;refine anx rfl (zl (srx (mvx rfl (za rfl (zi en33 rfl ((gc _ x hx).mono ?_))))));rintro e w1 ⟨rfl, hb⟩;refine ⟨_, rfl, ?_⟩;have E2 := Ext.of_below hb No;have hE2 := E1.trans E2;have B12 := B1.ext E2 (fun h => h.elim);have hs2 := E2.size
 refine za rfl (yl rfl rfl ?_);by_cases hk : yu x = 0
 ·
  refine zq 10 (.bool true) rfl ((by rw [hk]; rfl : (.bool (((yu x : Nat) : Int) == 0) : Value) = _)) (rnx (ye rfl (srx (za rfl (zz Try.underlying24 rfl qx rfl B12 rfl (mvx rfl (za rfl (zi ycx rfl ((kb _ A W c n top x (hM.no hE2) hx).mono ?_)))))))));rintro e w2 ⟨rfl, hb⟩;refine ⟨_, rfl, ?_⟩;have E3 := Ext.of_below hb No;have hs3 := E3.size
  refine mvx rfl (za rfl (zg rfl rfl (za rfl (zg rfl rfl (za rfl (zg rfl rfl (za rfl (ym xw ?_))))))));rintro g5 wB B5 E4 G5;refine avx rfl (yn (yi xe rfl rfl B5 rfl rfl rfl ?_));rintro wC B5f E6;refine anx rfl (srx (mvx rfl (anx rfl (zo (zh (zn (rs := [.tmp 4]) (vs := [_]) rfl ⟨rfl, trivial⟩ ?_))))))
  exact ⟨by rw [gdW_0 hk]; rfl, ((((hE2.trans E3).trans E4).noL w.heap.size).step E6 (fun q hq => Or.inl (show w.heap.size ≤ q by have := qd hq; omega))).below (fun _ h => h)⟩
 ·
  refine zq 10 (.bool false) rfl ((by congr 1; rw [beq_eq_false_iff_ne]; omega : (.bool (((yu x : Nat) : Int) == 0) : Value) = _)) (rnx (zw rfl (zt (zj (srx (mvx rfl (za rfl (zi en33 rfl ((gc _ x hx).mono ?_)))))))));rintro e w3 ⟨rfl, hb⟩
  refine ⟨_, rfl, (za rfl (qh rfl rfl (anx rfl (zo (zn (rs := [.tmp 4]) (vs := [_]) rfl ⟨rfl, trivial⟩ ?_)))))⟩;exact ⟨by rw [gdW_1 hk]; rfl, (hE2.trans (Ext.of_below hb No)).toBelow⟩
theorem num_all : Calls Try.prog 48 #[.int .u64 ((x : Nat) : Int)] w fun e w' => e = .returned (.tuple #[.int .i64 (nmI x), .int .i64 (nmE x)]) ∧ Below w.heap.size w w' := by
 have hu : x < 18446744073709551616 := hx;have _ := hM;refine yb Try.func48 rfl Try.ntmps48 rfl (srx (avx rfl (anx rfl (zl (srx (mvx rfl (za rfl (zi en33 rfl ((gc _ x hx).mono ?_)))))))));rintro e w1 ⟨rfl, hb⟩;refine ⟨_, rfl, (za rfl (qh rfl rfl (rnx (yv rfl (fun h0 => ?_) (fun h0 => ?_)))))⟩
 ·
  have h0 : yu x ≠ 1 := by have := bne_iff_ne.1 h0; omega
  refine srx (avx rfl (anx rfl (zo (zh (zn (rs := [.tmp 2, .tmp 3]) (vs := [_, _]) rfl ⟨rfl, rfl, trivial⟩ ?_)))));exact ⟨by rw [nmI_no h0, nmE_no h0]; rfl, hb⟩
 ·
  have h0 : yu x = 1 := by have h9 : (((yu x : Nat) : Int) != 1) = false := h0; have := bne_eq_false_iff_eq.1 h9; omega
  have h4 : x % 4 = 1 := wkind_1 h0;refine zt (zj (srx (mvx rfl (za rfl (qc Try.underlying2 Try.underlying25 rfl rfl (za rfl (ju rfl rfl (by decide) (zvx hu h4) (avx rfl (anx rfl (zo (zn (rs := [.tmp 2, .tmp 3]) (vs := [_, _]) rfl ⟨rfl, rfl, trivial⟩ ?_)))))))))));exact ⟨by rw [nmI_yes h0, yvk h0]; rfl, hb⟩
theorem which_all : Calls Try.prog 52 #[.int .u64 ((x : Nat) : Int)] w fun e w' => e = .returned (.tuple (if yu x = 2 then #[.int .i64 ((x / 4 : Nat) : Int), .int .i64 0] else #[.int .i64 0, .int .i64 9])) ∧ Below w.heap.size w w' := by
 have hu : x < 18446744073709551616 := hx;have _ := hM;refine yb Try.func52 rfl Try.ntmps52 rfl (srx (avx rfl (anx rfl (zl (srx (mvx rfl (za rfl (zi en33 rfl ((gc _ x hx).mono ?_)))))))));rintro e w1 ⟨rfl, hb⟩;refine ⟨_, rfl, (za rfl (qh rfl rfl (rnx (yv rfl (fun h0 => ?_) (fun h0 => ?_)))))⟩
 ·
  have h0 : yu x ≠ 2 := by have := bne_iff_ne.1 h0; omega
  refine srx (avx rfl (anx rfl (zo (zh (zn (rs := [.tmp 2, .tmp 3]) (vs := [_, _]) rfl ⟨rfl, rfl, trivial⟩ ?_)))));exact ⟨by rw [if_neg h0]; rfl, hb⟩
 ·
  have h0 : yu x = 2 := by have h9 : (((yu x : Nat) : Int) != 2) = false := h0; have := bne_eq_false_iff_eq.1 h9; omega
  refine zt (zj (srx (mvx rfl (za rfl (ju rfl rfl (by decide) (yhk (k := 2) (by decide)) (za rfl (qc Try.underlying3 Try.underlying25 rfl (zy (by omega)) (avx rfl (anx rfl (zo (zn (rs := [.tmp 2, .tmp 3]) (vs := [_, _]) rfl ⟨rfl, rfl, trivial⟩ ?_)))))))))));exact ⟨by rw [if_pos h0]; rfl, hb⟩
end
end Go.Proofs.Ytebjkmjfcijebaa
namespace Go.Proofs.Ytebjkmjfcijebaa
open Go.RowKit
set_option maxRecDepth 100000
attribute [local irreducible] OW RS
def optV (o : Option PV) (A : Option Addr) (c : Nat) : Value := .tuple #[.agg #[.int .i64 (o.getD vNil).k, .bool (o.getD vNil).yes, .bool (o.getD vNil).neg, .slice A (o.getD vNil).xs.length c, .int .u64 (((o.getD vNil).bits : Nat) : Int), .string (o.getD vNil).s, .slice none 0 0], .int .i64 (if o.isSome then 0 else 9)]
def bytV (l : List Nat) : List Value := l.map fun x : Nat => Value.int .u8 ((x : Nat) : Int)
theorem bytV_len (l : List Nat) : (bytV l).length = l.length := by unfold bytV; rw [List.length_map]
theorem bytV_set (l : List Nat) (j x : Nat) : (bytV l).set j (.int .u8 ((x : Nat) : Int)) = bytV (l.set j x) := by unfold bytV; rw [List.map_set]
theorem bytV_rep (n : Nat) : bytV (List.replicate n 0) = List.replicate n (.int .u8 0) := by unfold bytV; rw [List.map_replicate]; rfl
theorem bytV_at {l : List Nat} {j x : Nat} (h : l[j]? = some x) : (bytV l).toArray[j]? = some (.int .u8 ((x : Nat) : Int)) := by
 unfold bytV;rw [List.getElem?_toArray, List.getElem?_map, h]; rfl
def byL (R : List Nat) : List Nat := (List.range (wat R 0)).map fun i => (byW R i).toNat
theorem byL_len (R : List Nat) : (byL R).length = wat R 0 := by unfold byL; simp
theorem byL_at {R : List Nat} {i : Nat} (h : i < wat R 0) : (byL R)[i]? = some (byW R i).toNat := by
 unfold byL;rw [List.getElem?_map, List.getElem?_range h]; rfl
theorem byW_wrap (R : List Nat) (i : Nat) : IntKind.u8.wrap ((wat R (1 + i / 8) / 2 ^ (8 * (i % 8)) : Nat) : Int) = (((byW R i).toNat : Nat) : Int) := by
 unfold byW IntKind.wrap;simp only [IntKind.bits, IntKind.signed, Bool.false_and, Bool.false_eq_true, if_false, UInt8.toNat_ofNat']
 rfl
theorem zyx {R : List Nat} (h : xb (ka R) = R) : textO R = some (vStr (ka R)) := if_pos h
theorem yhx {R : List Nat} (h : xb (ka R) ≠ R) : textO R = none := if_neg h
theorem otext_any (w : World) (A : Option Addr) (R : List Nat) (c n : Nat) (hR : WordsA n w A R) (hn : n ≤ w.heap.size) (h0 : wat R 0 ≤ 20000) (hl : R.length = 1 + (wat R 0 + 7) / 8) : Calls Try.prog 53 #[.slice A R.length c] w fun e w' => e = .returned (optV (textO R) none 0) ∧ Below w.heap.size w w' := by
 obtain ⟨L, hL⟩ : ∃ L, L = wat R 0 := ⟨_, rfl⟩;have hLl : (byL R).length = L := by rw [byL_len, hL]
 have hpl : (xb (ka R)).length = R.length := by rw [packW_len, ytx, hl]
 refine yb Try.func53 rfl Try.ntmps53 rfl (srx (za rfl (ym og ?_)));rintro gv wA Bv E1 Gv;obtain ⟨gm, om, hA, hgm, hcm⟩ := (hR.no E1).at (show 0 < R.length by omega)
 refine anx rfl (srx (mvx rfl (za rfl (yc (j := 0) Try.underlying22 vc (congrArg (fun z ↦ some (Value.slice z R.length c)) hA) rfl rfl (by omega) (za rfl (qm Try.underlying25 rfl rfl hcm (za rfl (zjq (n := L) Try.underlying103 inf5 rfl rfl rfl (by rw [hL]) (by rw [hL]) (by omega) (by omega) ?_))))))));rintro gs wB Bs E2 Gs;have hE := E1.trans E2;have hvl := Bv.lt
 have hs1 := E1.size;have B0 : Blk wB gs 5 (bytV (qw (byL R) 0 0)).toArray := by
  rw [yev, bytV_rep, hLl];exact Bs
 refine anx rfl (zl (srx (mvx rfl (za rfl (qe Try.underlying103 rfl (mvx rfl (rnx (yh (jd (ι := Nat) (fun i => [(0, .slice A R.length c), (2, .pointer (some ⟨gv, 0, none⟩)), (3, .int .i64 0), (4, .slice (some ⟨gs, 0, none⟩) L L), (13, .int .i64 ((L : Nat) : Int)), (14, .int .i64 ((i : Nat) : Int))]) (fun i w' => i ≤ L ∧ Blk w' gs 5 (bytV (qw (byL R) 0 i)).toArray ∧ Ext (fun q => gs ≤ q) wB w') (fun i => L - i) 0 ⟨rfl, rfl, rfl, rfl, rfl, rfl, trivial⟩ (⟨Nat.zero_le _, B0, Ext.refl _ _⟩) ?_)))))))))
 rintro i w2 ⟨hi0, Bi, hEi⟩;have hEw := (hE.noL gs).step hEi (fun q hq => Or.inl hq);refine srx (za rfl (qo rfl rfl (rnx (zl (yv rfl (fun hc => ?_) (fun hc => ?_))))))
 ·
  have hc := of_decide_eq_true hc;have hlt : i < L := by omega
  obtain ⟨r8, hr8⟩ : ∃ r8, r8 = 8 * (i % 8) := ⟨_, rfl⟩;have hr64 : r8 < 64 := by omega
  have hRi := hR.low (X := fun q => gs ≤ q) ⟨hEw, fun q hq => Nat.le_trans hn (by have hq : gs ≤ q := hq; omega)⟩;obtain ⟨gm, om, hA, hgm, hcm⟩ := hRi.at (show 1 + i / 8 < R.length by omega)
  refine zt (zj (zl (yh (srx (mvx rfl (anx rfl (yq (mvx rfl (mvx rfl (mvx rfl (mvx rfl (za rfl (xx rfl rfl (by decide) (show IntKind.i64.wrap (((i : Nat) : Int).tdiv 8) = ((i / 8 : Nat) : Int) from by rw [Int.tdiv_eq_ediv_of_nonneg (by omega)]; exact zy (by omega)) (za rfl (yp rfl rfl (show IntKind.i64.wrap (1 + ((i / 8 : Nat) : Int)) = ((1 + i / 8 : Nat) : Int) from by rw [zy (by omega)]; omega) (za rfl (yc (j := 1 + i / 8) Try.underlying22 vc (congrArg (fun z ↦ some (Value.slice z R.length c)) hA) rfl rfl (by omega) (za rfl (qm Try.underlying25 rfl rfl hcm (mvx rfl (za rfl (gh rfl rfl (by decide) (show (((i : Nat) : Int).tmod 8) = ((i % 8 : Nat) : Int) from by rw [Int.tmod_eq_emod_of_nonneg (by omega)]; rfl) (za rfl (jf rfl rfl (show IntKind.i64.wrap (8 * ((i % 8 : Nat) : Int)) = ((r8 : Nat) : Int) from by rw [hr8, zy (by omega)]; omega) (za rfl (ju rfl rfl (by omega) (yhk (k := r8) hr64) (za rfl (qc Try.underlying5 Try.underlying25 rfl (show IntKind.u8.wrap ((wat R (1 + i / 8) / 2 ^ r8 : Nat) : Int) = (((byW R i).toNat : Nat) : Int) from by rw [hr8]; exact byW_wrap R i) (za rfl (yc (j := i) Try.underlying103 sz5 rfl rfl rfl hlt (yn (ko (cs' := (bytV (qw (byL R) 0 (i + 1))).toArray) sz5 rfl rfl Bi rfl rfl (by rw [List.size_toArray, bytV_len, oo (by omega)]; omega) (by rw [Nat.zero_add, List.setIfInBounds_toArray, bytV_set, zhx (byL_at (by omega))]) ?_))))))))))))))))))))))))))))))))
  rintro wT BT ET;refine qz (zx (zj (yq (za rfl (yp rfl rfl (zy (by omega)) (mvx rfl (qz ?_)))))));exact ve (i + 1) (by show L - (i + 1) < L - i; omega) ⟨rfl, rfl, rfl, rfl, rfl, rfl, trivial⟩ (⟨hlt, BT, hEi.step ET (fun q hq => Or.inl (show gs ≤ q by have := qd hq; omega))⟩)
 ·
  have hc := of_decide_eq_false hc;have hie : i = (byL R).length := by omega
  rw [hie, zhz] at Bi
  refine vo (yf (yf (yx (zj (zl (srx (mvx rfl (za rfl (yrv (l := (List.range (wat R 0)).map (byW R)) Try.underlying103 Try.underlying5 Try.underlying9 (by rw [List.length_map, List.length_range, ← hL]; rfl) (fun _ ↦ ⟨gs, 0, rfl, fun j hj ↦ by rw [List.length_map, List.length_range] at hj; rw [Bi.cell, Nat.zero_add, bytV_at (byL_at hj)]; simp⟩) (za rfl (zi en22 rfl ((packed_any _ (ka R) (by rw [ytx]; exact h0)).mono ?_))))))))))))
  rintro e w3 ⟨⟨gp, rfl, Bp, Gp⟩, hb⟩;refine ⟨_, rfl, ?_⟩;have E5 := Ext.of_below hb No;have hEx := hEw.step E5 (fun _ h => h.elim);have Bvx := (Bv.ext E2 (fun h => h.elim)).ext (hEi.step E5 (fun _ h => h.elim)) (fun h => by have h : gs ≤ gv := h; omega);have hRx := hR.low (X := fun q => gs ≤ q) ⟨hEx, fun q hq => Nat.le_trans hn (by have hq : gs ≤ q := hq; omega)⟩;have hsx := hEx.size
  obtain ⟨wu5, hwu5⟩ : ∃ z, z = w3 := ⟨_, rfl⟩;subst hwu5
  refine za rfl (qe Try.underlying22 rfl (mvx rfl (rnx (yh (jd (ι := Nat) (fun i => [(0, .slice A R.length c), (2, .pointer (some ⟨gv, 0, none⟩)), (3, .int .i64 0), (4, .slice (some ⟨gs, 0, none⟩) L L), (34, .slice (some ⟨gp, 0, none⟩) (xb (ka R)).length (xb (ka R)).length), (35, .int .i64 (((xb (ka R)).length : Nat) : Int)), (36, .int .i64 ((i : Nat) : Int))]) (fun i w' => i ≤ R.length ∧ Ext No wu5 w' ∧ ∀ j, j < i → R[j]? = (xb (ka R))[j]?) (fun i => R.length - i) 0 ⟨rfl, rfl, rfl, rfl, rfl, rfl, rfl, trivial⟩ (⟨Nat.zero_le _, Ext.refl _ _, fun j h => absurd h (Nat.not_lt_zero j)⟩) ?_)))))
  rintro i w5 ⟨hi0, hEj, hsame⟩;have Bvi := Bvx.ext hEj (fun h => h.elim);have hEw2 := hEx.step hEj (fun _ h => h.elim);refine srx (za rfl (qo rfl rfl (rnx (zl (yv rfl (fun hc => ?_) (fun hc => ?_))))))
  ·
   have hc := of_decide_eq_true hc;have hlt : i < R.length := by omega
   obtain ⟨gm, om, hA, hgm, hcm⟩ := (hRx.no hEj).at hlt;have hpi : (xb (ka R))[i]? = some (wat (xb (ka R)) i) := kz (by omega)
   refine zt (zj (zl (yh (srx (mvx rfl (za rfl (yc (j := i) Try.underlying22 vc rfl rfl rfl (by omega) (za rfl (zk Try.underlying25 rfl rfl (Bp.ext hEj (fun h ↦ h.elim)) (by rw [Nat.zero_add]; exact kh hpi) (avx rfl (anx rfl (srx (mvx rfl (mvx rfl (za rfl (yc (j := i) Try.underlying22 vc (congrArg (fun z ↦ some (Value.slice z R.length c)) hA) rfl rfl hlt (za rfl (qm Try.underlying25 rfl rfl hcm (mvx rfl (za rfl (qh rfl rfl ?_)))))))))))))))))))))
   by_cases he : wat R i = wat (xb (ka R)) i
   ·
    refine zq 46 (.bool false) rfl ((by rw [he, bne_self_eq_false] : (.bool (((wat R i : Nat) : Int) != ((wat (xb (ka R)) i : Nat) : Int)) : Value) = _)) ?_;have hnx : ∀ j, j < i + 1 → R[j]? = (xb (ka R))[j]? := fun j hj => by
     rcases Nat.lt_or_ge j i with h | h
     · exact hsame j h
     · obtain rfl : j = i := by omega
       rw [hpi, kz hlt, he]
    refine rnx (zw rfl (zt (zx (zj (yq (za rfl (yp rfl rfl (zy (by omega)) (mvx rfl (qz ?_)))))))));exact ve (i + 1) (by show R.length - (i + 1) < R.length - i; omega) ⟨rfl, rfl, rfl, rfl, rfl, rfl, rfl, trivial⟩ (⟨hlt, hEj, hnx⟩)
   ·
    refine zq 46 (.bool true) rfl ((by congr 1; rw [bne_iff_ne]; omega : (.bool (((wat R i : Nat) : Int) != ((wat (xb (ka R)) i : Nat) : Int)) : Value) = _)) (rnx (ye rfl (srx (za rfl (qb (cs := #[.int .i64 0, .bool false, .bool false, .slice none 0 0, .int .u64 0, .string ⟨#[]⟩, .slice none 0 0]) zkx og rfl rfl (yn (yi vi rfl rfl Bvi rfl rfl rfl ?_)))))))
    rintro wC B2e E4;refine anx rfl (zo (zr (zh (zh (zr (zh (zn (rs := [.cell 2 43, .tmp 3]) (vs := [_, _]) rfl ⟨⟨_, rfl, qk Try.underlying43 rfl vi B2e rfl⟩, rfl, trivial⟩ ?_)))))))
    exact ⟨by rw [yhx (fun h ↦ he (by rw [h]))]; rfl, ((hEw2.mono (Y := fun q => w.heap.size ≤ q) (fun q h _ => by have h : gs ≤ q := h; omega)).step E4 (fun q hq => Or.inl (show w.heap.size ≤ q by have := qd hq; omega))).below (fun _ h => h)⟩
  ·
   have hc := of_decide_eq_false hc;have hall : xb (ka R) = R := List.ext_getElem? fun j => by
    rcases Nat.lt_or_ge j i with h | h
    · exact (hsame j h).symm
    · rw [List.getElem?_eq_none (by omega), List.getElem?_eq_none (by omega)]
   refine vo (yf (yf (yx (zj (srx (mvx rfl (za rfl (yrv (l := (List.range (wat R 0)).map (byW R)) Try.underlying103 Try.underlying5 Try.underlying9 (by rw [List.length_map, List.length_range, ← hL]; rfl) (fun _ ↦ ⟨gs, 0, rfl, fun j hj ↦ by rw [List.length_map, List.length_range] at hj; rw [(Bi.ext (E5.trans hEj) (fun h ↦ h.elim)).cell, Nat.zero_add, bytV_at (byL_at hj)]; simp⟩) (za rfl (qb (cs := #[.int .i64 4, .bool false, .bool false, .slice none 0 0, .int .u64 0, .string (ka R), .slice none 0 0]) zkx og rfl rfl (yn (yi vi rfl rfl Bvi rfl rfl rfl ?_))))))))))))
   rintro wC B2e E4;refine anx rfl (zo (zn (rs := [.cell 2 43, .tmp 3]) (vs := [_, _]) rfl ⟨⟨_, rfl, qk Try.underlying43 rfl vi B2e rfl⟩, rfl, trivial⟩ ?_))
   exact ⟨by rw [zyx hall]; rfl, ((hEw2.mono (Y := fun q => w.heap.size ≤ q) (fun q h _ => by have h : gs ≤ q := h; omega)).step E4 (fun q hq => Or.inl (show w.heap.size ≤ q by have := qd hq; omega))).below (fun _ h => h)⟩
end Go.Proofs.Ytebjkmjfcijebaa
namespace Go.Proofs.Ytebjkmjfcijebaa
open Go.RowKit
set_option maxRecDepth 100000
theorem retErr_zero {W w' : World} {f : Int} (hb : Below W.heap.size W w') : jj W 0 f (.returned (.tuple #[.agg #[.bool false, .slice none 0 0], .int .i64 f])) w' :=
 ⟨none, 0, by rw [jg]; rfl, by rw [jg]; exact Own.nil _ _, hb⟩
theorem own_apart {w : World} {base c g : Nat} {A : Option Addr} {xs : List Nat} {t : TypeId} {cs : Array Value} (h : Own w base A c xs) (hb : Blk w g t cs) (ht : 25 ≠ t) : Apart (Value.slice A xs.length c).ownBlock (some g) :=
 fun k e f => zpq h.1 hb ht (e.trans f.symm)
theorem Per.ownN {l : List (Option Nat)} {w : World} {base c : Nat} {A : Option Addr} {xs : List Nat} (h : Own w base A c xs) (hn : NotIn (Value.slice A xs.length c).ownBlock l) : Per (Mut l) w (fun b => Own b base A c xs) :=
 fun _ hb => ⟨owns_extN h.1 hb hn, h.2⟩
theorem Per.ownX {X : Nat → Prop} {w : World} {base c : Nat} {A : Option Addr} {xs : List Nat} (h : Own w base A c xs) (hx : ∀ k, X k → k < base) : Per X w (fun b => Own b base A c xs) := fun b hb => by
 have hb' : Ext (Mut [none]) w b ∨ True := Or.inr trivial;refine ⟨(⟨h.1.1, ?_⟩), h.2⟩;rcases h.1.2 with h2 | ⟨g, cap, cur, hv, hg, hh, r⟩
 · exact Or.inl h2
 · exact Or.inr ⟨g, cap, cur, hv, hg, (hb.block g (Array.getElem?_eq_some_iff.1 hh).1 (fun e => by have := hx g e; omega)).trans hh, r⟩
theorem cellAt_lt {w : World} {b o : Nat} {v : Value} (h : w.cell? ⟨b, o, none⟩ = some v) : b < w.heap.size := by
 unfold World.cell? at h;simp only [] at h
 split at h
 · rename_i c t fr hh; exact (Array.getElem?_eq_some_iff.1 hh).1
 · cases h
theorem Per.cell0 {w : World} {g o : Nat} {v : Value} (h : w.cell? ⟨g, o, none⟩ = some v) : Per No w (fun b => b.cell? ⟨g, o, none⟩ = some v) := fun b hb => by
 have hlt : g < w.heap.size := cellAt_lt h;show b.cell? ⟨g, o, none⟩ = some v
 rw [hb.cell (p := ⟨g, o, none⟩) hlt (fun e => e.elim)]; exact h
section
variable (n1 n2 : Bool) (A B : Option Addr) (c d : Nat) (xs ys : List Nat) (w : World)
end
section
variable (i j : Int) (A B : Option Addr) (c d : Nat) (w : World) (hi : i.natAbs < B18 ^ 30) (hj : j.natAbs < B18 ^ 30) (hx : Nums w A (limbs i)) (hy : Nums w B (limbs j))
include hi hj hx hy
theorem pow_zero (h0 : j = 0) : Calls Try.prog 82 #[.agg #[.bool (decide (i < 0)), .slice A (limbs i).length c], .agg #[.bool (decide (j < 0)), .slice B (limbs j).length d]] w (jj w 1 0) := by
 have hd : decide (j < 0) = false := by rw [h0]; rfl
 have hlen : (limbs j).length = 0 := by rw [h0, jg]; rfl
 refine yb Try.func82 rfl Try.ntmps82 rfl ?_;have HF : Per (No) w (fun _ => True) := Per.true_;have LW := erx (No) w;have XLW := grx (No) w;have E := erx (No) w;replace HF := HF.on E;replace LW := LW.step E XLW;replace E := erx (No) w;replace HF := HF.and (Per.nums0 hx);replace HF := HF.on E;replace LW := LW.step E XLW;replace E := erx (No) w;replace HF := HF.and (Per.nums0 hy)
 refine srx (za rfl (yt rfl ?_));intro gb1 w2 Bb1 Eb1 Gb1;have Gb1 : _ ≤ gb1 := Nat.le_trans E.size Gb1;have GLb1 := Nat.le_trans LW.size Gb1;replace E := E.trans Eb1.no;replace HF := HF.cons (yj Gb1);replace E := E.cons (some gb1);replace XLW := Mut.grow XLW (fun k e => Or.inr (Nat.le_trans LW.size ((yj Gb1) k e)));replace HF := HF.on E;replace LW := LW.step E XLW
 have SB : ∀ q9, No q9 → Mut [(some gb1)] q9 := (Mut.skip Mut.nil_);replace HF := HF.less SB;replace XLW := fun k h => XLW k (SB k h);clear SB;replace E := erx (No) w2;replace HF := HF.and (Per.blkN Bb1 NotIn.nil);refine za rfl (yt rfl ?_);intro gb3 w4 Bb3 Eb3 Gb3;have Gb3 : _ ≤ gb3 := Nat.le_trans E.size Gb3;have GLb3 := Nat.le_trans LW.size Gb3;replace E := E.trans Eb3.no
 replace HF := HF.cons (yj Gb3);replace E := E.cons (some gb3);replace XLW := Mut.grow XLW (fun k e => Or.inr (Nat.le_trans LW.size ((yj Gb3) k e)));replace HF := HF.on E;replace LW := LW.step E XLW;have SB : ∀ q9, No q9 → Mut [(some gb3)] q9 := (Mut.skip Mut.nil_);replace HF := HF.less SB;replace XLW := fun k h => XLW k (SB k h);clear SB;replace E := erx (No) w4
 replace HF := HF.and (Per.blkN Bb3 NotIn.nil);refine za rfl (ym zez ?_);intro gb5 w6 Bb5 Eb5 Gb5;have Gb5 : _ ≤ gb5 := Nat.le_trans E.size Gb5;have GLb5 := Nat.le_trans LW.size Gb5;replace E := E.trans Eb5.no;replace HF := HF.cons (yj Gb5);replace E := E.cons (some gb5);replace XLW := Mut.grow XLW (fun k e => Or.inr (Nat.le_trans LW.size ((yj Gb5) k e)))
 refine anx rfl (zl (srx (za rfl (zz Try.underlying40 rfl vk rfl (HF.on E).here.1.2 rfl (za rfl (zi en39 rfl ((ysk A c _ hi (HF.on E).here.1.1.1.2).mono ?_)))))));rintro e w7 ⟨rfl, hb⟩;refine ⟨_, rfl, ?_⟩;have Ec := Ext.of_below hb No;replace Bb5 := Bb5.extN Ec NotIn.nil;replace E := E.trans Ec.no
 refine za rfl (qa rfl (mvx rfl (onx rfl (zz Try.underlying40 rfl vk rfl (HF.on E).here.2 rfl (onx rfl (zi en39 rfl ((ysk B d _ hj (HF.on E).here.1.1.2).mono ?_)))))));rintro e w8 ⟨rfl, hb⟩;refine ⟨_, rfl, ?_⟩;have Ec := Ext.of_below hb No;replace Bb5 := Bb5.extN Ec NotIn.nil;replace E := E.trans Ec.no
 refine onx rfl (qa rfl (za rfl (zm rfl rfl (rnx (zw rfl (zt (zj (zl (srx (za rfl (zf Try.underlying40 rfl sz4 (by decide) rfl (za rfl (zk Try.underlying4 rfl rfl (HF.on E).here.2 rfl (rnx (yd 19 (.bool false) rfl ((by rw [hd] : (.bool (decide (j < 0)) : Value) = _)) (zw rfl (zt (zj (srx (za rfl (zi en51 rfl ((zhv 1 _ (by decide) (by decide)).mono ?_))))))))))))))))))))))
 rintro e w9 ⟨A1, c1, rfl, o1, hb⟩;refine ⟨_, rfl, ?_⟩;have XC : ∀ q9, (Mut [(some gb5)]) q9 → q9 < w8.heap.size := (Mut.grow Mut.none_ (qf Bb5.lt));have SC := Nat.le_trans LW.size E.size;have Ec := Ext.of_below hb No;replace Bb5 := Bb5.extN Ec NotIn.nil;replace E := E.trans Ec.no;have S1 := SC;replace HF := HF.on E;replace LW := LW.step E XLW;replace E := erx (Mut [(some gb5)]) w9
 replace HF := HF.and (Per.ownX o1 XC);refine za rfl (ym zez ?_);intro gb10 w11 Bb10 Eb10 Gb10;have Db10_b5 : Apart (some gb10) (some gb5) := Apart.of_lt (qf Bb5.lt) Gb10;have Db5_b10 := Db10_b5.symm;have Gb10 : _ ≤ gb10 := Nat.le_trans E.size Gb10;have GLb10 := Nat.le_trans LW.size Gb10;replace Bb5 := Bb5.extN Eb10 NotIn.nil;replace E := E.trans Eb10.no
 replace HF := HF.cons (yj Gb10);replace E := E.cons (some gb10);replace XLW := Mut.grow XLW (fun k e => Or.inr (Nat.le_trans LW.size ((yj Gb10) k e)));refine yn (vg vk rfl rfl Bb10 rfl rfl (Nat.le_of_ble_eq_true rfl) ?_);intro w12 Bx Eb10;replace Bb10 := Bx;replace Bb5 := Bb5.extN Eb10 (NotIn.cons Db5_b10 NotIn.nil);replace E := E.step1 Eb10 Mut.head
 refine rnx (zl (srx (za rfl (zf Try.underlying40 rfl kl (by decide) rfl (za rfl (zk Try.underlying22 rfl rfl (HF.on E).here.1.2 rfl (za rfl (qe Try.underlying22 rfl (za rfl (yl rfl rfl (rnx (yd 25 (.bool true) rfl ((by rw [hlen]; rfl : (.bool (((((limbs j).length : Nat)) : Int) == 0) : Value) = _)) (ye rfl (srx (za rfl (zz Try.underlying40 rfl vk rfl Bb10 rfl (yn (vg vk rfl rfl Bb5 rfl rfl (Nat.le_of_ble_eq_true rfl) ?_))))))))))))))))))
 intro w13 Bx Eb5;replace Bb5 := Bx;replace Bb10 := Bb10.extN Eb5 (NotIn.cons Db10_b5 NotIn.nil);replace E := E.step1 Eb5 (Mut.tail Mut.head);refine anx rfl (zo (zh (zn (rs := [.cell 4 40, .tmp 5]) (vs := [_, _]) rfl ⟨⟨_, rfl, qk Try.underlying40 rfl vk Bb5 rfl⟩, rfl, trivial⟩ ?_)));exact ⟨A1, c1, rfl, ((HF.on E).here.2).mono S1, (LW.step E XLW).toBelow⟩
end
/-! ### what stands in the limbs -/
theorem nth_lim0 {j : Int} (h0 : j ≠ 0) : nth (limbs j) 0 = ((j.natAbs % B18 : Nat) : Int) := by
 unfold nth;rw [jc, oe jb (by omega)];rfl
theorem lim_len1 {j : Int} (h0 : j ≠ 0) (h : j.natAbs < B18) : (limbs j).length = 1 := by
 rw [jc, oe jb (by omega), Nat.div_eq_of_lt h]; rfl
theorem lim_pos {j : Int} (h0 : j ≠ 0) : 0 < (limbs j).length := by rw [jc]; exact zwx jb (by omega)
theorem pow_abs (i : Int) (n : Nat) : (i ^ n).natAbs = i.natAbs ^ n := Int.natAbs_pow i n
theorem pow_mono {i : Int} (h : 1 ≤ i.natAbs) {k n : Nat} (hk : k ≤ n) : (i ^ k).natAbs ≤ (i ^ n).natAbs := by
 rw [pow_abs, pow_abs]; exact Nat.pow_le_pow_right h hk
section
variable (i j : Int) (A B : Option Addr) (c d : Nat) (w : World) (hi : i.natAbs < B18 ^ 30) (hj : j.natAbs < B18 ^ 30) (hx : Nums w A (limbs i)) (hy : Nums w B (limbs j))
include hi hj hx hy
theorem pow_l1 (h0 : 0 < j) (hj2 : j ≤ 2000) (h2i : 2 ≤ i.natAbs) (h : i.natAbs < B18) : Calls Try.prog 82 #[.agg #[.bool (decide (i < 0)), .slice A (limbs i).length c], .agg #[.bool (decide (j < 0)), .slice B (limbs j).length d]] w (jj w (outV true (i ^ j.toNat)) (outE true (i ^ j.toNat))) := by
 have hjb : j.natAbs < B18 := by unfold B18; omega
 have ejm : j.natAbs % B18 = j.toNat := by rw [Nat.mod_eq_of_lt hjb]; omega
 have hd : decide (j < 0) = false := decide_eq_false (by omega);have hip := lim_pos (j := i) (by omega);have hjp := lim_pos (j := j) (by omega);have hlen : ((limbs j).length : Int) ≠ 0 := by omega
 have hleni : ((limbs i).length : Int) ≠ 0 := by omega
 obtain ⟨bx, ox, rfl, hbx, hcx⟩ := hx.2 hip;obtain ⟨by_, oy, rfl, hby, hcy⟩ := hy.2 hjp;have hc0 : w.cell? ⟨bx, ox + 0, none⟩ = some (.int .u64 ((i.natAbs % B18 : Nat) : Int)) := by rw [hcx 0 hip, nth_lim0 (by omega)]
 have hd0 : w.cell? ⟨by_, oy + 0, none⟩ = some (.int .u64 (((j.toNat : Nat) : Int))) := by rw [hcy 0 hjp, nth_lim0 (by omega)]; rw [ejm]
 refine yb Try.func82 rfl Try.ntmps82 rfl ?_;have HF : Per (No) w (fun _ => True) := Per.true_;have LW := erx (No) w;have XLW := grx (No) w;have E := erx (No) w;replace HF := HF.on E;replace LW := LW.step E XLW;replace E := erx (No) w;replace HF := HF.and (Per.nums0 hx);replace HF := HF.on E;replace LW := LW.step E XLW;replace E := erx (No) w;replace HF := HF.and (Per.nums0 hy)
 replace HF := HF.on E;replace LW := LW.step E XLW;replace E := erx (No) w;replace HF := HF.and (Per.cell0 hc0);replace HF := HF.on E;replace LW := LW.step E XLW;replace E := erx (No) w;replace HF := HF.and (Per.cell0 hd0);refine srx (za rfl (yt rfl ?_));intro gb1 w2 Bb1 Eb1 Gb1;have Gb1 : _ ≤ gb1 := Nat.le_trans E.size Gb1;have GLb1 := Nat.le_trans LW.size Gb1;replace E := E.trans Eb1.no
 replace HF := HF.cons (yj Gb1);replace E := E.cons (some gb1);replace XLW := Mut.grow XLW (fun k e => Or.inr (Nat.le_trans LW.size ((yj Gb1) k e)));replace HF := HF.on E;replace LW := LW.step E XLW;have SB : ∀ q9, No q9 → Mut [(some gb1)] q9 := (Mut.skip Mut.nil_);replace HF := HF.less SB;replace XLW := fun k h => XLW k (SB k h);clear SB;replace E := erx (No) w2
 replace HF := HF.and (Per.blkN Bb1 NotIn.nil);refine za rfl (yt rfl ?_);intro gb3 w4 Bb3 Eb3 Gb3;have Gb3 : _ ≤ gb3 := Nat.le_trans E.size Gb3;have GLb3 := Nat.le_trans LW.size Gb3;replace E := E.trans Eb3.no;replace HF := HF.cons (yj Gb3);replace E := E.cons (some gb3);replace XLW := Mut.grow XLW (fun k e => Or.inr (Nat.le_trans LW.size ((yj Gb3) k e)));replace HF := HF.on E
 replace LW := LW.step E XLW;have SB : ∀ q9, No q9 → Mut [(some gb3)] q9 := (Mut.skip Mut.nil_);replace HF := HF.less SB;replace XLW := fun k h => XLW k (SB k h);clear SB;replace E := erx (No) w4;replace HF := HF.and (Per.blkN Bb3 NotIn.nil);refine za rfl (ym zez ?_);intro gb5 w6 Bb5 Eb5 Gb5;have Gb5 : _ ≤ gb5 := Nat.le_trans E.size Gb5;have GLb5 := Nat.le_trans LW.size Gb5
 replace E := E.trans Eb5.no;replace HF := HF.cons (yj Gb5);replace E := E.cons (some gb5);replace XLW := Mut.grow XLW (fun k e => Or.inr (Nat.le_trans LW.size ((yj Gb5) k e)));refine anx rfl (zl (srx (za rfl (zz Try.underlying40 rfl vk rfl (HF.on E).here.1.2 rfl (za rfl (zi en39 rfl ((ysk _ c _ hi (HF.on E).here.1.1.1.1.1.2).mono ?_)))))))
 rintro e w7 ⟨rfl, hb⟩;refine ⟨_, rfl, ?_⟩;have Ec := Ext.of_below hb No;replace Bb5 := Bb5.extN Ec NotIn.nil;replace E := E.trans Ec.no;refine za rfl (qa rfl (mvx rfl (onx rfl (zz Try.underlying40 rfl vk rfl (HF.on E).here.2 rfl (onx rfl (zi en39 rfl ((ysk _ d _ hj (HF.on E).here.1.1.1.1.2).mono ?_)))))));rintro e w8 ⟨rfl, hb⟩;refine ⟨_, rfl, ?_⟩
 have Ec := Ext.of_below hb No;replace Bb5 := Bb5.extN Ec NotIn.nil;replace E := E.trans Ec.no
 refine onx rfl (qa rfl (za rfl (zm rfl rfl (rnx (zw rfl (zt (zj (zl (srx (za rfl (zf Try.underlying40 rfl sz4 (by decide) rfl (za rfl (zk Try.underlying4 rfl rfl (HF.on E).here.2 rfl (rnx (yd 19 (.bool false) rfl ((by rw [hd] : (.bool (decide (j < 0)) : Value) = _)) (zw rfl (zt (zj (srx (za rfl (zi en51 rfl ((zhv 1 _ (by decide) (by decide)).mono ?_))))))))))))))))))))))
 rintro e w9 ⟨A1, c1, rfl, o1, hb⟩;refine ⟨_, rfl, ?_⟩;have XC : ∀ q9, (Mut [(some gb5)]) q9 → q9 < w8.heap.size := (Mut.grow Mut.none_ (qf Bb5.lt));have SC := Nat.le_trans LW.size E.size;have Ec := Ext.of_below hb No;replace Bb5 := Bb5.extN Ec NotIn.nil;replace E := E.trans Ec.no;have S1 := SC;replace HF := HF.on E;replace LW := LW.step E XLW;replace E := erx (Mut [(some gb5)]) w9
 replace HF := HF.and (Per.ownX o1 XC);refine za rfl (ym zez ?_);intro gb10 w11 Bb10 Eb10 Gb10;have Db10_b5 : Apart (some gb10) (some gb5) := Apart.of_lt (qf Bb5.lt) Gb10;have Db5_b10 := Db10_b5.symm;have Gb10 : _ ≤ gb10 := Nat.le_trans E.size Gb10;have GLb10 := Nat.le_trans LW.size Gb10;replace Bb5 := Bb5.extN Eb10 NotIn.nil;replace E := E.trans Eb10.no
 replace HF := HF.cons (yj Gb10);replace E := E.cons (some gb10);replace XLW := Mut.grow XLW (fun k e => Or.inr (Nat.le_trans LW.size ((yj Gb10) k e)));refine yn (vg vk rfl rfl Bb10 rfl rfl (Nat.le_of_ble_eq_true rfl) ?_);intro w12 Bx Eb10;replace Bb10 := Bx;replace Bb5 := Bb5.extN Eb10 (NotIn.cons Db5_b10 NotIn.nil);replace E := E.step1 Eb10 Mut.head
 refine rnx (zl (srx (za rfl (zf Try.underlying40 rfl kl (by decide) rfl (za rfl (zk Try.underlying22 rfl rfl (HF.on E).here.1.2 rfl (za rfl (qe Try.underlying22 rfl (za rfl (yl rfl rfl (rnx (yd 25 (.bool false) rfl ((by rw [beq_eq_false_iff_ne.2 hlen] : (.bool (((((limbs j).length : Nat)) : Int) == 0) : Value) = _)) (zw rfl (zt (zj (zl (srx (za rfl (zf Try.underlying40 rfl kl (by decide) rfl (za rfl (zk Try.underlying22 rfl rfl (HF.on E).here.1.1.2 rfl (za rfl (qe Try.underlying22 rfl (za rfl (yl rfl rfl (mvx rfl (zq 31 (.bool false) rfl ((by rw [beq_eq_false_iff_ne.2 hleni] : (.bool (((((limbs i).length : Nat)) : Int) == 0) : Value) = _)) (onx rfl (zf Try.underlying40 rfl kl (by decide) rfl (onx rfl (zk Try.underlying22 rfl rfl (HF.on E).here.1.1.2 rfl (onx rfl (qe Try.underlying22 rfl (onx rfl (yl rfl rfl (onx rfl (zp rfl ?_)))))))))))))))))))))))))))))))))))))
 have h1 : ((limbs i).length : Int) = 1 := by rw [lim_len1 (by omega) h]; rfl
 refine zq 36 (.bool true) rfl ((by rw [h1]; rfl : (.bool (((((limbs i).length : Nat)) : Int) == 1) : Value) = _)) (onx rfl (zf Try.underlying40 rfl kl (by decide) rfl (onx rfl (zk Try.underlying22 rfl rfl (HF.on E).here.1.1.2 rfl (onx rfl (yc (j := 0) Try.underlying22 vc rfl rfl rfl hip (onx rfl (qm Try.underlying25 rfl rfl (HF.on E).here.1.1.1.1.2 (onx rfl (yl rfl rfl (onx rfl (ya rfl rfl (za rfl (zm rfl rfl (rnx (yd 43 (.bool false) rfl ((by rw [Nat.mod_eq_of_lt h, beq_eq_false_iff_ne.2 (by omega)] : (.bool (((i.natAbs % B18 : Nat) : Int) == 1) : Value) = _)) (zw rfl (zt (zj (zl (srx (za rfl (zf Try.underlying40 rfl kl (by decide) rfl (za rfl (zk Try.underlying22 rfl rfl (HF.on E).here.1.2 rfl (za rfl (qe Try.underlying22 rfl (za rfl (vf rfl rfl (mvx rfl ?_))))))))))))))))))))))))))))))
 have h2 : ¬ (1 : Int) < ((limbs j).length : Int) := by rw [lim_len1 (by omega) hjb]; decide
 refine zq 61 (.bool false) rfl ((by rw [decide_eq_false h2] : (.bool (decide (1 < ((((limbs j).length : Nat)) : Int))) : Value) = _)) (onx rfl (zf Try.underlying40 rfl kl (by decide) rfl (onx rfl (zk Try.underlying22 rfl rfl (HF.on E).here.1.2 rfl (onx rfl (yc (j := 0) Try.underlying22 vc rfl rfl rfl hjp (onx rfl (qm Try.underlying25 rfl rfl (HF.on E).here.1.1.1.2 (onx rfl (vf rfl rfl (za rfl (zm rfl rfl (rnx (yd 67 (.bool false) rfl ((by rw [decide_eq_false (by omega)] : (.bool (decide (2000 < (((j.toNat : Nat) : Int)))) : Value) = _)) (zw rfl (zt (zj (zl (srx (za rfl (zf Try.underlying40 rfl kl (by decide) rfl (za rfl (zk Try.underlying22 rfl rfl (HF.on E).here.1.2 rfl (za rfl (yc (j := 0) Try.underlying22 vc rfl rfl rfl hjp (za rfl (qm Try.underlying25 rfl rfl (HF.on E).here.1.1.1.2 (mvx rfl (rnx (yh ?_))))))))))))))))))))))))))))))
 have b1 : (i ^ 0).natAbs < B18 ^ 30 := by rw [Int.pow_zero]; exact Nat.one_lt_pow (by decide) (by unfold B18; omega)
 have e0 : i ^ 0 = 1 := Int.pow_zero i;replace Bb10 : Blk w12 gb10 40 #[.bool (decide (i ^ 0 < 0)), .slice A1 (limbs (i ^ 0)).length c1] := by rw [e0]; exact Bb10
 replace HF := HF.on E;replace LW := LW.step E XLW;replace E := erx (Mut [(some gb10), (some gb5)]) w12
 refine jd (ι := Nat × Option Addr × Nat) (fun (k, A1, c1) => [(2, .pointer (some ⟨gb1, 0, none⟩)), (4, .pointer (some ⟨gb5, 0, none⟩)), (6, .pointer (some ⟨gb10, 0, none⟩)), (72, .int .u64 ((j.toNat : Nat) : Int)), (73, .int .u64 ((k : Nat) : Int))]) (fun (k, A1, c1) w' => Ext (Mut [(some gb10), (some gb5)]) w12 w' ∧ Blk w' gb10 40 (#[.bool (decide (i ^ k < 0)), .slice A1 (limbs (i ^ k)).length c1]) ∧ Blk w' gb5 40 (#[.bool false, .slice none 0 0]) ∧ (k ≤ j.toNat ∧ (i ^ k).natAbs < B18 ^ 30 ∧ Own w' w.heap.size A1 c1 (limbs (i ^ k)))) (fun (k, A1, c1) => j.toNat - k) (0, A1, c1) ⟨rfl, rfl, rfl, rfl, rfl, trivial⟩ ⟨Ext.refl _ _, (by exact Bb10), (by exact Bb5), ⟨Nat.zero_le _, b1, by rw [e0]; exact ((HF.on E).here.2).mono S1⟩⟩ ?_
 have LTb10 := (qf Bb10.lt);have LTb5 := (qf Bb5.lt);rintro ⟨k, A1, c1⟩ w14 ⟨M13, Bb10, Bb5, ⟨hk, hb1, hown⟩⟩;have XM13 : Gro (Mut [(some gb10), (some gb5)]) (Mut [(some gb10), (some gb5)]) w12 := (Mut.grow (Mut.grow Mut.none_ (fun k e => Or.inl ((Mut.tail Mut.head) k e))) (fun k e => Or.inl (Mut.head k e)));replace E := E.trans M13;replace HF := HF.on E;replace LW := LW.step E XLW
 replace E := erx (Mut [(some gb10), (some gb5)]) w14;clear LTb10;clear LTb5;replace HF := HF.on E;replace LW := LW.step E XLW;replace M13 := M13.step E XM13;replace E := erx (Mut [(some gb10), (some gb5)]) w14;replace HF := HF.and (Per.ownN hown (NotIn.cons (own_apart hown Bb10 (by decide)) (NotIn.cons (own_apart hown Bb5 (by decide)) NotIn.nil)))
 refine srx (za rfl (qo rfl rfl (rnx (zl (yv rfl (fun hlt => ?_) (fun hlt => ?_))))))
 ·
  have hlt := of_decide_eq_true hlt;refine zt (zj (zl (yh (srx (za rfl (zz Try.underlying40 rfl vk rfl Bb10 rfl (za rfl (zz Try.underlying40 rfl vk rfl (HF.on E).here.1.1.1.2 rfl (za rfl (zi en83 rfl ((mulI A1 _ c1 c _ hb1 hi ((HF.on E).here.2).nums (HF.on E).here.1.1.1.1.1.1.1.2).mono ?_)))))))))));rintro e w15 ⟨A3, c3, rfl, o3, hb⟩
  refine ⟨_, rfl, ?_⟩;have XC : ∀ q9, (Mut [(some gb10), (some gb5)]) q9 → q9 < w14.heap.size := (Mut.grow (Mut.grow Mut.none_ (qf Bb5.lt)) (qf Bb10.lt));have SC := Nat.le_trans LW.size E.size;have Ec := Ext.of_below hb No;replace Bb10 := Bb10.extN Ec NotIn.nil;replace Bb5 := Bb5.extN Ec NotIn.nil;replace E := E.trans Ec.no;have S3 := SC;replace HF := HF.on E
  replace LW := LW.step E XLW;replace M13 := M13.step E XM13;replace E := erx (Mut [(some gb10), (some gb5)]) w15;replace HF := HF.and (Per.ownX o3 XC);refine mvx rfl (za rfl (zg rfl rfl (za rfl (zg rfl rfl (za rfl (ym zez ?_))))));intro gb16 w17 Bb16 Eb16 Gb16;have Db16_b10 : Apart (some gb16) (some gb10) := Apart.of_lt (qf Bb10.lt) Gb16
  have Db10_b16 := Db16_b10.symm;have Db16_b5 : Apart (some gb16) (some gb5) := Apart.of_lt (qf Bb5.lt) Gb16;have Db5_b16 := Db16_b5.symm;have Gb16 : _ ≤ gb16 := Nat.le_trans E.size Gb16;have GLb16 := Nat.le_trans LW.size Gb16;replace Bb10 := Bb10.extN Eb16 NotIn.nil;replace Bb5 := Bb5.extN Eb16 NotIn.nil;replace E := E.trans Eb16.no;replace HF := HF.cons (yj Gb16)
  replace E := E.cons (some gb16);replace XLW := Mut.grow XLW (fun k e => Or.inr (Nat.le_trans LW.size ((yj Gb16) k e)));replace XM13 := Mut.grow XM13 (fun k e => Or.inr (Nat.le_trans M13.size ((yj Gb16) k e)));refine yn (vg vk rfl rfl Bb16 rfl rfl (Nat.le_of_ble_eq_true rfl) ?_);intro w18 Bx Eb16;replace Bb16 := Bx
  replace Bb10 := Bb10.extN Eb16 (NotIn.cons Db10_b16 NotIn.nil);replace Bb5 := Bb5.extN Eb16 (NotIn.cons Db5_b16 NotIn.nil);replace E := E.step1 Eb16 Mut.head;refine anx rfl (zl (srx (mvx rfl (za rfl (qh rfl rfl (rnx (yv rfl (fun q => ?_) (fun q => ?_))))))))
  ·
   have e1 : B18 ^ 30 ≤ (i ^ j.toNat).natAbs := by
    have h7 : ¬ (i ^ k * i).natAbs < B18 ^ 30 := fun h9 => by rw [zzk h9] at q; exact absurd q (by decide)
    have h8 := pow_mono (i := i) (by omega) (show k + 1 ≤ j.toNat by omega);rw [Int.pow_succ] at h8;omega
   have e2 : outE true (i ^ k * i) = 7 := outE_big (by
    rcases Nat.lt_or_ge (i ^ k * i).natAbs (B18 ^ 30) with h9 | h9
    · rw [zzk h9] at q; exact absurd q (by decide)
    · exact h9)
   refine srx (za rfl (qb (cs := #[.bool false, .slice none 0 0]) pl40 zez rfl rfl (mvx rfl (yn (vg vk rfl rfl Bb5 rfl rfl (Nat.le_of_ble_eq_true rfl) ?_)))));intro w19 Bx Eb5;replace Bb5 := Bx;replace Bb16 := Bb16.extN Eb5 (NotIn.cons Db16_b5 NotIn.nil);replace Bb10 := Bb10.extN Eb5 (NotIn.cons Db10_b5 NotIn.nil);replace E := E.step1 Eb5 (Mut.tail (Mut.tail Mut.head))
   refine anx rfl (zo (zh (zr (zh (zh (zr (zh (ew_set 5 (.int .i64 7) rfl ((by rw [e2] : (.int .i64 (outE true (i ^ k * i)) : Value) = _)) (zn (rs := [.cell 4 40, .tmp 5]) (vs := [_, _]) rfl ⟨⟨_, rfl, qk Try.underlying40 rfl vk Bb5 rfl⟩, rfl, trivial⟩ ?_)))))))))
   exact by rw [outV_big e1, outE_big e1]; exact retErr_zero (LW.step E XLW).toBelow
  ·
   have h9 : (i ^ k * i).natAbs < B18 ^ 30 := outE_zero (by simpa using q);have eV : outV true (i ^ k * i) = i ^ (k + 1) := by rw [zzq h9, Int.pow_succ]
   refine zt (zj (yq (za rfl (zz Try.underlying40 rfl vk rfl Bb16 rfl (yn (vg vk rfl rfl Bb10 rfl rfl (Nat.le_of_ble_eq_true rfl) ?_))))));intro w20 Bx Eb10;replace Bb10 := Bx;replace Bb16 := Bb16.extN Eb10 (NotIn.cons Db16_b10 NotIn.nil);replace Bb5 := Bb5.extN Eb10 (NotIn.cons Db5_b10 NotIn.nil);replace E := E.step1 Eb10 (Mut.tail Mut.head)
   refine qz (zx (zj (yq (za rfl (yp rfl rfl (wrap_u64 (by omega)) (mvx rfl (qz ?_)))))));rw [eV] at Bb10
   exact ve (k + 1, A3, c3) (by show j.toNat - (k + 1) < j.toNat - k; omega) ⟨rfl, rfl, rfl, rfl, rfl, trivial⟩ ⟨M13.step E XM13, (by exact Bb10), (by exact Bb5), by omega, by rw [Int.pow_succ]; exact h9, by rw [← eV]; exact ((HF.on E).here.2).mono S3⟩
 ·
  have hge := of_decide_eq_false hlt;obtain rfl : k = j.toNat := by omega
  refine vo (yf (yf (yx (zj (srx (za rfl (zz Try.underlying40 rfl vk rfl Bb10 rfl (yn (vg vk rfl rfl Bb5 rfl rfl (Nat.le_of_ble_eq_true rfl) ?_)))))))));intro w21 Bx Eb5;replace Bb5 := Bx;replace Bb10 := Bb10.extN Eb5 (NotIn.cons Db10_b5 NotIn.nil);replace E := E.step1 Eb5 (Mut.tail Mut.head);replace HF := HF.on E
  replace LW := LW.step E XLW;have SB : ∀ q9, Mut [(some gb10)] q9 → Mut [(some gb10), (some gb5)] q9 := (Mut.keep (Mut.skip Mut.nil_));replace HF := HF.less SB;replace XLW := fun k h => XLW k (SB k h);clear SB;replace E := erx (Mut [(some gb10)]) w21;replace HF := HF.and (Per.blkN Bb5 (NotIn.cons Db5_b10 NotIn.nil))
  refine anx rfl (zo (zn (rs := [.cell 4 40, .tmp 5]) (vs := [_, _]) rfl ⟨⟨_, rfl, qk Try.underlying40 rfl vk (HF.on E).here.2 rfl⟩, rfl, trivial⟩ ?_));exact ⟨A1, c1, by rw [zzq hb1, zzk hb1]; rfl, by rw [zzq hb1]; exact (HF.on E).here.1.2, (LW.step E XLW).toBelow⟩
end
theorem zyq {z : Int} (h : z.natAbs < 9223372036854775809) : z.natAbs < B18 ^ 30 := Nat.lt_of_lt_of_le (Nat.lt_of_lt_of_le h (by decide)) (Nat.le_trans (two_mono2 (k := 64) (K := 1024) rfl rfl (by decide)) B18_30)
theorem two_natAbs (k : Nat) : ((2 : Int) ^ k).natAbs = 2 ^ k := by rw [Int.natAbs_pow]; rfl
theorem two_posI (k : Nat) : (0 : Int) < 2 ^ k := Int.pow_pos (by decide)
theorem two_neg (k : Nat) : decide ((2 : Int) ^ k < 0) = false := decide_eq_false (by have := two_posI k; omega)
theorem two_30 {k : Nat} (h : k ≤ 1023) : ((2 : Int) ^ k).natAbs < B18 ^ 30 := by
 rw [two_natAbs];exact Nat.lt_of_lt_of_le (Nat.pow_lt_pow_right (by decide) (show k < 1024 by omega)) B18_30
theorem two_pow (k : Nat) (A B : Option Addr) (c d : Nat) (w : World) (hk : k ≤ 1023) (hx : Nums w A (limbs 2)) (hy : Nums w B (limbs ((k : Nat) : Int))) :
 Calls Try.prog 82 #[.agg #[.bool (decide ((2 : Int) < 0)), .slice A (limbs 2).length c], .agg #[.bool (decide (((k : Nat) : Int) < 0)), .slice B (limbs ((k : Nat) : Int)).length d]] w (jj w ((2 : Int) ^ k) 0) := by
 rcases Nat.eq_zero_or_pos k with h0 | h0
 · have h := pow_zero 2 ((k : Nat) : Int) A B c d w (zyq (by decide)) (zyq (by omega)) hx hy (by omega);rw [h0] at h ⊢;exact h
 · have h := pow_l1 2 ((k : Nat) : Int) A B c d w (zyq (by decide)) (zyq (by omega)) hx hy (by omega) (by omega) (by decide) (by decide);rw [Int.toNat_natCast, zzq (two_30 hk), zzk (two_30 hk)] at h;exact h
theorem dq_whole {a M k : Nat} (hM : M = vh a * 2 ^ k) {n1 : Bool} {m0 : Int} (h0 : m0 = if ng a then -((M : Nat) : Int) else ((M : Nat) : Int)) (h1 : n1 = decide (m0 < 0)) : dq n1 false M (2 ^ k) = km a := by
 have hp := zeq k;have e1 : M / 2 ^ k = vh a := by rw [hM]; exact Nat.mul_div_cancel _ hp
 have e2 : M % 2 ^ k = 0 := by rw [hM]; exact Nat.mul_mod_left _ _
 unfold dq km;rw [e1, e2, h1, h0];by_cases hz : vh a = 0
 · rw [hz] at hM ⊢;rw [Nat.zero_mul] at hM;subst hM;cases ng a <;> simp
 · have hMp : 0 < M := by rw [hM]; exact Nat.mul_pos (by omega) hp
   cases ng a with
   | true => simp only [if_true]; rw [decide_eq_true (by omega)]; rfl
   | false => simp only [Bool.false_eq_true, if_false]; rw [decide_eq_false (by omega)]; rfl
theorem pos_zero {x P : Nat} (hP : 0 < P) (h : 0 = x * P) : x = 0 := by
 rcases Nat.eq_zero_or_pos x with h' | h'
 · exact h'
 · have := Nat.mul_pos h' hP; omega
theorem val_gen_hi {m e W P n k M : Nat} (hP : P = 2 ^ 1074) (h : m * 2 ^ e = W * P * 2 ^ n) (hc : 1074 + n ≤ e) (hk : k = e - (1074 + n)) (hM : M = m) : W = M * 2 ^ k := by
 have h1 : P * 2 ^ n = 2 ^ (1074 + n) := by rw [hP, Nat.pow_add]
 rw [Nat.mul_assoc, h1, yuk hc] at h;rw [hM, hk];exact (Nat.eq_of_mul_eq_mul_right (zeq _) h).symm
theorem val_gen_lo {m e W P n k M : Nat} (hP : P = 2 ^ 1074) (h : m * 2 ^ e = W * P * 2 ^ n) (hc : e ≤ 1074 + n) (hk : k = 1074 + n - e) (hM : M = m) : M = W * 2 ^ k := by
 have h1 : P * 2 ^ n = 2 ^ (1074 + n) := by rw [hP, Nat.pow_add]
 rw [Nat.mul_assoc, h1, yuk hc W] at h;rw [hM, hk];exact Nat.eq_of_mul_eq_mul_right (zeq _) h
theorem val_hi {m e W n k M : Nat} (h : m * 2 ^ e = W * 2 ^ 1074 * 2 ^ n) (hc : 1074 + n ≤ e) (hk : k = e - (1074 + n)) (hM : M = m) : W = M * 2 ^ k := val_gen_hi rfl h hc hk hM
theorem val_lo {m e W n k M : Nat} (h : m * 2 ^ e = W * 2 ^ 1074 * 2 ^ n) (hc : e ≤ 1074 + n) (hk : k = 1074 + n - e) (hM : M = m) : M = W * 2 ^ k := val_gen_lo rfl h hc hk hM
theorem div_two {a M k : Nat} {m0 : Int} (hM : M = vh a * 2 ^ k) (h0 : m0 = if ng a then -((M : Nat) : Int) else ((M : Nat) : Int)) (hMb : M < 9223372036854775808) (hk : k ≤ 1023) (A B : Option Addr) (c d : Nat) (w : World) (hx : Nums w A (limbs m0)) (hy : Nums w B (limbs ((2 : Int) ^ k))) :
 Calls Try.prog 84 #[.agg #[.bool (decide (m0 < 0)), .slice A (limbs m0).length c], .agg #[.bool (decide ((2 : Int) ^ k < 0)), .slice B (limbs ((2 : Int) ^ k)).length d]] w fun e w' => ∃ A5 c5 B6 c6 r, e = .returned (.tuple #[.agg #[.bool (decide (km a < 0)), .slice A5 (limbs (km a)).length c5], .agg #[.bool (decide (r < 0)), .slice B6 (limbs r).length c6], .int .i64 0]) ∧ Own w' w.heap.size A5 c5 (limbs (km a)) ∧ Below w.heap.size w w' := by
 have hma : m0.natAbs = M := by rw [h0]; split <;> omega
 have h := divmod_ok A B c d (limbs m0) (limbs ((2 : Int) ^ k)) w (decide (m0 < 0)) (decide ((2 : Int) ^ k < 0)) hx hy (kj (zyq (by omega))) (kj (two_30 hk)) (lim_pos (by have := two_posI k; omega));rw [jc m0, jc ((2 : Int) ^ k), kt jb, kt jb, ← jc, ← jc, hma, two_natAbs, two_neg, dq_whole hM h0 rfl] at h;rw [two_neg]
 exact h.mono fun e w' ⟨A5, c5, B6, c6, he, o1, o2, hb, _⟩ => ⟨A5, c5, B6, c6, _, he, o1, hb⟩
section
variable (w : World) (a : Nat) (ha : a < 18446744073709551616)
theorem ynz (hf : rg a < 9218868437227405312) : Calls Try.prog 75 #[.float .f64 a] w fun e w' => e = .returned (.float .f64 (xt .zero a)) ∧ Below w.heap.size w w' := by
 refine yb Try.func75 rfl Try.ntmps75 rfl ?_;have LW := erx (No) w;have XLW := grx (No) w;have E := erx (No) w;refine srx (anx rfl (zl (ye rfl (srx (mvx rfl (za rfl (ow_round ex85 rfl ((isN_read a).trans (gi hf)) (anx rfl (zo (zh (zn (rs := [.tmp 2]) (vs := [_]) rfl ⟨rfl, trivial⟩ ?_)))))))))));exact ⟨rfl, (LW.step E XLW).toBelow⟩
include ha
section
variable (hf : rg a < 9218868437227405312)
include hf
theorem whole_zero (h0 : vh a = 0) : Calls Try.prog 74 #[.int .u64 ((a : Nat) : Int)] w (jj w (km a) 0) := by
 obtain ⟨q, hq1, hq2, hq3⟩ := zvk hf;have hq0 : q = 0 := yqv.1 (zero_p hq1 h0);obtain ⟨r1, r2, r3⟩ := kd (ng a) q (by omega);obtain ⟨M, hMd⟩ : ∃ M, M = 0 := ⟨_, rfl⟩;obtain ⟨k, hk⟩ : ∃ k, k = 53 := ⟨_, rfl⟩;obtain ⟨m0, hm0⟩ : ∃ m0 : Int, m0 = if ng a then -((M : Nat) : Int) else ((M : Nat) : Int) := ⟨_, rfl⟩
 have hM : M = vh a * 2 ^ k := by rw [h0, Nat.zero_mul, hMd]
 have hwz : vh (Ieee.double.word (ng a) q) = 0 := (zsx (ng a) (by omega) hq1).trans h0;have hfz : floatToIntVal .f64 (Ieee.double.word (ng a) q) .i64 = some m0 := by
  rw [f2i_i64 (by rw [r1]; omega) (by rw [hwz]; decide), hwz, r2, hm0, hMd]
 refine yb Try.func74 rfl Try.ntmps74 rfl ?_;have HF : Per (No) w (fun _ => True) := Per.true_;have LW := erx (No) w;have XLW := grx (No) w;have E := erx (No) w;refine srx (za rfl (ym zez ?_));intro gb1 w2 Bb1 Eb1 Gb1;have Gb1 : _ ≤ gb1 := Nat.le_trans E.size Gb1;have GLb1 := Nat.le_trans LW.size Gb1;replace E := E.trans Eb1.no;replace HF := HF.cons (yj Gb1)
 replace E := E.cons (some gb1);replace XLW := Mut.grow XLW (fun k e => Or.inr (Nat.le_trans LW.size ((yj Gb1) k e)))
 refine anx rfl (srx (mvx rfl (za rfl (va (b := a) zrk rfl (anx rfl (zl (yh (srx (mvx rfl (mvx rfl (za rfl (xc rfl rfl (anx rfl (yd 18 (.bool false) rfl ((by rw [jw, gi hf] : (.bool (js a a != some .eq) : Value) = _)) (zw rfl (srx (mvx rfl (za rfl (zi en66 rfl ((jz _ a ha).mono ?_))))))))))))))))))));rintro e w3 ⟨rfl, hb⟩
 refine ⟨_, rfl, ?_⟩;have Ec := Ext.of_below hb No;replace Bb1 := Bb1.extN Ec NotIn.nil;replace E := E.trans Ec.no;refine zq 25 (.bool false) rfl ((by rw [decide_eq_false (by omega)] : (.bool (decide (rg a = 9218868437227405312)) : Value) = _)) (anx rfl (zw rfl (zt (zx (zj (srx (mvx rfl (za rfl (zi en75 rfl ((ynz _ a hf).mono ?_))))))))))
 rintro e w4 ⟨rfl, hb⟩;refine ⟨_, rfl, ?_⟩;have Ec := Ext.of_below hb No;replace Bb1 := Bb1.extN Ec NotIn.nil;replace E := E.trans Ec.no;refine zq 29 (.float .f64 (Ieee.double.word (ng a) q)) rfl ((by rw [hq3] : (.float .f64 (xt .zero a) : Value) = _)) (za rfl (zi en67 rfl ((Frexp_zero _ (Ieee.double.word (ng a) q) r3 (by rw [r1]; exact hq0)).mono ?_)));rintro e w5 ⟨rfl, hb⟩
 refine ⟨_, rfl, ?_⟩;have Ec := Ext.of_below hb No;replace Bb1 := Bb1.extN Ec NotIn.nil;replace E := E.trans Ec.no;refine mvx rfl (za rfl (zg rfl rfl (za rfl (zg rfl rfl (avx rfl (anx rfl (srx (mvx rfl (za rfl (zi en69 rfl ((Ldexp_zero _ (Ieee.double.word (ng a) q) r3 (by rw [r1]; exact hq0) 53).mono ?_)))))))))));rintro e w6 ⟨rfl, hb⟩;refine ⟨_, rfl, ?_⟩
 have Ec := Ext.of_below hb No;replace Bb1 := Bb1.extN Ec NotIn.nil;replace E := E.trans Ec.no;refine za rfl (yoq (z := m0) Try.underlying3 (by rw [Try.underlying92]; rfl) rfl hfz (za rfl (zi en51 rfl ((zhv m0 _ (by rw [hm0]; split <;> omega) (by rw [hm0]; split <;> omega)).mono ?_))));rintro e w7 ⟨A1, c1, rfl, o1, hb⟩;refine ⟨_, rfl, ?_⟩
 have XC : ∀ q9, (Mut [(some gb1)]) q9 → q9 < w6.heap.size := (Mut.grow Mut.none_ (qf Bb1.lt));have Ec := Ext.of_below hb No;replace Bb1 := Bb1.extN Ec NotIn.nil;replace E := E.trans Ec.no;replace HF := HF.on E;replace LW := LW.step E XLW;replace E := erx (Mut [(some gb1)]) w7;replace HF := HF.and (Per.own o1 XC);refine za rfl (ym zez ?_);intro gb8 w9 Bb8 Eb8 Gb8
 have Db8_b1 : Apart (some gb8) (some gb1) := Apart.of_lt (qf Bb1.lt) Gb8;have Db1_b8 := Db8_b1.symm;have Gb8 : _ ≤ gb8 := Nat.le_trans E.size Gb8;have GLb8 := Nat.le_trans LW.size Gb8;replace Bb1 := Bb1.extN Eb8 NotIn.nil;replace E := E.trans Eb8.no;replace HF := HF.cons (yj Gb8);replace E := E.cons (some gb8)
 replace XLW := Mut.grow XLW (fun k e => Or.inr (Nat.le_trans LW.size ((yj Gb8) k e)));refine yn (vg vk rfl rfl Bb8 rfl rfl (Nat.le_of_ble_eq_true rfl) ?_);intro w10 Bx Eb8;replace Bb8 := Bx;replace Bb1 := Bb1.extN Eb8 (NotIn.cons Db1_b8 NotIn.nil);replace E := E.step1 Eb8 Mut.head;refine rnx (srx (za rfl (zi en51 rfl ((zhv 2 _ (by decide) (by decide)).mono ?_))))
 rintro e w11 ⟨A2, c2, rfl, o2, hb⟩;refine ⟨_, rfl, ?_⟩;have XC : ∀ q9, (Mut [(some gb8), (some gb1)]) q9 → q9 < w10.heap.size := (Mut.grow (Mut.grow Mut.none_ (qf Bb1.lt)) (qf Bb8.lt));have Ec := Ext.of_below hb No;replace Bb8 := Bb8.extN Ec NotIn.nil;replace Bb1 := Bb1.extN Ec NotIn.nil;replace E := E.trans Ec.no;replace HF := HF.on E;replace LW := LW.step E XLW
 replace E := erx (Mut [(some gb8), (some gb1)]) w11;replace HF := HF.and (Per.own o2 XC);refine za rfl (ym zez ?_);intro gb12 w13 Bb12 Eb12 Gb12;have Db12_b8 : Apart (some gb12) (some gb8) := Apart.of_lt (qf Bb8.lt) Gb12;have Db8_b12 := Db12_b8.symm;have Db12_b1 : Apart (some gb12) (some gb1) := Apart.of_lt (qf Bb1.lt) Gb12;have Db1_b12 := Db12_b1.symm
 have Gb12 : _ ≤ gb12 := Nat.le_trans E.size Gb12;have GLb12 := Nat.le_trans LW.size Gb12;replace Bb8 := Bb8.extN Eb12 NotIn.nil;replace Bb1 := Bb1.extN Eb12 NotIn.nil;replace E := E.trans Eb12.no;replace HF := HF.cons (yj Gb12);replace E := E.cons (some gb12);replace XLW := Mut.grow XLW (fun k e => Or.inr (Nat.le_trans LW.size ((yj Gb12) k e)))
 refine yn (vg vk rfl rfl Bb12 rfl rfl (Nat.le_of_ble_eq_true rfl) ?_);intro w14 Bx Eb12;replace Bb12 := Bx;replace Bb8 := Bb8.extN Eb12 (NotIn.cons Db8_b12 NotIn.nil);replace Bb1 := Bb1.extN Eb12 (NotIn.cons Db1_b12 NotIn.nil);replace E := E.step1 Eb12 Mut.head;replace HF := HF.on E;replace LW := LW.step E XLW
 have SB : ∀ q9, Mut [(some gb8), (some gb1)] q9 → Mut [(some gb12), (some gb8), (some gb1)] q9 := (Mut.skip (Mut.keep (Mut.keep Mut.nil_)));replace HF := HF.less SB;replace XLW := fun k h => XLW k (SB k h);clear SB;replace E := erx (Mut [(some gb8), (some gb1)]) w14;replace HF := HF.and (Per.blkN Bb12 (NotIn.cons Db12_b8 (NotIn.cons Db12_b1 NotIn.nil)))
 refine rnx (zl (srx (mvx rfl (za rfl (vq (z := (-53)) rfl rfl (by kernel_rfl) (anx rfl (srx (mvx rfl (za rfl (jr rfl rfl (rnx (zw rfl (zt (zj (zl (srx (mvx rfl (za rfl (qo rfl rfl (rnx (zw rfl (zt (zj (zl ?_))))))))))))))))))))))))
 have OY : ∀ q9, (Mut (outM [])) q9 → q9 < (World.drew w14).heap.size → (Mut [(some gb8), (some gb1)]) q9 := fun k h _ => (Mut.none_) k h;refine qt (Mut [(some gb8), (some gb1)]) (Mut.grow (Mut.grow Mut.none_ (qf Bb1.lt)) (qf Bb8.lt)) [⟨8, 9, 40, #[.bool false, .slice none 0 0]⟩] [] (gg [Fx.of (.agg #[.bool (decide ((2 : Int) < 0)), .slice A2 (limbs 2).length c2]),
  Fx.of (.int .i64 (-53)),
  Fx.of (.int .i64 ((k : Nat) : Int)),
  ⟨(Option Addr × Nat), fun (A3, c3) => .agg #[.bool (decide (((k : Nat) : Int) < 0)), .slice A3 (limbs ((k : Nat) : Int)).length c3], fun (A3, c3) b => (Nums b A3 (limbs ((k : Nat) : Int)))⟩,
  ⟨(Option Addr × Nat), fun (A4, c4) => .tuple #[.agg #[.bool (decide ((2 : Int) ^ k < 0)), .slice A4 (limbs ((2 : Int) ^ k)).length c4], .int .i64 0], fun (A4, c4) b => (Nums b A4 (limbs ((2 : Int) ^ k)))⟩,
  ⟨(Option Addr × Nat), fun (A4, c4) => .tuple #[.agg #[.bool (decide ((2 : Int) ^ k < 0)), .slice A4 (limbs ((2 : Int) ^ k)).length c4], .int .i64 0], fun (A4, c4) b => (Nums b A4 (limbs ((2 : Int) ^ k)))⟩,
  ⟨(Option Addr × Nat), fun (A4, c4) => .agg #[.bool (decide ((2 : Int) ^ k < 0)), .slice A4 (limbs ((2 : Int) ^ k)).length c4], fun (A4, c4) b => (Nums b A4 (limbs ((2 : Int) ^ k)))⟩,
  Fx.of (.int .i64 0),
  Fx.of undef,
  Fx.of undef,
  Fx.of (.int .i64 0)]) vu rfl trivial (fun _ h => by cases h) ?_ ?_
 · refine ⟨?_, ?_, ?_, ?_, ?_, ?_, ?_, ?_, ?_, ?_, ?_, trivial⟩
   · intro vs X wq K;have LE := K.1;exact zz Try.underlying40 rfl vk rfl (HF.on (E.drew.trans (LE.mono OY))).here.2 rfl ⟨Below.refl _ _, Left.of rfl⟩
   · intro vs X wq K;exact zp rfl ⟨Below.refl _ _, Left.of rfl⟩
   · intro vs X wq K;obtain ⟨_, e1, k1⟩ := K.dep 1 rfl rfl rfl;refine zc 61 (.int .i64 (-53)) rfl e1 ?_;exact ow_neg (z := 53) rfl (by kernel_rfl) ⟨Below.refl _ _, Left.of (by rw [hk]; rfl)⟩
   · intro vs X wq K;have XN := K.2.1;obtain ⟨_, e2, k2⟩ := K.dep 2 rfl rfl rfl;refine zc 62 (.int .i64 ((k : Nat) : Int)) rfl e2 (zi en51 rfl ((zhv ((k : Nat) : Int) _ (by omega) (by omega)).mono ?_));rintro e w2 ⟨A3, c3, rfl, o3, hb⟩;exact ⟨_, rfl, hb, ⟨(A3, c3), rfl, Per.own o3 XN⟩⟩
   · intro vs X wq K;have LE := K.1;have XN := K.2.1;obtain ⟨_, e0, k0⟩ := K.dep 0 rfl rfl rfl;refine zc 60 (.agg #[.bool (decide ((2 : Int) < 0)), .slice A2 (limbs 2).length c2]) rfl e0 ?_;obtain ⟨⟨A3, c3⟩, e3, k3⟩ := K.dep 3 rfl rfl rfl
     refine zc 63 (.agg #[.bool (decide (((k : Nat) : Int) < 0)), .slice A3 (limbs ((k : Nat) : Int)).length c3]) rfl e3 (zi en82 rfl ((two_pow k A2 A3 c2 c3 _ (by omega) (HF.on (E.drew.trans (LE.mono OY))).here.1.2 k3.here).mono ?_));rintro e w2 ⟨A4, c4, rfl, o4, hb⟩;exact ⟨_, rfl, hb, ⟨(A4, c4), rfl, Per.own o4 XN⟩⟩
   · intro vs X wq K;obtain ⟨⟨A4, c4⟩, e4, k4⟩ := K.dep 4 rfl rfl rfl;refine zc 64 (.tuple #[.agg #[.bool (decide ((2 : Int) ^ k < 0)), .slice A4 (limbs ((2 : Int) ^ k)).length c4], .int .i64 0]) rfl e4 ?_;exact zp rfl ⟨Below.refl _ _, ⟨⟨A4, c4⟩, rfl, (k4.map (fun _ h => h))⟩⟩
   · intro vs X wq K;obtain ⟨⟨A4, c4⟩, e5, k5⟩ := K.dep 5 rfl rfl rfl;refine zc 59 (.tuple #[.agg #[.bool (decide ((2 : Int) ^ k < 0)), .slice A4 (limbs ((2 : Int) ^ k)).length c4], .int .i64 0]) rfl e5 ?_;exact zg rfl rfl ⟨Below.refl _ _, ⟨⟨A4, c4⟩, rfl, (k5.map (fun _ h => h))⟩⟩
   · intro vs X wq K;obtain ⟨⟨A4, c4⟩, e5, k5⟩ := K.dep 5 rfl rfl rfl;refine zc 59 (.tuple #[.agg #[.bool (decide ((2 : Int) ^ k < 0)), .slice A4 (limbs ((2 : Int) ^ k)).length c4], .int .i64 0]) rfl e5 ?_;exact zg rfl rfl ⟨Below.refl _ _, Left.of rfl⟩
   · exact ⟨_, _, _, _, _, rfl, zez, rfl⟩
   · refine ⟨_, _, _, _, _, rfl, rfl, rfl, vk, fun vs X wq K => ?_⟩;obtain ⟨⟨A4, c4⟩, e0, _⟩ := K.dep 6 rfl rfl rfl;exact ⟨vs 6, rfl, by rw [e0]; rfl, by rw [e0]; rfl⟩
   · intro vs X wq K;obtain ⟨_, e7, k7⟩ := K.dep 7 rfl rfl rfl;refine zc 66 (.int .i64 0) rfl e7 ?_;exact yw rfl ⟨Below.refl _ _, Left.of rfl⟩
 intro vs w15 LE AO AL AF AA;have LBb8 := Bb8;have LBb1 := Bb1;replace Bb8 := Bb8.drew.extN LE NotIn.nil;replace Bb1 := Bb1.drew.extN LE NotIn.nil;replace E := E.drew.trans (LE.mono OY);obtain ⟨⟨A4, c4⟩, e6, k6⟩ := AL.2.2.2.2.2.2.1;replace HF := HF.on E;replace LW := LW.step E XLW;replace E := erx (Mut [(some gb8), (some gb1)]) w15
 replace HF := HF.and ((k6.map (fun _ h => h) : Per (Mut [(some gb8), (some gb1)]) w15 (fun b => Nums b A4 (limbs ((2 : Int) ^ k)))));obtain ⟨gb16, v0, y0, qb16, Gb16, Bb16, ey, ev0⟩ := AF.1;cases ey
 obtain rfl : vs 6 = v0 := Option.some.inj ev0;rw [e6] at Bb16;have Db16_b8 : Apart (some gb16) (some gb8) := Apart.of_lt (qf LBb8.lt) Gb16;have Db8_b16 := Db16_b8.symm;have Db16_b1 : Apart (some gb16) (some gb1) := Apart.of_lt (qf LBb1.lt) Gb16;have Db1_b16 := Db16_b1.symm;replace HF := HF.on E;replace LW := LW.step E XLW;replace E := erx (Mut [(some gb8), (some gb1)]) w15
 replace HF := HF.and ((Per.blkN Bb16 (NotIn.cons Db16_b8 (NotIn.cons Db16_b1 NotIn.nil)) : Per (Mut [(some gb8), (some gb1)]) w15 (fun b => Blk b gb16 40 #[.bool (decide ((2 : Int) ^ k < 0)), .slice A4 (limbs ((2 : Int) ^ k)).length c4])));have e8 := qb16;refine qy (τ := [(2, _), (3, _), (7, _), (11, .pointer (some ⟨gb16, 0, none⟩))]) ⟨rfl, rfl, rfl, congrArg some e8, trivial⟩ ?_
 clear AL AF AA LE AO OY e6 e8 k6 LBb8 LBb1;refine zj (srx (za rfl (zz Try.underlying40 rfl vk rfl Bb8 rfl (za rfl (zz Try.underlying40 rfl vk rfl (HF.on E).here.2 rfl (za rfl (zi en84 rfl ((div_two hM hm0 (by omega) (by omega) A1 A4 c1 c4 _ (HF.on E).here.1.1.1.1.2 (HF.on E).here.1.2).mono ?_))))))));rintro e w17 ⟨A5, c5, B6, c6, r, rfl, o5, hb⟩
 refine ⟨_, rfl, ?_⟩;have XC : ∀ q9, (Mut [(some gb8), (some gb1)]) q9 → q9 < w15.heap.size := (Mut.grow (Mut.grow Mut.none_ (qf Bb1.lt)) (qf Bb8.lt));have SC := Nat.le_trans LW.size E.size;have Ec := Ext.of_below hb No;replace Bb8 := Bb8.extN Ec NotIn.nil;replace Bb1 := Bb1.extN Ec NotIn.nil;replace E := E.trans Ec.no;have hS := SC;replace HF := HF.on E;replace LW := LW.step E XLW
 replace E := erx (Mut [(some gb8), (some gb1)]) w17;replace HF := HF.and (Per.ownX o5 XC);refine mvx rfl (za rfl (zg rfl rfl (za rfl (zg rfl rfl (za rfl (zg rfl rfl (za rfl (ym zez ?_))))))));intro gb18 w19 Bb18 Eb18 Gb18;have Db18_b8 : Apart (some gb18) (some gb8) := Apart.of_lt (qf Bb8.lt) Gb18;have Db8_b18 := Db18_b8.symm
 have Db18_b1 : Apart (some gb18) (some gb1) := Apart.of_lt (qf Bb1.lt) Gb18;have Db1_b18 := Db18_b1.symm;have Gb18 : _ ≤ gb18 := Nat.le_trans E.size Gb18;have GLb18 := Nat.le_trans LW.size Gb18;replace Bb8 := Bb8.extN Eb18 NotIn.nil;replace Bb1 := Bb1.extN Eb18 NotIn.nil;replace E := E.trans Eb18.no;replace HF := HF.cons (yj Gb18);replace E := E.cons (some gb18)
 replace XLW := Mut.grow XLW (fun k e => Or.inr (Nat.le_trans LW.size ((yj Gb18) k e)));refine za rfl (ym zez ?_);intro gb20 w21 Bb20 Eb20 Gb20;have Db20_b18 : Apart (some gb20) (some gb18) := Apart.of_lt (qf Bb18.lt) Gb20;have Db18_b20 := Db20_b18.symm;have Db20_b8 : Apart (some gb20) (some gb8) := Apart.of_lt (qf Bb8.lt) Gb20;have Db8_b20 := Db20_b8.symm
 have Db20_b1 : Apart (some gb20) (some gb1) := Apart.of_lt (qf Bb1.lt) Gb20;have Db1_b20 := Db20_b1.symm;have Gb20 : _ ≤ gb20 := Nat.le_trans E.size Gb20;have GLb20 := Nat.le_trans LW.size Gb20;replace Bb18 := Bb18.extN Eb20 NotIn.nil;replace Bb8 := Bb8.extN Eb20 NotIn.nil;replace Bb1 := Bb1.extN Eb20 NotIn.nil;replace E := E.trans Eb20.no;replace HF := HF.cons (yj Gb20)
 replace E := E.cons (some gb20);replace XLW := Mut.grow XLW (fun k e => Or.inr (Nat.le_trans LW.size ((yj Gb20) k e)));refine yn (vg vk rfl rfl Bb18 rfl rfl (Nat.le_of_ble_eq_true rfl) ?_);intro w22 Bx Eb18;replace Bb18 := Bx;replace Bb20 := Bb20.extN Eb18 (NotIn.cons Db20_b18 NotIn.nil);replace Bb8 := Bb8.extN Eb18 (NotIn.cons Db8_b18 NotIn.nil)
 replace Bb1 := Bb1.extN Eb18 (NotIn.cons Db1_b18 NotIn.nil);replace E := E.step1 Eb18 (Mut.tail Mut.head);replace HF := HF.on E;replace LW := LW.step E XLW;have SB : ∀ q9, Mut [(some gb20), (some gb8), (some gb1)] q9 → Mut [(some gb20), (some gb18), (some gb8), (some gb1)] q9 := (Mut.keep (Mut.skip (Mut.keep (Mut.keep Mut.nil_))));replace HF := HF.less SB;replace XLW := fun k h => XLW k (SB k h)
 clear SB;replace E := erx (Mut [(some gb20), (some gb8), (some gb1)]) w22;replace HF := HF.and (Per.blkN Bb18 (NotIn.cons Db18_b20 (NotIn.cons Db18_b8 (NotIn.cons Db18_b1 NotIn.nil))));refine yn (vg vk rfl rfl Bb20 rfl rfl (Nat.le_of_ble_eq_true rfl) ?_);intro w23 Bx Eb20;replace Bb20 := Bx;replace Bb8 := Bb8.extN Eb20 (NotIn.cons Db8_b20 NotIn.nil)
 replace Bb1 := Bb1.extN Eb20 (NotIn.cons Db1_b20 NotIn.nil);replace E := E.step1 Eb20 Mut.head;replace HF := HF.on E;replace LW := LW.step E XLW;have SB : ∀ q9, Mut [(some gb8), (some gb1)] q9 → Mut [(some gb20), (some gb8), (some gb1)] q9 := (Mut.skip (Mut.keep (Mut.keep Mut.nil_)));replace HF := HF.less SB;replace XLW := fun k h => XLW k (SB k h);clear SB
 replace E := erx (Mut [(some gb8), (some gb1)]) w23;replace HF := HF.and (Per.blkN Bb20 (NotIn.cons Db20_b8 (NotIn.cons Db20_b1 NotIn.nil)));refine anx rfl (srx (za rfl (zz Try.underlying40 rfl vk rfl (HF.on E).here.1.2 rfl (yn (vg vk rfl rfl Bb1 rfl rfl (Nat.le_of_ble_eq_true rfl) ?_)))));intro w24 Bx Eb1;replace Bb1 := Bx
 replace Bb8 := Bb8.extN Eb1 (NotIn.cons Db8_b1 NotIn.nil);replace E := E.step1 Eb1 (Mut.tail Mut.head);replace HF := HF.on E;replace LW := LW.step E XLW;have SB : ∀ q9, Mut [(some gb8)] q9 → Mut [(some gb8), (some gb1)] q9 := (Mut.keep (Mut.skip Mut.nil_));replace HF := HF.less SB;replace XLW := fun k h => XLW k (SB k h);clear SB;replace E := erx (Mut [(some gb8)]) w24
 replace HF := HF.and (Per.blkN Bb1 (NotIn.cons Db1_b8 NotIn.nil));refine anx rfl (zo (zn (rs := [.cell 2 40, .tmp 3]) (vs := [_, _]) rfl ⟨⟨_, rfl, qk Try.underlying40 rfl vk (HF.on E).here.2 rfl⟩, rfl, trivial⟩ ?_));exact ⟨A5, c5, rfl, ((HF.on E).here.1.1.1.2).mono hS, (LW.step E XLW).toBelow⟩
/-! ### a whole number that is not nought -/
theorem whole_num (h0 : vh a ≠ 0) : Calls Try.prog 74 #[.int .u64 ((a : Nat) : Int)] w (jj w (km a) 0) := by
 obtain ⟨q, hq1, hq2, hq3⟩ := zvk hf;have hqf : q < 9218868437227405312 := by omega
 have hq0 : q ≠ 0 := fun e => by
  subst e;rw [oi] at hq1;exact h0 (pos_zero (zeq 1074) hq1)
 obtain ⟨r1, r2, r3⟩ := kd (ng a) q (by omega);obtain ⟨T, hT⟩ : ∃ T, T = Ieee.double.word (ng a) q := ⟨_, rfl⟩;have hT1 : rg T = q := by rw [hT, r1]
 have hT2 : ng T = ng a := by rw [hT, r2]
 obtain ⟨F, hF⟩ : ∃ F, F = frF T := ⟨_, rfl⟩;have hmn := mg_nr hq0;have hFp : rg F = 4602678819172646912 + (mg (nr q) - 4503599627370496) ∧ ng F = ng a ∧ F < 18446744073709551616 := by
  rw [hF, frF, hT1, hT2];exact kd _ _ (by omega)
 obtain ⟨fq1, fq2⟩ := fullQ (r := q) hq0;have hFv : vl (rg F) = mg (nr q) * 2 ^ 1021 := by
  rw [hFp.1, ← frF_pos hqf];exact (frF_parts hqf hq0).2.2
 have fq3 : vl (1074 * 4503599627370496 + mg (nr q)) = vl (rg F) * 2 ^ 53 := by rewrite [fq1, hFv]; exact yoz (p := 1074) (q := 1021) (s := 53) (by decide) _
 obtain ⟨M, hMd⟩ : ∃ M, M = mg (nr q) := ⟨_, rfl⟩;obtain ⟨m0, hm0⟩ : ∃ m0 : Int, m0 = if ng a then -((M : Nat) : Int) else ((M : Nat) : Int) := ⟨_, rfl⟩
 have fw := kd (ng F) (1074 * 4503599627370496 + mg (nr q)) (by omega);have hwM : vh (Ieee.double.word (ng F) (1074 * 4503599627370496 + mg (nr q))) = M := by rw [hMd]; exact zsx (ng F) fq2 fq1
 have hfz : floatToIntVal .f64 (Ieee.double.word (ng F) (1074 * 4503599627370496 + mg (nr q))) .i64 = some m0 := by
  rw [f2i_i64 (by rw [fw.1]; exact fq2) (by rw [hwM]; omega), hwM, fw.2.1, hFp.2.1, hm0]
 have hE : frE T = ((ex (nr q) : Nat) : Int) - 1021 - ((nd q : Nat) : Int) := by
  have := frE_pos hqf;rw [← this];unfold frE;rw [hT1, (zyk (r := q) (by omega)).1]
 have hval := nr_value hq0;rw [hq1] at hval;have hxn : ex (nr q) ≤ 2045 := by have := zzv hq0 hqf; unfold ex; split <;> omega
 have hnd : nd q ≤ 52 := by unfold nd; split <;> omega
 refine yb Try.func74 rfl Try.ntmps74 rfl ?_;have HF : Per (No) w (fun _ => True) := Per.true_;have LW := erx (No) w;have XLW := grx (No) w;have E := erx (No) w;refine srx (za rfl (ym zez ?_));intro gb1 w2 Bb1 Eb1 Gb1;have Gb1 : _ ≤ gb1 := Nat.le_trans E.size Gb1;have GLb1 := Nat.le_trans LW.size Gb1;replace E := E.trans Eb1.no;replace HF := HF.cons (yj Gb1)
 replace E := E.cons (some gb1);replace XLW := Mut.grow XLW (fun k e => Or.inr (Nat.le_trans LW.size ((yj Gb1) k e)))
 refine anx rfl (srx (mvx rfl (za rfl (va (b := a) zrk rfl (anx rfl (zl (yh (srx (mvx rfl (mvx rfl (za rfl (xc rfl rfl (anx rfl (yd 18 (.bool false) rfl ((by rw [jw, gi hf] : (.bool (js a a != some .eq) : Value) = _)) (zw rfl (srx (mvx rfl (za rfl (zi en66 rfl ((jz _ a ha).mono ?_))))))))))))))))))));rintro e w3 ⟨rfl, hb⟩
 refine ⟨_, rfl, ?_⟩;have Ec := Ext.of_below hb No;replace Bb1 := Bb1.extN Ec NotIn.nil;replace E := E.trans Ec.no;refine zq 25 (.bool false) rfl ((by rw [decide_eq_false (by omega)] : (.bool (decide (rg a = 9218868437227405312)) : Value) = _)) (anx rfl (zw rfl (zt (zx (zj (srx (mvx rfl (za rfl (zi en75 rfl ((ynz _ a hf).mono ?_))))))))))
 rintro e w4 ⟨rfl, hb⟩;refine ⟨_, rfl, ?_⟩;have Ec := Ext.of_below hb No;replace Bb1 := Bb1.extN Ec NotIn.nil;replace E := E.trans Ec.no
 refine zq 29 (.float .f64 (Ieee.double.word (ng a) q)) rfl ((by rw [hq3] : (.float .f64 (xt .zero a) : Value) = _)) (zq 29 (.float .f64 T) rfl ((by rw [hT] : (.float .f64 (Ieee.double.word (ng a) q) : Value) = _)) (za rfl (zi en67 rfl ((yqq _ T (by rw [hT]; exact r3) (by rw [hT1]; exact hq0) (by rw [hT1]; exact hqf)).mono ?_))));rintro e w5 ⟨rfl, hb⟩
 refine ⟨_, rfl, ?_⟩;have Ec := Ext.of_below hb No;replace Bb1 := Bb1.extN Ec NotIn.nil;replace E := E.trans Ec.no
 refine zq 30 (.tuple #[.float .f64 F, .int .i64 (frE T)]) rfl ((by rw [hF] : (.tuple #[.float .f64 (frF T), .int .i64 (frE T)] : Value) = _)) (mvx rfl (za rfl (zg rfl rfl (za rfl (zg rfl rfl (avx rfl (anx rfl (srx (mvx rfl (za rfl (zi en69 rfl ((yqz _ F hFp.2.2 (by rw [hFp.1]; omega) (by rw [hFp.1]; omega) 53 (1074 * 4503599627370496 + mg (nr q)) (by decide) fq2 fq3).mono ?_))))))))))))
 rintro e w6 ⟨rfl, hb⟩;refine ⟨_, rfl, ?_⟩;have Ec := Ext.of_below hb No;replace Bb1 := Bb1.extN Ec NotIn.nil;replace E := E.trans Ec.no;refine za rfl (yoq (z := m0) Try.underlying3 (by rw [Try.underlying92]; rfl) rfl hfz (za rfl (zi en51 rfl ((zhv m0 _ (by rw [hm0]; split <;> omega) (by rw [hm0]; split <;> omega)).mono ?_))));rintro e w7 ⟨A1, c1, rfl, o1, hb⟩
 refine ⟨_, rfl, ?_⟩;have XC : ∀ q9, (Mut [(some gb1)]) q9 → q9 < w6.heap.size := (Mut.grow Mut.none_ (qf Bb1.lt));have Ec := Ext.of_below hb No;replace Bb1 := Bb1.extN Ec NotIn.nil;replace E := E.trans Ec.no;replace HF := HF.on E;replace LW := LW.step E XLW;replace E := erx (Mut [(some gb1)]) w7;replace HF := HF.and (Per.own o1 XC);refine za rfl (ym zez ?_)
 intro gb8 w9 Bb8 Eb8 Gb8;have Db8_b1 : Apart (some gb8) (some gb1) := Apart.of_lt (qf Bb1.lt) Gb8;have Db1_b8 := Db8_b1.symm;have Gb8 : _ ≤ gb8 := Nat.le_trans E.size Gb8;have GLb8 := Nat.le_trans LW.size Gb8;replace Bb1 := Bb1.extN Eb8 NotIn.nil;replace E := E.trans Eb8.no;replace HF := HF.cons (yj Gb8);replace E := E.cons (some gb8)
 replace XLW := Mut.grow XLW (fun k e => Or.inr (Nat.le_trans LW.size ((yj Gb8) k e)));refine yn (vg vk rfl rfl Bb8 rfl rfl (Nat.le_of_ble_eq_true rfl) ?_);intro w10 Bx Eb8;replace Bb8 := Bx;replace Bb1 := Bb1.extN Eb8 (NotIn.cons Db1_b8 NotIn.nil);replace E := E.step1 Eb8 Mut.head;refine rnx (srx (za rfl (zi en51 rfl ((zhv 2 _ (by decide) (by decide)).mono ?_))))
 rintro e w11 ⟨A2, c2, rfl, o2, hb⟩;refine ⟨_, rfl, ?_⟩;have XC : ∀ q9, (Mut [(some gb8), (some gb1)]) q9 → q9 < w10.heap.size := (Mut.grow (Mut.grow Mut.none_ (qf Bb1.lt)) (qf Bb8.lt));have Ec := Ext.of_below hb No;replace Bb8 := Bb8.extN Ec NotIn.nil;replace Bb1 := Bb1.extN Ec NotIn.nil;replace E := E.trans Ec.no;replace HF := HF.on E;replace LW := LW.step E XLW
 replace E := erx (Mut [(some gb8), (some gb1)]) w11;replace HF := HF.and (Per.own o2 XC);refine za rfl (ym zez ?_);intro gb12 w13 Bb12 Eb12 Gb12;have Db12_b8 : Apart (some gb12) (some gb8) := Apart.of_lt (qf Bb8.lt) Gb12;have Db8_b12 := Db12_b8.symm;have Db12_b1 : Apart (some gb12) (some gb1) := Apart.of_lt (qf Bb1.lt) Gb12;have Db1_b12 := Db12_b1.symm
 have Gb12 : _ ≤ gb12 := Nat.le_trans E.size Gb12;have GLb12 := Nat.le_trans LW.size Gb12;replace Bb8 := Bb8.extN Eb12 NotIn.nil;replace Bb1 := Bb1.extN Eb12 NotIn.nil;replace E := E.trans Eb12.no;replace HF := HF.cons (yj Gb12);replace E := E.cons (some gb12);replace XLW := Mut.grow XLW (fun k e => Or.inr (Nat.le_trans LW.size ((yj Gb12) k e)))
 refine yn (vg vk rfl rfl Bb12 rfl rfl (Nat.le_of_ble_eq_true rfl) ?_);intro w14 Bx Eb12;replace Bb12 := Bx;replace Bb8 := Bb8.extN Eb12 (NotIn.cons Db8_b12 NotIn.nil);replace Bb1 := Bb1.extN Eb12 (NotIn.cons Db1_b12 NotIn.nil);replace E := E.step1 Eb12 Mut.head;replace HF := HF.on E;replace LW := LW.step E XLW
 have SB : ∀ q9, Mut [(some gb8), (some gb1)] q9 → Mut [(some gb12), (some gb8), (some gb1)] q9 := (Mut.skip (Mut.keep (Mut.keep Mut.nil_)));replace HF := HF.less SB;replace XLW := fun k h => XLW k (SB k h);clear SB;replace E := erx (Mut [(some gb8), (some gb1)]) w14;replace HF := HF.and (Per.blkN Bb12 (NotIn.cons Db12_b8 (NotIn.cons Db12_b1 NotIn.nil)))
 refine rnx (zl (srx (mvx rfl (za rfl (vq rfl rfl (zy (by omega)) (anx rfl (srx (mvx rfl (za rfl (jr rfl rfl (rnx (yd 41 (.bool (decide (1074 + nd q ≤ ex (nr q)))) rfl (bool_dec (by rw [hE]; omega)) (yv rfl (fun hc => ?_) (fun hc => ?_))))))))))))))
 ·
  have hc := of_decide_eq_true hc;obtain ⟨k, hk⟩ : ∃ k, k = ex (nr q) - (1074 + nd q) := ⟨_, rfl⟩;have hW : vh a = M * 2 ^ k := val_hi hval hc hk hMd;have hprod : m0 * (2 : Int) ^ k = km a := by
   rw [km, hW, hm0];split
   · rw [Int.neg_mul, Int.natCast_mul, Int.natCast_pow]; rfl
   · rw [Int.natCast_mul, Int.natCast_pow]; rfl
  have hwl := wholeI_lt hf;refine yd 6 (.int .i64 ((k : Nat) : Int)) rfl ((by rw [hE]; congr 1; omega : (.int .i64 ((frE T) - 53) : Value) = _)) (zl ?_);have OY : ∀ q9, (Mut (outM [])) q9 → q9 < (World.drew w14).heap.size → (Mut [(some gb8), (some gb1)]) q9 := fun k h _ => (Mut.none_) k h
  refine qt (Mut [(some gb8), (some gb1)]) (Mut.grow (Mut.grow Mut.none_ (qf Bb1.lt)) (qf Bb8.lt)) [⟨7, 8, 40, #[.bool false, .slice none 0 0]⟩] [] (gg [Fx.of (.agg #[.bool (decide ((2 : Int) < 0)), .slice A2 (limbs 2).length c2]),
   Fx.of (.int .i64 ((k : Nat) : Int)),
   ⟨(Option Addr × Nat), fun (A3, c3) => .agg #[.bool (decide (((k : Nat) : Int) < 0)), .slice A3 (limbs ((k : Nat) : Int)).length c3], fun (A3, c3) b => (Nums b A3 (limbs ((k : Nat) : Int)))⟩,
   ⟨(Option Addr × Nat), fun (A4, c4) => .tuple #[.agg #[.bool (decide ((2 : Int) ^ k < 0)), .slice A4 (limbs ((2 : Int) ^ k)).length c4], .int .i64 0], fun (A4, c4) b => (Nums b A4 (limbs ((2 : Int) ^ k)))⟩,
   ⟨(Option Addr × Nat), fun (A4, c4) => .tuple #[.agg #[.bool (decide ((2 : Int) ^ k < 0)), .slice A4 (limbs ((2 : Int) ^ k)).length c4], .int .i64 0], fun (A4, c4) b => (Nums b A4 (limbs ((2 : Int) ^ k)))⟩,
   ⟨(Option Addr × Nat), fun (A4, c4) => .agg #[.bool (decide ((2 : Int) ^ k < 0)), .slice A4 (limbs ((2 : Int) ^ k)).length c4], fun (A4, c4) b => (Nums b A4 (limbs ((2 : Int) ^ k)))⟩,
   Fx.of (.int .i64 0),
   Fx.of undef,
   Fx.of undef,
   Fx.of (.int .i64 0)]) vu rfl trivial (fun _ h => by cases h) ?_ ?_
  · refine ⟨?_, ?_, ?_, ?_, ?_, ?_, ?_, ?_, ?_, ?_, trivial⟩
    · intro vs X wq K;have LE := K.1;exact zz Try.underlying40 rfl vk rfl (HF.on (E.drew.trans (LE.mono OY))).here.2 rfl ⟨Below.refl _ _, Left.of rfl⟩
    · intro vs X wq K;exact zp rfl ⟨Below.refl _ _, Left.of rfl⟩
    · intro vs X wq K;have XN := K.2.1;obtain ⟨_, e1, k1⟩ := K.dep 1 rfl rfl rfl;refine zc 44 (.int .i64 ((k : Nat) : Int)) rfl e1 (zi en51 rfl ((zhv ((k : Nat) : Int) _ (by omega) (by omega)).mono ?_));rintro e w2 ⟨A3, c3, rfl, o3, hb⟩;exact ⟨_, rfl, hb, ⟨(A3, c3), rfl, Per.own o3 XN⟩⟩
    · intro vs X wq K;have LE := K.1;have XN := K.2.1;obtain ⟨_, e0, k0⟩ := K.dep 0 rfl rfl rfl;refine zc 43 (.agg #[.bool (decide ((2 : Int) < 0)), .slice A2 (limbs 2).length c2]) rfl e0 ?_;obtain ⟨⟨A3, c3⟩, e2, k2⟩ := K.dep 2 rfl rfl rfl
      refine zc 45 (.agg #[.bool (decide (((k : Nat) : Int) < 0)), .slice A3 (limbs ((k : Nat) : Int)).length c3]) rfl e2 (zi en82 rfl ((two_pow k A2 A3 c2 c3 _ (by omega) (HF.on (E.drew.trans (LE.mono OY))).here.1.2 k2.here).mono ?_));rintro e w2 ⟨A4, c4, rfl, o4, hb⟩;exact ⟨_, rfl, hb, ⟨(A4, c4), rfl, Per.own o4 XN⟩⟩
    · intro vs X wq K;obtain ⟨⟨A4, c4⟩, e3, k3⟩ := K.dep 3 rfl rfl rfl;refine zc 46 (.tuple #[.agg #[.bool (decide ((2 : Int) ^ k < 0)), .slice A4 (limbs ((2 : Int) ^ k)).length c4], .int .i64 0]) rfl e3 ?_;exact zp rfl ⟨Below.refl _ _, ⟨⟨A4, c4⟩, rfl, (k3.map (fun _ h => h))⟩⟩
    · intro vs X wq K;obtain ⟨⟨A4, c4⟩, e4, k4⟩ := K.dep 4 rfl rfl rfl;refine zc 42 (.tuple #[.agg #[.bool (decide ((2 : Int) ^ k < 0)), .slice A4 (limbs ((2 : Int) ^ k)).length c4], .int .i64 0]) rfl e4 ?_;exact zg rfl rfl ⟨Below.refl _ _, ⟨⟨A4, c4⟩, rfl, (k4.map (fun _ h => h))⟩⟩
    · intro vs X wq K;obtain ⟨⟨A4, c4⟩, e4, k4⟩ := K.dep 4 rfl rfl rfl;refine zc 42 (.tuple #[.agg #[.bool (decide ((2 : Int) ^ k < 0)), .slice A4 (limbs ((2 : Int) ^ k)).length c4], .int .i64 0]) rfl e4 ?_;exact zg rfl rfl ⟨Below.refl _ _, Left.of rfl⟩
    · exact ⟨_, _, _, _, _, rfl, zez, rfl⟩
    · refine ⟨_, _, _, _, _, rfl, rfl, rfl, vk, fun vs X wq K => ?_⟩;obtain ⟨⟨A4, c4⟩, e0, _⟩ := K.dep 5 rfl rfl rfl;exact ⟨vs 5, rfl, by rw [e0]; rfl, by rw [e0]; rfl⟩
    · intro vs X wq K;obtain ⟨_, e6, k6⟩ := K.dep 6 rfl rfl rfl;refine zc 48 (.int .i64 0) rfl e6 ?_;exact yw rfl ⟨Below.refl _ _, Left.of rfl⟩
  intro vs w15 LE AO AL AF AA;have LBb8 := Bb8;have LBb1 := Bb1;replace Bb8 := Bb8.drew.extN LE NotIn.nil;replace Bb1 := Bb1.drew.extN LE NotIn.nil;replace E := E.drew.trans (LE.mono OY);obtain ⟨⟨A4, c4⟩, e5, k5⟩ := AL.2.2.2.2.2.1;replace HF := HF.on E;replace LW := LW.step E XLW;replace E := erx (Mut [(some gb8), (some gb1)]) w15
  replace HF := HF.and ((k5.map (fun _ h => h) : Per (Mut [(some gb8), (some gb1)]) w15 (fun b => Nums b A4 (limbs ((2 : Int) ^ k)))));obtain ⟨gb16, v0, y0, qb16, Gb16, Bb16, ey, ev0⟩ := AF.1;cases ey
  obtain rfl : vs 5 = v0 := Option.some.inj ev0;rw [e5] at Bb16;have Db16_b8 : Apart (some gb16) (some gb8) := Apart.of_lt (qf LBb8.lt) Gb16;have Db8_b16 := Db16_b8.symm;have Db16_b1 : Apart (some gb16) (some gb1) := Apart.of_lt (qf LBb1.lt) Gb16;have Db1_b16 := Db16_b1.symm;replace HF := HF.on E;replace LW := LW.step E XLW;replace E := erx (Mut [(some gb8), (some gb1)]) w15
  replace HF := HF.and ((Per.blkN Bb16 (NotIn.cons Db16_b8 (NotIn.cons Db16_b1 NotIn.nil)) : Per (Mut [(some gb8), (some gb1)]) w15 (fun b => Blk b gb16 40 #[.bool (decide ((2 : Int) ^ k < 0)), .slice A4 (limbs ((2 : Int) ^ k)).length c4])));have e7 := qb16
  refine qy (τ := [(2, _), (3, _), (6, _), (7, _), (8, _), (9, .pointer (some ⟨gb16, 0, none⟩))]) ⟨rfl, rfl, rfl, rfl, rfl, congrArg some e7, trivial⟩ ?_;clear AL AF AA LE AO OY e5 e7 k5 LBb8 LBb1
  have hmul : ∀ (A B : Option Addr) (c d : Nat) (w : World), Nums w A (limbs m0) → Nums w B (limbs ((2 : Int) ^ k)) → Calls Try.prog 83 #[.agg #[.bool (decide (m0 < 0)), .slice A (limbs m0).length c], .agg #[.bool (decide ((2 : Int) ^ k < 0)), .slice B (limbs ((2 : Int) ^ k)).length d]] w (jj w (km a) 0) := by
   intro A B c d w hx hy;have h := mulI A B c d w (zyq (by rw [hm0]; split <;> omega)) (two_30 (by omega)) hx hy;rw [hprod, zzq hwl, zzk hwl] at h;exact h
  refine zj (srx (za rfl (zz Try.underlying40 rfl vk rfl Bb8 rfl (za rfl (zz Try.underlying40 rfl vk rfl (HF.on E).here.2 rfl (za rfl (zi en83 rfl ((hmul A1 A4 c1 c4 _ (HF.on E).here.1.1.1.1.2 (HF.on E).here.1.2).mono ?_))))))));rintro e w17 ⟨A5, c5, rfl, o5, hb⟩;refine ⟨_, rfl, ?_⟩
  have XC : ∀ q9, (Mut [(some gb8), (some gb1)]) q9 → q9 < w15.heap.size := (Mut.grow (Mut.grow Mut.none_ (qf Bb1.lt)) (qf Bb8.lt));have SC := Nat.le_trans LW.size E.size;have Ec := Ext.of_below hb No;replace Bb8 := Bb8.extN Ec NotIn.nil;replace Bb1 := Bb1.extN Ec NotIn.nil;replace E := E.trans Ec.no;have hS := SC;replace HF := HF.on E;replace LW := LW.step E XLW
  replace E := erx (Mut [(some gb8), (some gb1)]) w17;replace HF := HF.and (Per.ownX o5 XC);refine mvx rfl (za rfl (zg rfl rfl (za rfl (zg rfl rfl (yn (vg vk rfl rfl Bb8 rfl rfl (Nat.le_of_ble_eq_true rfl) ?_))))));intro w18 Bx Eb8;replace Bb8 := Bx;replace Bb1 := Bb1.extN Eb8 (NotIn.cons Db1_b8 NotIn.nil);replace E := E.step1 Eb8 Mut.head;replace HF := HF.on E
  replace LW := LW.step E XLW;have SB : ∀ q9, Mut [(some gb1)] q9 → Mut [(some gb8), (some gb1)] q9 := (Mut.skip (Mut.keep Mut.nil_));replace HF := HF.less SB;replace XLW := fun k h => XLW k (SB k h);clear SB;replace E := erx (Mut [(some gb1)]) w18;replace HF := HF.and (Per.blkN Bb8 (NotIn.cons Db8_b1 NotIn.nil))
  refine rnx (srx (za rfl (zz Try.underlying40 rfl vk rfl (HF.on E).here.2 rfl (yn (vg vk rfl rfl Bb1 rfl rfl (Nat.le_of_ble_eq_true rfl) ?_)))));intro w19 Bx Eb1;replace Bb1 := Bx;replace E := E.step1 Eb1 Mut.head
  refine anx rfl (zo (zh (zn (rs := [.cell 2 40, .tmp 3]) (vs := [_, _]) rfl ⟨⟨_, rfl, qk Try.underlying40 rfl vk Bb1 rfl⟩, rfl, trivial⟩ ?_)));exact ⟨A5, c5, rfl, ((HF.on E).here.1.2).mono hS, (LW.step E XLW).toBelow⟩
 ·
  have hc := of_decide_eq_false hc;obtain ⟨k, hk⟩ : ∃ k, k = 1074 + nd q - ex (nr q) := ⟨_, rfl⟩;have hM : M = vh a * 2 ^ k := val_lo hval (by omega) hk hMd;have hk52 : k ≤ 52 := by
   rcases Nat.lt_or_ge 52 k with h | h
   · exfalso
     have h1 : 2 ^ 53 ≤ 2 ^ k := Nat.pow_le_pow_right (by decide) (by omega);have h2 : 1 * 2 ^ k ≤ vh a * 2 ^ k := Nat.mul_le_mul_right _ (by omega);omega
   · exact h
  refine zt (zj (zl (srx (mvx rfl (za rfl (qo rfl rfl (rnx (yd 57 (.bool false) rfl ((by rw [hE, decide_eq_false (by omega)] : (.bool (decide (((frE T) - 53) < (-60))) : Value) = _)) (zw rfl (zt (zj (zl ?_))))))))))));have OY : ∀ q9, (Mut (outM [])) q9 → q9 < (World.drew w14).heap.size → (Mut [(some gb8), (some gb1)]) q9 := fun k h _ => (Mut.none_) k h
  refine qt (Mut [(some gb8), (some gb1)]) (Mut.grow (Mut.grow Mut.none_ (qf Bb1.lt)) (qf Bb8.lt)) [⟨8, 9, 40, #[.bool false, .slice none 0 0]⟩] [] (gg [Fx.of (.agg #[.bool (decide ((2 : Int) < 0)), .slice A2 (limbs 2).length c2]),
   Fx.of (.int .i64 ((frE T) - 53)),
   Fx.of (.int .i64 ((k : Nat) : Int)),
   ⟨(Option Addr × Nat), fun (A3, c3) => .agg #[.bool (decide (((k : Nat) : Int) < 0)), .slice A3 (limbs ((k : Nat) : Int)).length c3], fun (A3, c3) b => (Nums b A3 (limbs ((k : Nat) : Int)))⟩,
   ⟨(Option Addr × Nat), fun (A4, c4) => .tuple #[.agg #[.bool (decide ((2 : Int) ^ k < 0)), .slice A4 (limbs ((2 : Int) ^ k)).length c4], .int .i64 0], fun (A4, c4) b => (Nums b A4 (limbs ((2 : Int) ^ k)))⟩,
   ⟨(Option Addr × Nat), fun (A4, c4) => .tuple #[.agg #[.bool (decide ((2 : Int) ^ k < 0)), .slice A4 (limbs ((2 : Int) ^ k)).length c4], .int .i64 0], fun (A4, c4) b => (Nums b A4 (limbs ((2 : Int) ^ k)))⟩,
   ⟨(Option Addr × Nat), fun (A4, c4) => .agg #[.bool (decide ((2 : Int) ^ k < 0)), .slice A4 (limbs ((2 : Int) ^ k)).length c4], fun (A4, c4) b => (Nums b A4 (limbs ((2 : Int) ^ k)))⟩,
   Fx.of (.int .i64 0),
   Fx.of undef,
   Fx.of undef,
   Fx.of (.int .i64 0)]) vu rfl trivial (fun _ h => by cases h) ?_ ?_
  · refine ⟨?_, ?_, ?_, ?_, ?_, ?_, ?_, ?_, ?_, ?_, ?_, trivial⟩
    · intro vs X wq K;have LE := K.1;exact zz Try.underlying40 rfl vk rfl (HF.on (E.drew.trans (LE.mono OY))).here.2 rfl ⟨Below.refl _ _, Left.of rfl⟩
    · intro vs X wq K;exact zp rfl ⟨Below.refl _ _, Left.of rfl⟩
    · intro vs X wq K;obtain ⟨_, e1, k1⟩ := K.dep 1 rfl rfl rfl;refine zc 61 (.int .i64 ((frE T) - 53)) rfl e1 ?_;exact ow_neg rfl (zy (by omega)) ⟨Below.refl _ _, Left.of ((by rw [hE, hk]; congr 1; omega : (.int .i64 (0 - ((frE T) - 53)) : Value) = _))⟩
    · intro vs X wq K;have XN := K.2.1;obtain ⟨_, e2, k2⟩ := K.dep 2 rfl rfl rfl;refine zc 62 (.int .i64 ((k : Nat) : Int)) rfl e2 (zi en51 rfl ((zhv ((k : Nat) : Int) _ (by omega) (by omega)).mono ?_));rintro e w2 ⟨A3, c3, rfl, o3, hb⟩;exact ⟨_, rfl, hb, ⟨(A3, c3), rfl, Per.own o3 XN⟩⟩
    · intro vs X wq K;have LE := K.1;have XN := K.2.1;obtain ⟨_, e0, k0⟩ := K.dep 0 rfl rfl rfl;refine zc 60 (.agg #[.bool (decide ((2 : Int) < 0)), .slice A2 (limbs 2).length c2]) rfl e0 ?_;obtain ⟨⟨A3, c3⟩, e3, k3⟩ := K.dep 3 rfl rfl rfl
      refine zc 63 (.agg #[.bool (decide (((k : Nat) : Int) < 0)), .slice A3 (limbs ((k : Nat) : Int)).length c3]) rfl e3 (zi en82 rfl ((two_pow k A2 A3 c2 c3 _ (by omega) (HF.on (E.drew.trans (LE.mono OY))).here.1.2 k3.here).mono ?_));rintro e w2 ⟨A4, c4, rfl, o4, hb⟩;exact ⟨_, rfl, hb, ⟨(A4, c4), rfl, Per.own o4 XN⟩⟩
    · intro vs X wq K;obtain ⟨⟨A4, c4⟩, e4, k4⟩ := K.dep 4 rfl rfl rfl;refine zc 64 (.tuple #[.agg #[.bool (decide ((2 : Int) ^ k < 0)), .slice A4 (limbs ((2 : Int) ^ k)).length c4], .int .i64 0]) rfl e4 ?_;exact zp rfl ⟨Below.refl _ _, ⟨⟨A4, c4⟩, rfl, (k4.map (fun _ h => h))⟩⟩
    · intro vs X wq K;obtain ⟨⟨A4, c4⟩, e5, k5⟩ := K.dep 5 rfl rfl rfl;refine zc 59 (.tuple #[.agg #[.bool (decide ((2 : Int) ^ k < 0)), .slice A4 (limbs ((2 : Int) ^ k)).length c4], .int .i64 0]) rfl e5 ?_;exact zg rfl rfl ⟨Below.refl _ _, ⟨⟨A4, c4⟩, rfl, (k5.map (fun _ h => h))⟩⟩
    · intro vs X wq K;obtain ⟨⟨A4, c4⟩, e5, k5⟩ := K.dep 5 rfl rfl rfl;refine zc 59 (.tuple #[.agg #[.bool (decide ((2 : Int) ^ k < 0)), .slice A4 (limbs ((2 : Int) ^ k)).length c4], .int .i64 0]) rfl e5 ?_;exact zg rfl rfl ⟨Below.refl _ _, Left.of rfl⟩
    · exact ⟨_, _, _, _, _, rfl, zez, rfl⟩
    · refine ⟨_, _, _, _, _, rfl, rfl, rfl, vk, fun vs X wq K => ?_⟩;obtain ⟨⟨A4, c4⟩, e0, _⟩ := K.dep 6 rfl rfl rfl;exact ⟨vs 6, rfl, by rw [e0]; rfl, by rw [e0]; rfl⟩
    · intro vs X wq K;obtain ⟨_, e7, k7⟩ := K.dep 7 rfl rfl rfl;refine zc 66 (.int .i64 0) rfl e7 ?_;exact yw rfl ⟨Below.refl _ _, Left.of rfl⟩
  intro vs w20 LE AO AL AF AA;have LBb8 := Bb8;have LBb1 := Bb1;replace Bb8 := Bb8.drew.extN LE NotIn.nil;replace Bb1 := Bb1.drew.extN LE NotIn.nil;replace E := E.drew.trans (LE.mono OY);obtain ⟨⟨A4, c4⟩, e6, k6⟩ := AL.2.2.2.2.2.2.1;replace HF := HF.on E;replace LW := LW.step E XLW;replace E := erx (Mut [(some gb8), (some gb1)]) w20
  replace HF := HF.and ((k6.map (fun _ h => h) : Per (Mut [(some gb8), (some gb1)]) w20 (fun b => Nums b A4 (limbs ((2 : Int) ^ k)))));obtain ⟨gb21, v0, y0, qb21, Gb21, Bb21, ey, ev0⟩ := AF.1;cases ey
  obtain rfl : vs 6 = v0 := Option.some.inj ev0;rw [e6] at Bb21;have Db21_b8 : Apart (some gb21) (some gb8) := Apart.of_lt (qf LBb8.lt) Gb21;have Db8_b21 := Db21_b8.symm;have Db21_b1 : Apart (some gb21) (some gb1) := Apart.of_lt (qf LBb1.lt) Gb21;have Db1_b21 := Db21_b1.symm;replace HF := HF.on E;replace LW := LW.step E XLW;replace E := erx (Mut [(some gb8), (some gb1)]) w20
  replace HF := HF.and ((Per.blkN Bb21 (NotIn.cons Db21_b8 (NotIn.cons Db21_b1 NotIn.nil)) : Per (Mut [(some gb8), (some gb1)]) w20 (fun b => Blk b gb21 40 #[.bool (decide ((2 : Int) ^ k < 0)), .slice A4 (limbs ((2 : Int) ^ k)).length c4])));have e8 := qb21;refine qy (τ := [(2, _), (3, _), (7, _), (11, .pointer (some ⟨gb21, 0, none⟩))]) ⟨rfl, rfl, rfl, congrArg some e8, trivial⟩ ?_
  clear AL AF AA LE AO OY e6 e8 k6 LBb8 LBb1;refine zj (srx (za rfl (zz Try.underlying40 rfl vk rfl Bb8 rfl (za rfl (zz Try.underlying40 rfl vk rfl (HF.on E).here.2 rfl (za rfl (zi en84 rfl ((div_two hM hm0 (by omega) (by omega) A1 A4 c1 c4 _ (HF.on E).here.1.1.1.1.2 (HF.on E).here.1.2).mono ?_))))))));rintro e w22 ⟨A5, c5, B6, c6, r, rfl, o5, hb⟩
  refine ⟨_, rfl, ?_⟩;have XC : ∀ q9, (Mut [(some gb8), (some gb1)]) q9 → q9 < w20.heap.size := (Mut.grow (Mut.grow Mut.none_ (qf Bb1.lt)) (qf Bb8.lt));have SC := Nat.le_trans LW.size E.size;have Ec := Ext.of_below hb No;replace Bb8 := Bb8.extN Ec NotIn.nil;replace Bb1 := Bb1.extN Ec NotIn.nil;replace E := E.trans Ec.no;have hS := SC;replace HF := HF.on E;replace LW := LW.step E XLW
  replace E := erx (Mut [(some gb8), (some gb1)]) w22;replace HF := HF.and (Per.ownX o5 XC);refine mvx rfl (za rfl (zg rfl rfl (za rfl (zg rfl rfl (za rfl (zg rfl rfl (za rfl (ym zez ?_))))))));intro gb23 w24 Bb23 Eb23 Gb23;have Db23_b8 : Apart (some gb23) (some gb8) := Apart.of_lt (qf Bb8.lt) Gb23;have Db8_b23 := Db23_b8.symm
  have Db23_b1 : Apart (some gb23) (some gb1) := Apart.of_lt (qf Bb1.lt) Gb23;have Db1_b23 := Db23_b1.symm;have Gb23 : _ ≤ gb23 := Nat.le_trans E.size Gb23;have GLb23 := Nat.le_trans LW.size Gb23;replace Bb8 := Bb8.extN Eb23 NotIn.nil;replace Bb1 := Bb1.extN Eb23 NotIn.nil;replace E := E.trans Eb23.no;replace HF := HF.cons (yj Gb23);replace E := E.cons (some gb23)
  replace XLW := Mut.grow XLW (fun k e => Or.inr (Nat.le_trans LW.size ((yj Gb23) k e)));refine za rfl (ym zez ?_);intro gb25 w26 Bb25 Eb25 Gb25;have Db25_b23 : Apart (some gb25) (some gb23) := Apart.of_lt (qf Bb23.lt) Gb25;have Db23_b25 := Db25_b23.symm;have Db25_b8 : Apart (some gb25) (some gb8) := Apart.of_lt (qf Bb8.lt) Gb25;have Db8_b25 := Db25_b8.symm
  have Db25_b1 : Apart (some gb25) (some gb1) := Apart.of_lt (qf Bb1.lt) Gb25;have Db1_b25 := Db25_b1.symm;have Gb25 : _ ≤ gb25 := Nat.le_trans E.size Gb25;have GLb25 := Nat.le_trans LW.size Gb25;replace Bb23 := Bb23.extN Eb25 NotIn.nil;replace Bb8 := Bb8.extN Eb25 NotIn.nil;replace Bb1 := Bb1.extN Eb25 NotIn.nil;replace E := E.trans Eb25.no;replace HF := HF.cons (yj Gb25)
  replace E := E.cons (some gb25);replace XLW := Mut.grow XLW (fun k e => Or.inr (Nat.le_trans LW.size ((yj Gb25) k e)));refine yn (vg vk rfl rfl Bb23 rfl rfl (Nat.le_of_ble_eq_true rfl) ?_);intro w27 Bx Eb23;replace Bb23 := Bx;replace Bb25 := Bb25.extN Eb23 (NotIn.cons Db25_b23 NotIn.nil);replace Bb8 := Bb8.extN Eb23 (NotIn.cons Db8_b23 NotIn.nil)
  replace Bb1 := Bb1.extN Eb23 (NotIn.cons Db1_b23 NotIn.nil);replace E := E.step1 Eb23 (Mut.tail Mut.head);replace HF := HF.on E;replace LW := LW.step E XLW;have SB : ∀ q9, Mut [(some gb25), (some gb8), (some gb1)] q9 → Mut [(some gb25), (some gb23), (some gb8), (some gb1)] q9 := (Mut.keep (Mut.skip (Mut.keep (Mut.keep Mut.nil_))));replace HF := HF.less SB
  replace XLW := fun k h => XLW k (SB k h);clear SB;replace E := erx (Mut [(some gb25), (some gb8), (some gb1)]) w27;replace HF := HF.and (Per.blkN Bb23 (NotIn.cons Db23_b25 (NotIn.cons Db23_b8 (NotIn.cons Db23_b1 NotIn.nil))));refine yn (vg vk rfl rfl Bb25 rfl rfl (Nat.le_of_ble_eq_true rfl) ?_);intro w28 Bx Eb25;replace Bb25 := Bx
  replace Bb8 := Bb8.extN Eb25 (NotIn.cons Db8_b25 NotIn.nil);replace Bb1 := Bb1.extN Eb25 (NotIn.cons Db1_b25 NotIn.nil);replace E := E.step1 Eb25 Mut.head;replace HF := HF.on E;replace LW := LW.step E XLW;have SB : ∀ q9, Mut [(some gb8), (some gb1)] q9 → Mut [(some gb25), (some gb8), (some gb1)] q9 := (Mut.skip (Mut.keep (Mut.keep Mut.nil_)));replace HF := HF.less SB
  replace XLW := fun k h => XLW k (SB k h);clear SB;replace E := erx (Mut [(some gb8), (some gb1)]) w28;replace HF := HF.and (Per.blkN Bb25 (NotIn.cons Db25_b8 (NotIn.cons Db25_b1 NotIn.nil)));refine anx rfl (srx (za rfl (zz Try.underlying40 rfl vk rfl (HF.on E).here.1.2 rfl (yn (vg vk rfl rfl Bb1 rfl rfl (Nat.le_of_ble_eq_true rfl) ?_)))));intro w29 Bx Eb1
  replace Bb1 := Bx;replace Bb8 := Bb8.extN Eb1 (NotIn.cons Db8_b1 NotIn.nil);replace E := E.step1 Eb1 (Mut.tail Mut.head);replace HF := HF.on E;replace LW := LW.step E XLW;have SB : ∀ q9, Mut [(some gb8)] q9 → Mut [(some gb8), (some gb1)] q9 := (Mut.keep (Mut.skip Mut.nil_));replace HF := HF.less SB;replace XLW := fun k h => XLW k (SB k h);clear SB;replace E := erx (Mut [(some gb8)]) w29
  replace HF := HF.and (Per.blkN Bb1 (NotIn.cons Db1_b8 NotIn.nil));refine anx rfl (zo (zn (rs := [.cell 2 40, .tmp 3]) (vs := [_, _]) rfl ⟨⟨_, rfl, qk Try.underlying40 rfl vk (HF.on E).here.2 rfl⟩, rfl, trivial⟩ ?_));exact ⟨A5, c5, rfl, ((HF.on E).here.1.1.1.2).mono hS, (LW.step E XLW).toBelow⟩
theorem whole_fin : Calls Try.prog 74 #[.int .u64 ((a : Nat) : Int)] w (jj w (km a) 0) := by
 by_cases h0 : vh a = 0
 · exact whole_zero w a ha hf h0
 · exact whole_num w a ha hf h0
end
end
noncomputable def cmpB (a : Nat) (i : Int) : Int := if zdk (km a) i ≠ 0 then zdk (km a) i else if yjq a then (if ng a then -1 else 1) else 0
theorem cmp_trunc {a q : Nat} (hf : rg a < 9218868437227405312) (h1 : vl q = vh a * 2 ^ 1074) (h2 : q ≤ rg a) : zwz a (Ieee.double.word (ng a) q) = (if yjq a then (if ng a then -1 else 1) else 0) ∧ gn a (Ieee.double.word (ng a) q) = true := by
 obtain ⟨w1, w2, w3⟩ := kd (ng a) q (by omega);have hn : isN (Ieee.double.word (ng a) q) = false := gi (by rw [w1]; omega);have ho : gn a (Ieee.double.word (ng a) q) = true := by rw [gn, gi hf, hn]; rfl
 refine ⟨?_, ho⟩;have hl : yjq a = decide (q < rg a) := by
  refine (lost_eq ?_).symm;rw [isWh_iff, ← h1];constructor
  · intro h e; have := yrx h; omega
  · intro h;rcases Nat.lt_or_ge q (rg a) with h' | h'
    · exact h'
    · exact absurd (congrArg vl (show rg a = q by omega)) h
 rw [zwz, if_pos ho, hl];obtain ⟨p1, p2⟩ := yek a;obtain ⟨p3, p4⟩ := yek (Ieee.double.word (ng a) q);rw [w1, w2] at p3 p4;unfold ordI;cases hs : ng a with
 | true =>
  rw [hs] at p3;rw [p1 hs, p3 rfl];by_cases h : q < rg a
  · rw [decide_eq_true h, if_pos (by omega)]; rfl
  · rw [decide_eq_false h, if_neg (by omega), if_neg (by omega)]; rfl
 | false =>
  rw [hs] at p4;rw [p2 hs, p4 rfl];by_cases h : q < rg a
  · rw [decide_eq_true h, if_neg (by omega), if_pos (by omega)]; rfl
  · rw [decide_eq_false h, if_neg (by omega), if_neg (by omega)]; rfl
theorem f2i_one (s : Bool) : floatToIntVal .f64 (Ieee.double.word s 4607182418800017408) .i64 = some (if s then -1 else 1) := by cases s <;> decide +kernel
def infV (a : Nat) : Int := if ng a then -1 else 1
section
variable (w : World) (a : Nat) (ha : a < 18446744073709551616)
include ha
section
variable (n1 : Bool) (A : Option Addr) (c : Nat) (xs : List Nat) (hx : Nums w A xs) (hl : xs.length ≤ 9223372036854775807)
include hx hl
theorem cmpbig_nan (hn : isN a = true) : Calls Try.prog 64 #[.int .u64 ((a : Nat) : Int), .agg #[.bool n1, .slice A xs.length c]] w fun e w' => e = .returned (.tuple #[.int .i64 0, .bool false]) ∧ Below w.heap.size w w' := by
 have _ := And.intro ha (And.intro hx hl);refine yb Try.func64 rfl Try.ntmps64 rfl ?_;have LW := erx (No) w;have XLW := grx (No) w;have E := erx (No) w;refine srx (za rfl (yt rfl ?_));intro gb1 w2 Bb1 Eb1 Gb1;have Gb1 : _ ≤ gb1 := Nat.le_trans E.size Gb1;have GLb1 := Nat.le_trans LW.size Gb1;replace E := E.trans Eb1.no;replace E := E.cons (some gb1)
 replace XLW := Mut.grow XLW (fun k e => Or.inr (Nat.le_trans LW.size ((yj Gb1) k e)));replace LW := LW.step E XLW;have SB : ∀ q9, No q9 → Mut [(some gb1)] q9 := (Mut.skip Mut.nil_);replace XLW := fun k h => XLW k (SB k h);clear SB;replace E := erx (No) w2
 refine avx rfl (anx rfl (srx (mvx rfl (za rfl (va (b := a) zrk rfl (anx rfl (zl (srx (mvx rfl (mvx rfl (za rfl (xc rfl rfl (mvx rfl (zq 17 (.bool true) rfl ((by rw [jw, hn] : (.bool (js a a != some .eq) : Value) = _)) (za rfl (zd rfl (za rfl (zd rfl (za rfl (zd rfl (za rfl (ya rfl rfl (rnx (ye rfl (srx (avx rfl (anx rfl (zo (zh (zn (rs := [.tmp 4, .tmp 5]) (vs := [_, _]) rfl ⟨rfl, rfl, trivial⟩ ?_))))))))))))))))))))))))))))))
 exact ⟨rfl, (LW.step E XLW).toBelow⟩
theorem cmpbig_bad (hn : isN a = false) (hg : qr n1 xs = false) : Calls Try.prog 64 #[.int .u64 ((a : Nat) : Int), .agg #[.bool n1, .slice A xs.length c]] w fun e w' => e = .returned (.tuple #[.int .i64 0, .bool false]) ∧ Below w.heap.size w w' := by
 have _ := ha;refine yb Try.func64 rfl Try.ntmps64 rfl ?_;have HF : Per (No) w (fun _ => True) := Per.true_;have LW := erx (No) w;have XLW := grx (No) w;have E := erx (No) w;replace HF := HF.on E;replace LW := LW.step E XLW;replace E := erx (No) w;replace HF := HF.and (Per.nums0 hx);refine srx (za rfl (yt rfl ?_));intro gb1 w2 Bb1 Eb1 Gb1
 have Gb1 : _ ≤ gb1 := Nat.le_trans E.size Gb1;have GLb1 := Nat.le_trans LW.size Gb1;replace E := E.trans Eb1.no;replace HF := HF.cons (yj Gb1);replace E := E.cons (some gb1);replace XLW := Mut.grow XLW (fun k e => Or.inr (Nat.le_trans LW.size ((yj Gb1) k e)));replace HF := HF.on E;replace LW := LW.step E XLW;have SB : ∀ q9, No q9 → Mut [(some gb1)] q9 := (Mut.skip Mut.nil_)
 replace HF := HF.less SB;replace XLW := fun k h => XLW k (SB k h);clear SB;replace E := erx (No) w2;replace HF := HF.and (Per.blkN Bb1 NotIn.nil)
 refine avx rfl (anx rfl (srx (mvx rfl (za rfl (va (b := a) zrk rfl (anx rfl (zl (srx (mvx rfl (mvx rfl (za rfl (xc rfl rfl (mvx rfl (zq 17 (.bool false) rfl ((by rw [jw, hn] : (.bool (js a a != some .eq) : Value) = _)) (onx rfl (zz Try.underlying40 rfl vk rfl (HF.on E).here.2 rfl (onx rfl (zi en39 rfl ((vv n1 c _ A xs hl (HF.on E).here.1.2).mono ?_)))))))))))))))))))
 rintro e w3 ⟨rfl, hb⟩;refine ⟨_, rfl, ?_⟩;replace E := blx E hb;refine zq 19 (.bool false) rfl ((by rw [hg] : (.bool (qr n1 xs) : Value) = _)) (onx rfl (qa rfl (za rfl (zm rfl rfl (rnx (ye rfl (srx (avx rfl (anx rfl (zo (zh (zn (rs := [.tmp 4, .tmp 5]) (vs := [_, _]) rfl ⟨rfl, rfl, trivial⟩ ?_))))))))))));exact ⟨rfl, (LW.step E XLW).toBelow⟩
end
section
variable (i : Int) (A : Option Addr) (c : Nat) (hi : i.natAbs < B18 ^ 30) (hx : Nums w A (limbs i)) (hn : isN a = false)
include hi hx hn
theorem cmpbig_inf (hinf : rg a = 9218868437227405312) : Calls Try.prog 64 #[.int .u64 ((a : Nat) : Int), .agg #[.bool (decide (i < 0)), .slice A (limbs i).length c]] w fun e w' => e = .returned (.tuple #[.int .i64 (infV a), .bool true]) ∧ Below w.heap.size w w' := by
 refine yb Try.func64 rfl Try.ntmps64 rfl ?_;have HF : Per (No) w (fun _ => True) := Per.true_;have LW := erx (No) w;have XLW := grx (No) w;have E := erx (No) w;replace HF := HF.on E;replace LW := LW.step E XLW;replace E := erx (No) w;replace HF := HF.and (Per.nums0 hx);refine srx (za rfl (yt rfl ?_));intro gb1 w2 Bb1 Eb1 Gb1;have Gb1 : _ ≤ gb1 := Nat.le_trans E.size Gb1
 have GLb1 := Nat.le_trans LW.size Gb1;replace E := E.trans Eb1.no;replace HF := HF.cons (yj Gb1);replace E := E.cons (some gb1);replace XLW := Mut.grow XLW (fun k e => Or.inr (Nat.le_trans LW.size ((yj Gb1) k e)));replace HF := HF.on E;replace LW := LW.step E XLW;have SB : ∀ q9, No q9 → Mut [(some gb1)] q9 := (Mut.skip Mut.nil_);replace HF := HF.less SB
 replace XLW := fun k h => XLW k (SB k h);clear SB;replace E := erx (No) w2;replace HF := HF.and (Per.blkN Bb1 NotIn.nil)
 refine avx rfl (anx rfl (srx (mvx rfl (za rfl (va (b := a) zrk rfl (anx rfl (zl (srx (mvx rfl (mvx rfl (za rfl (xc rfl rfl (mvx rfl (zq 17 (.bool false) rfl ((by rw [jw, hn] : (.bool (js a a != some .eq) : Value) = _)) (onx rfl (zz Try.underlying40 rfl vk rfl (HF.on E).here.2 rfl (onx rfl (zi en39 rfl ((ysk A c _ hi (HF.on E).here.1.2).mono ?_)))))))))))))))))))
 rintro e w3 ⟨rfl, hb⟩;refine ⟨_, rfl, ?_⟩;replace E := blx E hb;refine onx rfl (qa rfl (za rfl (zm rfl rfl (rnx (zw rfl (zt (zj (zl (srx (mvx rfl (za rfl (zi en66 rfl ((jz _ a ha).mono ?_)))))))))))));rintro e w4 ⟨rfl, hb⟩;refine ⟨_, rfl, ?_⟩;replace E := blx E hb
 refine zq 23 (.bool true) rfl ((by rw [decide_eq_true hinf] : (.bool (decide (rg a = 9218868437227405312)) : Value) = _)) (rnx (ye rfl (srx (mvx rfl (za rfl (zi en73 rfl ((copysign_any _ 4607182418800017408 (by decide) a ha).mono ?_)))))));rintro e w5 ⟨rfl, hb⟩;refine ⟨_, rfl, ?_⟩;replace E := blx E hb
 refine zq 25 (.float .f64 (Ieee.double.word (ng a) 4607182418800017408)) rfl ((by rw [show rg 4607182418800017408 = 4607182418800017408 by decide] : (.float .f64 (Ieee.double.word (ng a) (rg 4607182418800017408)) : Value) = _)) (za rfl (yoq (z := infV a) Try.underlying3 (by rw [Try.underlying92]; rfl) rfl (f2i_one (ng a)) (avx rfl (anx rfl (zo (zh (zn (rs := [.tmp 4, .tmp 5]) (vs := [_, _]) rfl ⟨rfl, rfl, trivial⟩ ?_)))))))
 exact ⟨rfl, (LW.step E XLW).toBelow⟩
theorem cmpbig_fin (hf : rg a < 9218868437227405312) : Calls Try.prog 64 #[.int .u64 ((a : Nat) : Int), .agg #[.bool (decide (i < 0)), .slice A (limbs i).length c]] w fun e w' => e = .returned (.tuple #[.int .i64 (cmpB a i), .bool true]) ∧ Below w.heap.size w w' := by
 obtain ⟨q, hq1, hq2, hq3⟩ := zvk hf;obtain ⟨t1, t2⟩ := cmp_trunc hf hq1 hq2;rw [← hq3] at t1 t2;have hbr : jn (xt .zero a) = xt .zero a := bareN_num (gi (by rw [hq3, (kd (ng a) q (by omega)).1]; omega));refine yb Try.func64 rfl Try.ntmps64 rfl ?_;have HF : Per (No) w (fun _ => True) := Per.true_;have LW := erx (No) w;have XLW := grx (No) w;have E := erx (No) w
 replace HF := HF.on E;replace LW := LW.step E XLW;replace E := erx (No) w;replace HF := HF.and (Per.nums0 hx);refine srx (za rfl (yt rfl ?_));intro gb1 w2 Bb1 Eb1 Gb1;have Gb1 : _ ≤ gb1 := Nat.le_trans E.size Gb1;have GLb1 := Nat.le_trans LW.size Gb1;replace E := E.trans Eb1.no;replace HF := HF.cons (yj Gb1);replace E := E.cons (some gb1)
 replace XLW := Mut.grow XLW (fun k e => Or.inr (Nat.le_trans LW.size ((yj Gb1) k e)));replace HF := HF.on E;replace LW := LW.step E XLW;have SB : ∀ q9, No q9 → Mut [(some gb1)] q9 := (Mut.skip Mut.nil_);replace HF := HF.less SB;replace XLW := fun k h => XLW k (SB k h);clear SB;replace E := erx (No) w2;replace HF := HF.and (Per.blkN Bb1 NotIn.nil)
 refine avx rfl (anx rfl (srx (mvx rfl (za rfl (va (b := a) zrk rfl (anx rfl (zl (srx (mvx rfl (mvx rfl (za rfl (xc rfl rfl (mvx rfl (zq 17 (.bool false) rfl ((by rw [jw, hn] : (.bool (js a a != some .eq) : Value) = _)) (onx rfl (zz Try.underlying40 rfl vk rfl (HF.on E).here.2 rfl (onx rfl (zi en39 rfl ((ysk A c _ hi (HF.on E).here.1.2).mono ?_)))))))))))))))))))
 rintro e w3 ⟨rfl, hb⟩;refine ⟨_, rfl, ?_⟩;replace E := blx E hb;refine onx rfl (qa rfl (za rfl (zm rfl rfl (rnx (zw rfl (zt (zj (zl (srx (mvx rfl (za rfl (zi en66 rfl ((jz _ a ha).mono ?_)))))))))))));rintro e w4 ⟨rfl, hb⟩;refine ⟨_, rfl, ?_⟩;replace E := blx E hb
 refine zq 23 (.bool false) rfl ((by rw [decide_eq_false (by omega)] : (.bool (decide (rg a = 9218868437227405312)) : Value) = _)) (rnx (zw rfl (zt (zj (srx (mvx rfl (za rfl (zi en74 rfl ((whole_fin _ a ha hf).mono ?_)))))))));rintro e w5 ⟨A2, c2, rfl, o2, hb⟩;refine ⟨_, rfl, ?_⟩;have XC : ∀ q9, (No) q9 → q9 < w4.heap.size := Mut.none_;replace E := blx E hb
 replace HF := HF.on E;replace LW := LW.step E XLW;replace E := erx (No) w5;replace HF := HF.and (Per.own o2 XC);refine mvx rfl (za rfl (zg rfl rfl (za rfl (zg rfl rfl (za rfl (ym zez ?_))))));intro gb6 w7 Bb6 Eb6 Gb6;have Gb6 : _ ≤ gb6 := Nat.le_trans E.size Gb6;have GLb6 := Nat.le_trans LW.size Gb6;replace E := E.trans Eb6.no;replace HF := HF.cons (yj Gb6)
 replace E := E.cons (some gb6);replace XLW := Mut.grow XLW (fun k e => Or.inr (Nat.le_trans LW.size ((yj Gb6) k e)));refine yn (vg vk rfl rfl Bb6 rfl rfl (Nat.le_of_ble_eq_true rfl) ?_);intro w8 Bx Eb6;replace Bb6 := Bx;replace E := E.step1 Eb6 Mut.head;replace HF := HF.on E;replace LW := LW.step E XLW;have SB : ∀ q9, No q9 → Mut [(some gb6)] q9 := (Mut.skip Mut.nil_)
 replace HF := HF.less SB;replace XLW := fun k h => XLW k (SB k h);clear SB;replace E := erx (No) w8;replace HF := HF.and (Per.blkN Bb6 NotIn.nil)
 refine anx rfl (zl (srx (za rfl (zz Try.underlying40 rfl vk rfl (HF.on E).here.2 rfl (za rfl (zz Try.underlying40 rfl vk rfl (HF.on E).here.1.1.2 rfl (za rfl (zi en65 rfl ((cmpI_ A2 A c2 c _ (wholeI_lt hf) hi (HF.on E).here.1.2 (HF.on E).here.1.1.1.2).mono ?_)))))))));rintro e w9 ⟨rfl, hb⟩;refine ⟨_, rfl, ?_⟩;replace E := blx E hb
 refine anx rfl (srx (mvx rfl (za rfl (qh rfl rfl (rnx (yv rfl (fun hc => ?_) (fun hc => ?_)))))))
 ·
  have hc := bne_iff_ne.1 hc;refine srx (mvx rfl (avx rfl (anx rfl (zo (zh (zn (rs := [.tmp 4, .tmp 5]) (vs := [_, _]) rfl ⟨rfl, rfl, trivial⟩ ?_))))));exact ⟨by rw [cmpB, if_pos hc]; rfl, (LW.step E XLW).toBelow⟩
 ·
  have hc : zdk (km a) i = 0 := by simpa using hc
  refine zt (zj (srx (mvx rfl (mvx rfl (za rfl (zi en75 rfl ((ynz _ a hf).mono ?_)))))));rintro e w10 ⟨rfl, hb⟩;refine ⟨_, rfl, ?_⟩;replace E := blx E hb;refine za rfl (zi en43 rfl ((bare_any _ (xt .zero a)).mono ?_));rintro e w11 ⟨rfl, hb⟩;refine ⟨_, rfl, ?_⟩;replace E := blx E hb
  refine zq 42 (.int .u64 ((xt .zero a : Nat) : Int)) rfl ((by rw [hbr] : (.int .u64 ((jn (xt .zero a) : Nat) : Int) : Value) = _)) (za rfl (zi en63 rfl ((cmp_any_r _ a (xt .zero a)).mono ?_)));rintro e w12 ⟨rfl, hb⟩;refine ⟨_, rfl, ?_⟩;replace E := blx E hb
  refine mvx rfl (za rfl (zg rfl rfl (za rfl (zg rfl rfl (avx rfl (anx rfl (srx (mvx rfl (avx rfl (anx rfl (zo (zn (rs := [.tmp 4, .tmp 5]) (vs := [_, _]) rfl ⟨rfl, rfl, trivial⟩ ?_))))))))))));exact ⟨by rw [cmpB, if_neg (by rw [hc]; decide), ← t1]; rfl, (LW.step E XLW).toBelow⟩
end
end
def ke (a : Nat) (n1 : Bool) (xs : List Nat) : Bool := !(isN a) && qr n1 xs
noncomputable def ow (a : Nat) (n1 : Bool) (xs : List Nat) : Int := if ke a n1 xs then (if rg a = 9218868437227405312 then infV a else cmpB a (num n1 xs)) else 0
section
variable (w : World) (a : Nat) (ha : a < 18446744073709551616) (n1 : Bool) (A : Option Addr) (c : Nat) (xs : List Nat) (hx : Nums w A xs) (hl : xs.length ≤ 9223372036854775807)
include ha hx hl
theorem cmpbig_any : Calls Try.prog 64 #[.int .u64 ((a : Nat) : Int), .agg #[.bool n1, .slice A xs.length c]] w fun e w' => e = .returned (.tuple #[.int .i64 (ow a n1 xs), .bool (ke a n1 xs)]) ∧ Below w.heap.size w w' := by
 cases hn : isN a with
 | true =>
  have h : ke a n1 xs = false := by rw [ke, hn]; rfl
  rw [ow, h, if_neg (by decide)];exact cmpbig_nan w a ha n1 A c xs hx hl hn
 | false =>
  cases hg : qr n1 xs with
  | false =>
   have h : ke a n1 xs = false := by rw [ke, hg, Bool.and_false]
   rw [ow, h, if_neg (by decide)];exact cmpbig_bad w a ha n1 A c xs hx hl hn hg
  | true =>
   have h : ke a n1 xs = true := by rw [ke, hn, hg]; rfl
   rw [ow, h, if_pos rfl];obtain ⟨i, rfl, rfl, hi⟩ := good_is hg;rw [kp];by_cases hinf : rg a = 9218868437227405312
   · rw [if_pos hinf];exact cmpbig_inf w a ha i A c hi hx hn hinf
   · rw [if_neg hinf];have h1 := of_decide_eq_false hn;exact cmpbig_fin w a ha i A c hi hx hn (by omega)
end
theorem below_same {w w' : World} (h : w = w') : Below w.heap.size w w' := by subst h; exact Below.refl _ _
theorem mul64_b (x y : Nat) (hx : x < 18446744073709551616) (hy : y < 18446744073709551616) (w : World) :
 Calls Try.prog 70 #[.int .u64 x, .int .u64 y] w fun e w' => e = .returned (.tuple #[.int .u64 ((x * y / 18446744073709551616 : Nat) : Int), .int .u64 ((x * y % 18446744073709551616 : Nat) : Int)]) ∧ Below w.heap.size w w' :=
 (mul64_any x y hx hy w).mono fun _ _ ⟨h1, h2⟩ => ⟨h1, below_same h2⟩
theorem tmod31 (x : Int) : (x.tmod 31 + 31).tmod 31 = x % 31 ∧ -31 < x.tmod 31 ∧ x.tmod 31 < 31 := by
 rcases Int.lt_or_le x 0 with h | h
 · obtain ⟨y, rfl⟩ : ∃ y : Int, x = -y := ⟨-x, by omega⟩;have e : (-y).tmod 31 = -(y % 31) := by rw [Int.neg_tmod, Int.tmod_eq_emod_of_nonneg (by omega)]
   rw [e, Int.tmod_eq_emod_of_nonneg (by omega)];omega
 · rw [Int.tmod_eq_emod_of_nonneg h, Int.tmod_eq_emod_of_nonneg (by omega)];omega
def od (a : Nat) : Int := if isN a then 0 else (if ng a then -1 else 1) * (if rg a = 9218868437227405312 then 314159 else ((zvz (rg a) : Nat) : Int))
theorem hashM_zero : zvz 0 = 0 := by decide
theorem hashM_lt (r : Nat) : zvz r < 2147483647 := Nat.mod_lt _ (by decide)
theorem hash_prog {r : Nat} (hr : r < 9223372036854775808) (h0 : r ≠ 0) : mg (nr r) % 2147483647 * 2 ^ ((frE r - 53) % 31).toNat % 2147483647 = zvz r := by
 obtain ⟨h1, _⟩ := zyk hr;have := hash_norm (a := r) (by rw [h1]; exact h0);rw [h1] at this;rw [← this, fm, h1, Nat.mul_mod, Nat.mod_mod, ← Nat.mul_mod]
theorem rh70_1 : Gives 70 #[.int .u64 0, .int .u64 512] (.tuple #[.int .u64 0, .int .u64 0]) := by
 intro w;refine yb Try.func70 rfl Try.ntmps70 rfl ?_;have LW := erx (No) w;have XLW := grx (No) w;have E := erx (No) w
 refine srx (avx rfl (anx rfl (srx (mvx rfl (za rfl (xr (z := 0) rfl rfl (by kernel_rfl) (anx rfl (srx (mvx rfl (za rfl (ju (z := 0) rfl rfl (by decide) (by kernel_rfl) (anx rfl (srx (mvx rfl (za rfl (xr (z := 512) rfl rfl (by kernel_rfl) (anx rfl (srx (mvx rfl (za rfl (ju (z := 0) rfl rfl (by decide) (by kernel_rfl) (anx rfl (srx (mvx rfl (mvx rfl (za rfl (jf (z := 0) rfl rfl (by kernel_rfl) (avx rfl ?_))))))))))))))))))))))))))))
 refine rnx (srx (mvx rfl (mvx rfl (za rfl (jf (z := 0) rfl rfl (by kernel_rfl) (mvx rfl (za rfl (ju (z := 0) rfl rfl (by decide) (by kernel_rfl) (za rfl (yp (z := 0) rfl rfl (by kernel_rfl) (anx rfl (srx (mvx rfl (za rfl (xr (z := 0) rfl rfl (by kernel_rfl) (anx rfl (srx (mvx rfl (za rfl (ju (z := 0) rfl rfl (by decide) (by kernel_rfl) (anx rfl (srx (mvx rfl (mvx rfl (mvx rfl (za rfl (jf (z := 0) rfl rfl (by kernel_rfl) (za rfl (yp (z := 0) rfl rfl (by kernel_rfl) (anx rfl (srx (mvx rfl ?_))))))))))))))))))))))))))))))))
 refine mvx rfl (za rfl (jf (z := 0) rfl rfl (by kernel_rfl) (mvx rfl (za rfl (yp (z := 0) rfl rfl (by kernel_rfl) (mvx rfl (za rfl (ju (z := 0) rfl rfl (by decide) (by kernel_rfl) (za rfl (yp (z := 0) rfl rfl (by kernel_rfl) (anx rfl (srx (mvx rfl (mvx rfl (za rfl (jf (z := 0) rfl rfl (by kernel_rfl) (anx rfl (zo (zn (rs := [.tmp 4, .tmp 5]) (vs := [.int .u64 0, .int .u64 0]) rfl ⟨rfl, rfl, trivial⟩ ?_)))))))))))))))))))
 exact ⟨rfl, (LW.step E XLW).toBelow⟩
theorem rh81_3 : Gives 81 #[.int .u64 0, .int .u64 0, .int .u64 2147483647] (.tuple #[.int .u64 0, .int .u64 0]) := by
 intro w;refine yb Try.func81 rfl Try.ntmps81 rfl ?_;have LW := erx (No) w;have XLW := grx (No) w;have E := erx (No) w
 refine srx (avx rfl (anx rfl (zl (srx (mvx rfl (za rfl (yl rfl rfl (rnx (zw rfl (zt (zj (zl (srx (mvx rfl (mvx rfl (za rfl (kr rfl rfl (rnx (zw rfl (zt (zj (zl (srx (mvx rfl (za rfl (yl rfl rfl (rnx (ye rfl (zl ?_)))))))))))))))))))))))))))))
 have OY : ∀ q9, (Mut (outM [])) q9 → q9 < (World.drew w).heap.size → (No) q9 := fun k h _ => (Mut.none_) k h;refine qt (No) Mut.none_ [] [] (gg [Fx.of (.int .u64 0),
  Fx.of (.int .u64 2147483647),
  Fx.of (.int .u64 0),
  Fx.of (.int .u64 0),
  Fx.of (.int .u64 2147483647),
  Fx.of (.int .u64 0),
  Fx.of (.int .u64 0),
  Fx.of (.int .u64 0)]) vu rfl trivial (fun _ h => by cases h) ?_ ?_
 · refine ⟨?_, ?_, ?_, ?_, ?_, ?_, ?_, ?_, trivial⟩
   · intro vs X wq K;exact zp rfl ⟨Below.refl _ _, Left.of rfl⟩
   · intro vs X wq K;exact zp rfl ⟨Below.refl _ _, Left.of rfl⟩
   · intro vs X wq K;obtain ⟨_, e0, k0⟩ := K.dep 0 rfl rfl rfl;refine zc 28 (.int .u64 0) rfl e0 ?_;obtain ⟨_, e1, k1⟩ := K.dep 1 rfl rfl rfl;refine zc 29 (.int .u64 2147483647) rfl e1 ?_;exact xx (z := 0) rfl rfl (by decide) (by kernel_rfl) ⟨Below.refl _ _, Left.of rfl⟩
   · intro vs X wq K;exact zp rfl ⟨Below.refl _ _, Left.of rfl⟩
   · intro vs X wq K;exact zp rfl ⟨Below.refl _ _, Left.of rfl⟩
   · intro vs X wq K;obtain ⟨_, e3, k3⟩ := K.dep 3 rfl rfl rfl;refine zc 31 (.int .u64 0) rfl e3 ?_;obtain ⟨_, e4, k4⟩ := K.dep 4 rfl rfl rfl;refine zc 32 (.int .u64 2147483647) rfl e4 ?_;exact gh (z := 0) rfl rfl (by decide) (by kernel_rfl) ⟨Below.refl _ _, Left.of rfl⟩
   · intro vs X wq K;obtain ⟨_, e2, k2⟩ := K.dep 2 rfl rfl rfl;refine zc 30 (.int .u64 0) rfl e2 ?_;exact yw rfl ⟨Below.refl _ _, Left.of rfl⟩
   · intro vs X wq K;obtain ⟨_, e5, k5⟩ := K.dep 5 rfl rfl rfl;refine zc 33 (.int .u64 0) rfl e5 ?_;exact yw rfl ⟨Below.refl _ _, Left.of rfl⟩
 intro vs w1 LE AO AL AF AA;replace E := E.drew.trans (LE.mono OY);obtain ⟨_, e6, k6⟩ := AL.2.2.2.2.2.2.1;obtain ⟨_, e7, k7⟩ := AL.2.2.2.2.2.2.2.1;refine qy (τ := [(0, _), (1, _), (2, _), (6, .int .u64 0), (7, .int .u64 0)]) ⟨rfl, rfl, rfl, congrArg some e6, congrArg some e7, trivial⟩ ?_;clear AL AF AA LE AO OY e6 e7 k6 k7
 refine zj (zo (zh (zn (rs := [.tmp 6, .tmp 7]) (vs := [.int .u64 0, .int .u64 0]) rfl ⟨rfl, rfl, trivial⟩ ?_)));exact ⟨rfl, (LW.step E XLW).toBelow⟩
theorem rh71_3 : Gives 71 #[.int .u64 0, .int .u64 0, .int .u64 2147483647] (.int .u64 0) := by
 intro w;refine yb Try.func71 rfl Try.ntmps71 rfl ?_;have LW := erx (No) w;have XLW := grx (No) w;have E := erx (No) w;refine srx (anx rfl (srx (mvx rfl (mvx rfl (za rfl (gh (z := 0) rfl rfl (by decide) (by kernel_rfl) (mvx rfl (mvx rfl (za rfl (zi en81 rfl ((rh81_3 _).mono ?_)))))))))));rintro e w1 ⟨rfl, hb⟩;refine ⟨_, rfl, ?_⟩;replace E := blx E hb
 refine mvx rfl (za rfl (zg rfl rfl (za rfl (zg rfl rfl (avx rfl (anx rfl (srx (mvx rfl (anx rfl (zo (zn (rs := [.tmp 6]) (vs := [.int .u64 0]) rfl ⟨rfl, trivial⟩ ?_)))))))))));exact ⟨rfl, (LW.step E XLW).toBelow⟩
theorem hash_zero (w : World) (a : Nat) (ha : a < 18446744073709551616) (hf : rg a < 9218868437227405312) (h0 : rg a = 0) : Calls Try.prog 56 #[.int .u64 ((a : Nat) : Int)] w fun e w' => e = .returned (.int .i64 (od a)) ∧ Below w.heap.size w w' := by
 have hp : pc a = 0 := by unfold pc; split <;> omega
 have hlt : (js a 0 == some .lt) = false := by rw [znz (gi hf) (by decide), hp]; decide
 have hF : od a = 0 := by
  have e : (if rg a = 9218868437227405312 then 314159 else ((zvz (rg a) : Nat) : Int)) = 0 := by rw [if_neg (by omega), h0, hashM_zero]; rfl
  rw [od, if_neg (by rw [gi hf]; decide), e, Int.mul_zero]
 have hr : rg a < 18446744073709551616 := by omega
 refine yb Try.func56 rfl Try.ntmps56 rfl ?_;have LW := erx (No) w;have XLW := grx (No) w;have E := erx (No) w
 refine srx (anx rfl (srx (mvx rfl (za rfl (va (b := a) zrk rfl (anx rfl (srx (anx rfl (zl (srx (mvx rfl (za rfl (zzx rfl rfl (rnx (yd 13 (.bool false) rfl ((by rw [hlt] : (.bool (js a 0 == some .lt) : Value) = _)) (zw rfl (zt (zj (zl (yh (srx (mvx rfl (mvx rfl (za rfl (xc rfl rfl (anx rfl (yd 14 (.bool false) rfl ((by rw [jw, gi hf] : (.bool (js a a != some .eq) : Value) = _)) (zw rfl ?_))))))))))))))))))))))))))))
 refine srx (mvx rfl (za rfl (zi en66 rfl ((jz _ a ha).mono ?_))));rintro e w1 ⟨rfl, hb⟩;refine ⟨_, rfl, ?_⟩;replace E := blx E hb
 refine zq 20 (.bool false) rfl ((by rw [decide_eq_false (by omega)] : (.bool (decide (rg a = 9218868437227405312)) : Value) = _)) (anx rfl (zw rfl (zt (zx (zj (srx (mvx rfl (za rfl (zi en68 rfl ((ymz _ a ha).mono ?_))))))))));rintro e w2 ⟨rfl, hb⟩;refine ⟨_, rfl, ?_⟩;replace E := blx E hb
 refine za rfl (zi en67 rfl ((Frexp_zero _ (rg a) hr (by rw [rg_rg]; exact h0)).mono ?_));rintro e w3 ⟨rfl, hb⟩;refine ⟨_, rfl, ?_⟩;replace E := blx E hb;refine mvx rfl (za rfl (zg rfl rfl (za rfl (zg rfl rfl (avx rfl (anx rfl (srx (mvx rfl (za rfl (zi en69 rfl ((Ldexp_zero _ (rg a) hr (by rw [rg_rg]; exact h0) 53).mono ?_)))))))))));rintro e w4 ⟨rfl, hb⟩
 refine ⟨_, rfl, ?_⟩;replace E := blx E hb
 refine za rfl (yoq (z := 0) Try.underlying25 (by rw [Try.underlying92]; rfl) rfl (by rw [h0]; decide +kernel) (anx rfl (srx (mvx rfl (za rfl (vq (z := (-53)) rfl rfl (by kernel_rfl) (za rfl (gh (z := (-22)) rfl rfl (by decide) (by kernel_rfl) (za rfl (yp (z := 9) rfl rfl (by kernel_rfl) (za rfl (gh (z := 9) rfl rfl (by decide) (by kernel_rfl) (anx rfl (srx (mvx rfl (za rfl (gh (z := 0) rfl rfl (by decide) (by kernel_rfl) (mvx rfl (za rfl (oq (z := 512) rfl rfl (by decide) (by kernel_rfl) (za rfl (zi en70 rfl ((rh70_1 _).mono ?_)))))))))))))))))))))))
 rintro e w5 ⟨rfl, hb⟩;refine ⟨_, rfl, ?_⟩;replace E := blx E hb;refine mvx rfl (za rfl (zg rfl rfl (za rfl (zg rfl rfl (avx rfl (anx rfl (srx (mvx rfl (mvx rfl (mvx rfl (za rfl (zi en71 rfl ((rh71_3 _).mono ?_)))))))))))));rintro e w6 ⟨rfl, hb⟩;refine ⟨_, rfl, ?_⟩;replace E := blx E hb
 refine za rfl (qc (z := 0) Try.underlying3 Try.underlying25 rfl (by kernel_rfl) (za rfl (jf (z := 0) rfl rfl (by kernel_rfl) (anx rfl (zo (zn (rs := [.tmp 2]) (vs := [_]) rfl ⟨rfl, trivial⟩ ?_))))));exact ⟨by rw [hF]; rfl, (LW.step E XLW).toBelow⟩
section
variable (w : World) (a : Nat) (ha : a < 18446744073709551616)
include ha
theorem hash_nan (hn : isN a = true) : Calls Try.prog 56 #[.int .u64 ((a : Nat) : Int)] w fun e w' => e = .returned (.int .i64 (od a)) ∧ Below w.heap.size w w' := by
 have _ := ha;refine yb Try.func56 rfl Try.ntmps56 rfl ?_;have LW := erx (No) w;have XLW := grx (No) w;have E := erx (No) w
 refine srx (anx rfl (srx (mvx rfl (za rfl (va (b := a) zrk rfl (anx rfl (srx (anx rfl (zl (srx (mvx rfl (za rfl (zzx rfl rfl (rnx (yd 13 (.bool false) rfl ((by rw [ford_nan_no hn] : (.bool (js a 0 == some .lt) : Value) = _)) (zw rfl (zt (zj (zl (yh (srx (mvx rfl (mvx rfl (za rfl (xc rfl rfl (anx rfl (yd 14 (.bool true) rfl ((by rw [jw, hn] : (.bool (js a a != some .eq) : Value) = _)) (ye rfl ?_))))))))))))))))))))))))))))
 refine srx (anx rfl (zo (zr (zh (zn (rs := [.tmp 2]) (vs := [_]) rfl ⟨rfl, trivial⟩ ?_)))));exact ⟨by rw [od, if_pos hn]; rfl, (LW.step E XLW).toBelow⟩
theorem hash_inf (hi : rg a = 9218868437227405312) : Calls Try.prog 56 #[.int .u64 ((a : Nat) : Int)] w fun e w' => e = .returned (.int .i64 (od a)) ∧ Below w.heap.size w w' := by
 have hn : isN a = false := decide_eq_false (by omega);refine yb Try.func56 rfl Try.ntmps56 rfl ?_;have LW := erx (No) w;have XLW := grx (No) w;have E := erx (No) w
 refine srx (anx rfl (srx (mvx rfl (za rfl (va (b := a) zrk rfl (anx rfl (srx (anx rfl (zl (srx (mvx rfl (za rfl (zzx rfl rfl (rnx (yd 13 (.bool (ng a)) rfl ((by rw [ford_neg hn (by omega)] : (.bool (js a 0 == some .lt) : Value) = _)) (yv rfl (fun h => ?_) (fun h => ?_)))))))))))))))))
 ·
  refine yq (anx rfl (zl (yh (srx (mvx rfl (mvx rfl (za rfl (xc rfl rfl (anx rfl (yd 14 (.bool false) rfl ((by rw [jw, hn] : (.bool (js a a != some .eq) : Value) = _)) (zw rfl (srx (mvx rfl (za rfl (zi en66 rfl ((jz _ a ha).mono ?_))))))))))))))));rintro e w1 ⟨rfl, hb⟩;refine ⟨_, rfl, ?_⟩;replace E := blx E hb
  refine zq 20 (.bool true) rfl ((by rw [decide_eq_true hi] : (.bool (decide (rg a = 9218868437227405312)) : Value) = _)) (anx rfl (ye rfl (srx (mvx rfl (za rfl (jf (z := (-314159)) rfl rfl (by kernel_rfl) (anx rfl (zo (zr (zh (zn (rs := [.tmp 2]) (vs := [_]) rfl ⟨rfl, trivial⟩ ?_)))))))))))
  exact ⟨by rw [od, if_neg (by rw [hn]; decide), h, if_pos hi]; rfl, (LW.step E XLW).toBelow⟩
 ·
  refine zt (zj (zl (yh (srx (mvx rfl (mvx rfl (za rfl (xc rfl rfl (anx rfl (yd 14 (.bool false) rfl ((by rw [jw, hn] : (.bool (js a a != some .eq) : Value) = _)) (zw rfl (srx (mvx rfl (za rfl (zi en66 rfl ((jz _ a ha).mono ?_))))))))))))))));rintro e w2 ⟨rfl, hb⟩;refine ⟨_, rfl, ?_⟩;replace E := blx E hb
  refine zq 20 (.bool true) rfl ((by rw [decide_eq_true hi] : (.bool (decide (rg a = 9218868437227405312)) : Value) = _)) (anx rfl (ye rfl (srx (mvx rfl (za rfl (jf (z := 314159) rfl rfl (by kernel_rfl) (anx rfl (zo (zr (zh (zn (rs := [.tmp 2]) (vs := [_]) rfl ⟨rfl, trivial⟩ ?_)))))))))))
  exact ⟨by rw [od, if_neg (by rw [hn]; decide), h, if_pos hi]; rfl, (LW.step E XLW).toBelow⟩
section
variable (hf : rg a < 9218868437227405312)
include hf
section
variable (h0 : rg a ≠ 0)
include h0
theorem hash_num : Calls Try.prog 56 #[.int .u64 ((a : Nat) : Int)] w fun e w' => e = .returned (.int .i64 (od a)) ∧ Below w.heap.size w w' := by
 have hr : rg a < 18446744073709551616 := by omega
 obtain ⟨f1, f2, f3⟩ := frF_parts hf h0;have f0 := (zyk (r := frF (rg a)) (by omega)).1;have f00 := (zyk (r := frF (rg a)) (by omega)).2;obtain ⟨fq1, fq2⟩ := fullQ (r := rg a) h0;have fq3 : vl (1074 * 4503599627370496 + mg (nr (rg a))) = vl (frF (rg a)) * 2 ^ 53 := by rewrite [fq1, f3]; exact yoz (p := 1074) (q := 1021) (s := 53) (by decide) _
 have hmg := (mg_nr h0).2;have fw := kd (ng (frF (rg a))) (1074 * 4503599627370496 + mg (nr (rg a))) (by omega);have fz : floatToIntVal .f64 (Ieee.double.word (ng (frF (rg a))) (1074 * 4503599627370496 + mg (nr (rg a)))) .u64 = some ((mg (nr (rg a)) : Nat) : Int) := by
  have h1 := zsx (ng (frF (rg a))) fq2 fq1;have h2 := f2i_u64 (a := Ieee.double.word (ng (frF (rg a))) (1074 * 4503599627370496 + mg (nr (rg a)))) (by rw [fw.1]; exact fq2) (by rw [fw.2.1]; exact f00) (by rw [h1]; omega);rw [h1] at h2;exact h2
 obtain ⟨b1, b2⟩ := frE_bound hf;obtain ⟨t1, t2, t3⟩ := tmod31 (frE (rg a) - 53);obtain ⟨k, hk⟩ : ∃ k : Nat, (frE (rg a) - 53) % 31 = (k : Int) := ⟨((frE (rg a) - 53) % 31).toNat, by omega⟩;have hk31 : k < 31 := by omega
 have hpr := hash_prog (r := rg a) (rg_lt a) h0;have hkt : ((frE (rg a) - 53) % 31).toNat = k := by omega
 rw [hkt] at hpr;have hp2 : 2 ^ k ≤ 1073741824 := (Nat.pow_le_pow_right (by decide) (show k ≤ 30 by omega) : 2 ^ k ≤ 2 ^ 30);have hprod : mg (nr (rg a)) % 2147483647 * 2 ^ k ≤ 2147483647 * 1073741824 := Nat.mul_le_mul (Nat.le_of_lt (Nat.mod_lt _ (by decide))) hp2;have hml := hashM_lt (rg a);have hni : ¬ rg a = 9218868437227405312 := by omega
 refine yb Try.func56 rfl Try.ntmps56 rfl ?_;have LW := erx (No) w;have XLW := grx (No) w;have E := erx (No) w
 refine srx (anx rfl (srx (mvx rfl (za rfl (va (b := a) zrk rfl (anx rfl (srx (anx rfl (zl (srx (mvx rfl (za rfl (zzx rfl rfl (rnx (yd 13 (.bool (ng a)) rfl ((by rw [ford_neg (gi hf) h0] : (.bool (js a 0 == some .lt) : Value) = _)) (yv rfl (fun h => ?_) (fun h => ?_)))))))))))))))))
 ·
  refine yq (anx rfl (zl (yh (srx (mvx rfl (mvx rfl (za rfl (xc rfl rfl (anx rfl (yd 14 (.bool false) rfl ((by rw [jw, gi hf] : (.bool (js a a != some .eq) : Value) = _)) (zw rfl (srx (mvx rfl (za rfl (zi en66 rfl ((jz _ a ha).mono ?_))))))))))))))));rintro e w1 ⟨rfl, hb⟩;refine ⟨_, rfl, ?_⟩;replace E := blx E hb
  refine zq 20 (.bool false) rfl ((by rw [decide_eq_false (by omega)] : (.bool (decide (rg a = 9218868437227405312)) : Value) = _)) (anx rfl (zw rfl (zt (zx (zj (srx (mvx rfl (za rfl (zi en68 rfl ((ymz _ a ha).mono ?_))))))))));rintro e w2 ⟨rfl, hb⟩;refine ⟨_, rfl, ?_⟩;replace E := blx E hb
  refine za rfl (zi en67 rfl ((yqq _ (rg a) hr (by rw [rg_rg]; exact h0) (by rw [rg_rg]; exact hf)).mono ?_));rintro e w3 ⟨rfl, hb⟩;refine ⟨_, rfl, ?_⟩;replace E := blx E hb
  refine mvx rfl (za rfl (zg rfl rfl (za rfl (zg rfl rfl (avx rfl (anx rfl (srx (mvx rfl (za rfl (zi en69 rfl ((yqz _ (frF (rg a)) (by omega) (by rw [f0]; exact f2) (by rw [f0]; exact f1) 53 (1074 * 4503599627370496 + mg (nr (rg a))) (by decide) fq2 (by rw [f0]; exact fq3)).mono ?_)))))))))));rintro e w4 ⟨rfl, hb⟩;refine ⟨_, rfl, ?_⟩;replace E := blx E hb
  refine za rfl (yoq (z := ((mg (nr (rg a)) : Nat) : Int)) Try.underlying25 (by rw [Try.underlying92]; rfl) rfl fz (anx rfl (srx (mvx rfl (za rfl (vq rfl rfl (zy (by omega)) (za rfl (gh (z := (frE (rg a) - 53).tmod 31) rfl rfl (by decide) rfl (za rfl (yp rfl rfl (zy (by omega)) (za rfl (gh (z := ((k : Nat) : Int)) rfl rfl (by decide) (by rw [t1, hk]) (anx rfl (srx (mvx rfl (za rfl (gh (z := ((mg (nr (rg a)) % 2147483647 : Nat) : Int)) rfl rfl (by decide) (ygq _ 2147483647) (mvx rfl (za rfl (oq rfl rfl (by omega) (yux 1 k (by omega)) (zq 41 (.int .u64 ((2 ^ k : Nat) : Int)) rfl ((by rw [Nat.one_mul, Nat.mod_eq_of_lt (by omega)] : (.int .u64 ((1 * 2 ^ k % 18446744073709551616 : Nat) : Int) : Value) = _)) (za rfl (zi en70 rfl ((mul64_b (mg (nr (rg a)) % 2147483647) (2 ^ k) (by omega) (by omega) _).mono ?_))))))))))))))))))))))))
  rintro e w5 ⟨rfl, hb⟩;refine ⟨_, rfl, ?_⟩;replace E := blx E hb
  refine mvx rfl (za rfl (zg rfl rfl (za rfl (zg rfl rfl (avx rfl (anx rfl (srx (mvx rfl (mvx rfl (mvx rfl (za rfl (zi en71 rfl ((yox _ (mg (nr (rg a)) % 2147483647 * 2 ^ k / 18446744073709551616) (mg (nr (rg a)) % 2147483647 * 2 ^ k % 18446744073709551616) (by omega) (Nat.mod_lt _ (by decide))).mono ?_)))))))))))));rintro e w6 ⟨rfl, hb⟩;refine ⟨_, rfl, ?_⟩
  replace E := blx E hb
  refine zq 48 (.int .u64 ((zvz (rg a) : Nat) : Int)) rfl ((by rw [kw rfl rfl, ← hpr] : (.int .u64 (((mg (nr (rg a)) % 2147483647 * 2 ^ k / 18446744073709551616 * 18446744073709551616 + mg (nr (rg a)) % 2147483647 * 2 ^ k % 18446744073709551616) % 2147483647 : Nat) : Int) : Value) = _)) (za rfl (qc Try.underlying3 Try.underlying25 rfl (zy (by omega)) (za rfl (jf rfl rfl (zy (by omega)) (anx rfl (zo (zn (rs := [.tmp 2]) (vs := [_]) rfl ⟨rfl, trivial⟩ ?_)))))))
  exact ⟨by rw [od, if_neg (by rw [gi hf]; decide), h, if_neg hni]; rfl, (LW.step E XLW).toBelow⟩
 ·
  refine zt (zj (zl (yh (srx (mvx rfl (mvx rfl (za rfl (xc rfl rfl (anx rfl (yd 14 (.bool false) rfl ((by rw [jw, gi hf] : (.bool (js a a != some .eq) : Value) = _)) (zw rfl (srx (mvx rfl (za rfl (zi en66 rfl ((jz _ a ha).mono ?_))))))))))))))));rintro e w7 ⟨rfl, hb⟩;refine ⟨_, rfl, ?_⟩;replace E := blx E hb
  refine zq 20 (.bool false) rfl ((by rw [decide_eq_false (by omega)] : (.bool (decide (rg a = 9218868437227405312)) : Value) = _)) (anx rfl (zw rfl (zt (zx (zj (srx (mvx rfl (za rfl (zi en68 rfl ((ymz _ a ha).mono ?_))))))))));rintro e w8 ⟨rfl, hb⟩;refine ⟨_, rfl, ?_⟩;replace E := blx E hb
  refine za rfl (zi en67 rfl ((yqq _ (rg a) hr (by rw [rg_rg]; exact h0) (by rw [rg_rg]; exact hf)).mono ?_));rintro e w9 ⟨rfl, hb⟩;refine ⟨_, rfl, ?_⟩;replace E := blx E hb
  refine mvx rfl (za rfl (zg rfl rfl (za rfl (zg rfl rfl (avx rfl (anx rfl (srx (mvx rfl (za rfl (zi en69 rfl ((yqz _ (frF (rg a)) (by omega) (by rw [f0]; exact f2) (by rw [f0]; exact f1) 53 (1074 * 4503599627370496 + mg (nr (rg a))) (by decide) fq2 (by rw [f0]; exact fq3)).mono ?_)))))))))));rintro e w10 ⟨rfl, hb⟩;refine ⟨_, rfl, ?_⟩;replace E := blx E hb
  refine za rfl (yoq (z := ((mg (nr (rg a)) : Nat) : Int)) Try.underlying25 (by rw [Try.underlying92]; rfl) rfl fz (anx rfl (srx (mvx rfl (za rfl (vq rfl rfl (zy (by omega)) (za rfl (gh (z := (frE (rg a) - 53).tmod 31) rfl rfl (by decide) rfl (za rfl (yp rfl rfl (zy (by omega)) (za rfl (gh (z := ((k : Nat) : Int)) rfl rfl (by decide) (by rw [t1, hk]) (anx rfl (srx (mvx rfl (za rfl (gh (z := ((mg (nr (rg a)) % 2147483647 : Nat) : Int)) rfl rfl (by decide) (ygq _ 2147483647) (mvx rfl (za rfl (oq rfl rfl (by omega) (yux 1 k (by omega)) (zq 41 (.int .u64 ((2 ^ k : Nat) : Int)) rfl ((by rw [Nat.one_mul, Nat.mod_eq_of_lt (by omega)] : (.int .u64 ((1 * 2 ^ k % 18446744073709551616 : Nat) : Int) : Value) = _)) (za rfl (zi en70 rfl ((mul64_b (mg (nr (rg a)) % 2147483647) (2 ^ k) (by omega) (by omega) _).mono ?_))))))))))))))))))))))))
  rintro e w11 ⟨rfl, hb⟩;refine ⟨_, rfl, ?_⟩;replace E := blx E hb
  refine mvx rfl (za rfl (zg rfl rfl (za rfl (zg rfl rfl (avx rfl (anx rfl (srx (mvx rfl (mvx rfl (mvx rfl (za rfl (zi en71 rfl ((yox _ (mg (nr (rg a)) % 2147483647 * 2 ^ k / 18446744073709551616) (mg (nr (rg a)) % 2147483647 * 2 ^ k % 18446744073709551616) (by omega) (Nat.mod_lt _ (by decide))).mono ?_)))))))))))));rintro e w12 ⟨rfl, hb⟩;refine ⟨_, rfl, ?_⟩
  replace E := blx E hb
  refine zq 48 (.int .u64 ((zvz (rg a) : Nat) : Int)) rfl ((by rw [kw rfl rfl, ← hpr] : (.int .u64 (((mg (nr (rg a)) % 2147483647 * 2 ^ k / 18446744073709551616 * 18446744073709551616 + mg (nr (rg a)) % 2147483647 * 2 ^ k % 18446744073709551616) % 2147483647 : Nat) : Int) : Value) = _)) (za rfl (qc Try.underlying3 Try.underlying25 rfl (zy (by omega)) (za rfl (jf rfl rfl (zy (by omega)) (anx rfl (zo (zn (rs := [.tmp 2]) (vs := [_]) rfl ⟨rfl, trivial⟩ ?_)))))))
  exact ⟨by rw [od, if_neg (by rw [gi hf]; decide), h, if_neg hni]; rfl, (LW.step E XLW).toBelow⟩
end
end
theorem hash_any : Calls Try.prog 56 #[.int .u64 ((a : Nat) : Int)] w fun e w' => e = .returned (.int .i64 (od a)) ∧ Below w.heap.size w w' := by
 cases hn : isN a with
 | true => exact hash_nan w a ha hn
 | false =>
  have h1 := of_decide_eq_false hn;by_cases hi : rg a = 9218868437227405312
  · exact hash_inf w a ha hi
  · by_cases h0 : rg a = 0
    · exact hash_zero w a ha (by omega) h0
    · exact hash_num w a ha (by omega) h0
end
end Go.Proofs.Ytebjkmjfcijebaa
