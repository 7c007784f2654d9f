/- Texts of this claim. -/
import Derived.Test.YtaleikoeklemmaaGreatDoorA15
import Derived.WalkKit
import Derived.Lib.Mul64
import Derived.Laws.Bits64b
import Derived.BigQuiet
import Derived.Deep.QuietTactic
import Derived.Lib.Hide
import Derived.Laws.Externs
import Derived.Deep.DeepCutAuto
import Derived.Deep.CutBlock
import Derived.Test.YtaleikoeklemmaaGreatDoorRows
namespace Go.Proofs.YtaleikoeklemmaaGreatDoor
open Go.RowKit Go.Lib
namespace M64
theorem maskN (a : Nat) (ha : a < 18446744073709551616) : bits .and .u64 (a : Int) 4294967295 = ((a % 4294967296 : Nat) : Int) := by
 have h := bits_and_u64_nat a 4294967295 ha (by omega);have e : a &&& 4294967295 = a % 4294967296 := Nat.and_two_pow_sub_one_eq_mod a 32;rw [e] at h;exact h
theorem divN (a : Nat) : (a : Int) / 4294967296 = ((a / 4294967296 : Nat) : Int) := by omega
theorem mulN (a b : Nat) : (a : Int) * (b : Int) = ((a * b : Nat) : Int) := (Int.natCast_mul a b).symm
theorem addN (a b : Nat) : (a : Int) + (b : Int) = ((a + b : Nat) : Int) := (Int.natCast_add a b).symm
theorem wrapN (a : Nat) (ha : a < 18446744073709551616) : IntKind.u64.wrap (a : Int) = (a : Int) := by rw [IntKind.wrap_u64]; omega
theorem wrapM (a : Nat) : IntKind.u64.wrap (a : Int) = ((a % 18446744073709551616 : Nat) : Int) := by rw [IntKind.wrap_u64]; omega
end M64
set_option maxHeartbeats 1000000 in
theorem mul64_any (x y : Nat) (hx : x < 18446744073709551616) (hy : y < 18446744073709551616) (w : World) :
 Calls Tryz.prog 62 #[.int .u64 x, .int .u64 y] w fun e w' => e = .returned (.tuple #[.int .u64 ((x * y / 18446744073709551616 : Nat) : Int), .int .u64 ((x * y % 18446744073709551616 : Nat) : Int)]) ∧ w = w' := by
 obtain ⟨bd, bt, bw, hhi⟩ := Lib.mul64_hi x y hx hy;have ba := Lib.half_mul_le (a := x / 4294967296) (b := y / 4294967296) (by omega) (by omega);have bb := Lib.half_mul_le (a := x / 4294967296) (b := y % 4294967296) (by omega) (by omega);have bc := Lib.half_mul_le (a := x % 4294967296) (b := y / 4294967296) (by omega) (by omega)
 have ba' : x / 4294967296 * (y / 4294967296) < 18446744073709551616 := by omega
 have bb' : x / 4294967296 * (y % 4294967296) < 18446744073709551616 := by omega
 have bc' : x % 4294967296 * (y / 4294967296) < 18446744073709551616 := by omega
 have bh1 : x / 4294967296 * (y / 4294967296) + (x / 4294967296 * (y % 4294967296) + x % 4294967296 * (y % 4294967296) / 4294967296) / 4294967296 < 18446744073709551616 := by omega
 have bh : x / 4294967296 * (y / 4294967296) + (x / 4294967296 * (y % 4294967296) + x % 4294967296 * (y % 4294967296) / 4294967296) / 4294967296 + ((x / 4294967296 * (y % 4294967296) + x % 4294967296 * (y % 4294967296) / 4294967296) % 4294967296 + x % 4294967296 * (y / 4294967296)) / 4294967296 < 18446744073709551616 := by omega
 go_enter Tryz.func62, Tryz.ntmps62
 go_wp2
 simp only [M64.maskN x hx, M64.maskN y hy, M64.divN, M64.mulN, M64.addN, M64.wrapN _ bd, M64.wrapN _ bb', M64.wrapN _ bt, M64.maskN _ bt, M64.wrapN _ bc', M64.wrapN _ bw, M64.wrapN _ ba', M64.wrapN _ bh1, M64.wrapN _ bh, M64.wrapM (x * y)]
 rw [hhi];go_ret2
 exact ⟨rfl, rfl⟩
set_option maxRecDepth 100000
theorem lead_base (w : World) : Calls Tryz.prog 125 #[.int .u64 1000000000000000000] w fun e w' => e = .returned (.int .i64 4) ∧ w = w' := by
 go_enter Tryz.func125, Tryz.ntmps125
 go_wp2
 go_ret
 exact ⟨by kernel_rfl, rfl⟩
theorem add64_run (x y : Int) (hx : 0 ≤ x) (hy : 0 ≤ y) (w : World) :
 (callFunc 64 #[.int .u64 x, .int .u64 y, .int .u64 0]).run Tryz.prog w =
  .ok (.value (.tuple #[.int .u64 ((x + y) % 18446744073709551616), .int .u64 ((x + y) / 18446744073709551616)])) w := by
 rw [run_callFunc_extern Tryz.func64 (by kernel_rfl) (by kernel_rfl) (by kernel_rfl) (e := add64Entry) (by kernel_rfl), run_add64 x y 0 hx hy (by omega) (by omega)];simp only [Result.andThen, Int.add_zero]
theorem or_low (hi lo : Int) (h0 : 0 ≤ hi) (h1 : hi < 1000000000000000000) (l0 : 0 ≤ lo) (l1 : lo < 18446744073709551616) :
 bits .or .u64 (hi * 16) (lo / 1152921504606846976) = hi * 16 + lo / 1152921504606846976 := by
 obtain ⟨a, rfl⟩ := Int.eq_ofNat_of_zero_le h0;obtain ⟨b, hb⟩ := Int.eq_ofNat_of_zero_le (show 0 ≤ lo / 1152921504606846976 by omega);rw [hb];have h := bits_or_u64_nat (a * 16) b (by omega) (by omega);have e : a * 16 ||| b = a * 16 + b := by
  have := Nat.shiftLeft_add_eq_or_of_lt (show b < 2 ^ 4 by omega) a;rw [Nat.shiftLeft_eq] at this;exact this.symm
 rw [e] at h;rw [show ((a : Int) * 16) = ((a * 16 : Nat) : Int) by omega, h];omega
theorem mask_low (V : Int) (h0 : 0 ≤ V) (h1 : V < 18446744073709551616) : bits .and .u64 V 4294967295 = V % 4294967296 := by
 obtain ⟨a, rfl⟩ := Int.eq_ofNat_of_zero_le h0;rw [M64.maskN a (by omega)];omega
theorem xl {U V q r : Int} (h0 : 0 ≤ U) (h1 : U < 16000000000000000000) (v0 : 0 ≤ V) (v1 : V < 4294967296) (hq : q * 3725290298 + r = U) (hr : 0 ≤ r)
 (hQ : (U * 4294967296 + V) / 16000000000000000000 ≤ q) (ht : q * 1983905792 ≤ 4294967296 * r + V) : q = (U * 4294967296 + V) / 16000000000000000000 := by omega
theorem zdv {U V q r : Int} (h0 : 0 ≤ U) (h1 : U < 16000000000000000000) (v0 : 0 ≤ V) (v1 : V < 4294967296) (hq : q * 3725290298 + r = U)
 (ht : 4294967296 ≤ q ∨ 4294967296 * r + V < q * 1983905792) : (U * 4294967296 + V) / 16000000000000000000 ≤ q - 1 := by omega
set_option maxRecDepth 100000
set_option maxHeartbeats 2000000 in
theorem div64_base (hi lo : Int) (h0 : 0 ≤ hi) (h1 : hi < 1000000000000000000) (l0 : 0 ≤ lo) (l1 : lo < 18446744073709551616) (w : World) :
 Calls Tryz.prog 93 #[.int .u64 hi, .int .u64 lo, .int .u64 1000000000000000000] w fun e w' => e = .returned (.tuple #[.int .u64 ((hi * 18446744073709551616 + lo) / 1000000000000000000), .int .u64 ((hi * 18446744073709551616 + lo) % 1000000000000000000)]) ∧ ∃ n, w' = w.drewN n := by
 by_cases hz : hi = 0
 · subst hz;have e1 : (0 : Int) * 18446744073709551616 + lo = lo := by omega
   rw [e1];have hq0 : 0 ≤ lo / 1000000000000000000 := by omega
   have hr0 : 0 ≤ lo % 1000000000000000000 := by omega
   go_enter Tryz.func93, Tryz.ntmps93
   go_wp2
   go_quiet (fail)
   go_wp2
   go_ret2
   exact ⟨by simp, _, rfl⟩
 · have hz2 : (hi == 0) = false := by simpa using hz
   have hle : ¬ 1000000000000000000 ≤ hi := by omega
   clear hz;obtain ⟨U, hU⟩ : ∃ U, U = hi * 16 + lo / 1152921504606846976 := ⟨_, rfl⟩;obtain ⟨V, hV⟩ : ∃ V, V = lo * 16 % 18446744073709551616 := ⟨_, rfl⟩;obtain ⟨V1, hV1⟩ : ∃ V1, V1 = V / 4294967296 := ⟨_, rfl⟩;obtain ⟨V0, hV0⟩ : ∃ V0, V0 = V % 4294967296 := ⟨_, rfl⟩;obtain ⟨Q, hQ⟩ : ∃ Q, Q = U / 3725290298 := ⟨_, rfl⟩
   have eor : bits .or .u64 (hi * 16) (lo / 1152921504606846976) = U := by rw [or_low hi lo h0 h1 l0 l1, hU]
   have ew : IntKind.u64.wrap (lo * 16) = V := by rw [IntKind.wrap_u64, hV]
   have bU0 : 0 ≤ U := by omega
   have bU1 : U < 16000000000000000000 := by omega
   have bV0 : 0 ≤ V := by omega
   have bV1 : V < 18446744073709551616 := by omega
   have b10 : 0 ≤ V1 := by omega
   have b11 : V1 < 4294967296 := by omega
   have b00 : 0 ≤ V0 := by omega
   have b01 : V0 < 4294967296 := by omega
   have bQ0 : 0 ≤ Q := by omega
   have bQ1 : Q ≤ 4294967297 := by omega
   have em : bits .and .u64 V 4294967295 = V0 := by rw [mask_low V bV0 bV1, hV0]
   have ed : V / 4294967296 = V1 := hV1.symm;have ec : bits .and .u64 16000000000000000000 4294967295 = 1983905792 := by rw [mask_low _ (by omega) (by omega)]; rfl
   have eq : U / 3725290298 = Q := hQ.symm;have HU := Lib.hid hU; have HV := Lib.hid hV; have HV1 := Lib.hid hV1; have HV0 := Lib.hid hV0; have HQ := Lib.hid hQ;have bR0 : 0 ≤ U - Q * 3725290298 := by omega
   have bR1 : U - Q * 3725290298 < 3725290298 := by omega
   clear hU hV hV1 hV0 hQ;go_enter Tryz.func93, Tryz.ntmps93
   go_upto_block 0 with (go_at_call 125; refine (lead_base _).mono ?_; rintro e w' ⟨rfl, rfl⟩)
   clear eq eor ew em ed ec;go_cut [15] (fun v wx => v = .int .u64 ((U * 4294967296 + V1) / 16000000000000000000) ∧ w = wx)
   case first =>
    go_wp2_with fail
    go_loop [15, 16] (fun qv rv => ∃ q r : Int, qv = .int .u64 q ∧ rv = .int .u64 r ∧ 0 ≤ q ∧ q ≤ 4294967297 ∧ 0 ≤ r ∧ r < 4294967296 ∧ Hid (q * 3725290298 + r = U) ∧ Hid ((U * 4294967296 + V1) / 16000000000000000000 ≤ q)) (fun qv _ => (RowKit.intOf qv).toNat)
    case atStart => exact ⟨Q, U - Q * 3725290298, by rw [HQ.out], rfl, bQ0, bQ1, bR0, by omega, by show _ = _; omega, by have := HQ.out; show _ ≤ _; omega⟩
    case round =>
     obtain ⟨q, r, rfl, rfl, hq0, hq1, hr0, hr1, HQR, HLE⟩ := hrel;by_cases hA : 4294967296 ≤ q
     · have hdn := zdv bU0 bU1 b10 b11 HQR.out (Or.inl hA);have hqp : 1 ≤ q := by omega
       have HDN := Lib.hid hdn;have HQ2 : Hid ((q - 1) * 3725290298 + (r + 3725290298) = U) := by have := HQR.out; show _ = _; omega
       clear hdn;by_cases hB : 4294967296 ≤ r + 3725290298
       · have hend := xl bU0 bU1 b10 b11 HQ2.out (by omega) HDN.out (by omega);have HEND := Lib.hid hend;clear hend;go_wp2
         go_meet
         exact ⟨by rw [HEND.out], rfl⟩
       · go_wp2
         go_round
         case rel => exact ⟨q - 1, r + 3725290298, rfl, rfl, by omega, by omega, by omega, by omega, HQ2, HDN⟩
         case measure => simp [RowKit.intOf]; omega
     · by_cases hT : 4294967296 * r + V1 < q * 1983905792
       · have hdn := zdv bU0 bU1 b10 b11 HQR.out (Or.inr hT);have hqp : 1 ≤ q := by omega
         have HDN := Lib.hid hdn;have HQ2 : Hid ((q - 1) * 3725290298 + (r + 3725290298) = U) := by have := HQR.out; show _ = _; omega
         clear hdn;by_cases hB : 4294967296 ≤ r + 3725290298
         · have hend := xl bU0 bU1 b10 b11 HQ2.out (by omega) HDN.out (by omega);have HEND := Lib.hid hend;clear hend;go_wp2
           go_meet
           exact ⟨by rw [HEND.out], rfl⟩
         · go_wp2
           go_round
           case rel => exact ⟨q - 1, r + 3725290298, rfl, rfl, by omega, by omega, by omega, by omega, HQ2, HDN⟩
           case measure => simp [RowKit.intOf]; omega
       · have hend := xl bU0 bU1 b10 b11 HQR.out hr0 HLE.out (by omega);have HEND := Lib.hid hend;clear hend;go_wp2
         go_meet
         exact ⟨by rw [HEND.out], rfl⟩
   case rest =>
    obtain ⟨rfl, rfl⟩ := hcut;obtain ⟨P, hP⟩ : ∃ P, P = (U * 4294967296 + V1) / 16000000000000000000 := ⟨_, rfl⟩;obtain ⟨T, hT⟩ : ∃ T, T = (U * 4294967296 + V1) % 16000000000000000000 := ⟨_, rfl⟩;rw [← hP];have bP0 : 0 ≤ P := by omega
    have bP1 : P < 4294967296 := by omega
    have bT0 : 0 ≤ T := by omega
    have bT1 : T < 16000000000000000000 := by omega
    obtain ⟨Q2, hQ2⟩ : ∃ Q2, Q2 = T / 3725290298 := ⟨_, rfl⟩;have cQ0 : 0 ≤ Q2 := by omega
    have cQ1 : Q2 ≤ 4294967297 := by omega
    have cR0 : 0 ≤ T - Q2 * 3725290298 := by omega
    have cR1 : T - Q2 * 3725290298 < 3725290298 := by omega
    obtain ⟨X1, hX1⟩ : ∃ X, X = IntKind.u64.wrap (U * 4294967296) := ⟨_, rfl⟩;obtain ⟨X2, hX2⟩ : ∃ X, X = IntKind.u64.wrap (X1 + V1) := ⟨_, rfl⟩;obtain ⟨X3, hX3⟩ : ∃ X, X = IntKind.u64.wrap (P * 16000000000000000000) := ⟨_, rfl⟩;have e4 : IntKind.u64.wrap (X2 - X3) = T := by rw [hX2, hX3, hX1]; simp only [IntKind.wrap_u64]; omega
    have e1 := hX1.symm; have e2 := hX2.symm; have e3 := hX3.symm;have hX1b : 0 ≤ X1 ∧ X1 < 18446744073709551616 := by rw [hX1]; simp only [IntKind.wrap_u64]; omega
    have hX2b : 0 ≤ X2 ∧ X2 < 18446744073709551616 := by rw [hX2]; simp only [IntKind.wrap_u64]; omega
    have hX3b : 0 ≤ X3 ∧ X3 < 18446744073709551616 := by rw [hX3]; simp only [IntKind.wrap_u64]; omega
    have HP := Lib.hid hP; have HT := Lib.hid hT; have HQ2e := Lib.hid hQ2;clear hP hT hQ2 hX1 hX2 hX3;go_upto_block 2 with fail
    clear e1 e2 e3 e4 hX1b hX2b hX3b;go_cut [18] (fun v wx => v = .int .u64 ((T * 4294967296 + V0) / 16000000000000000000) ∧ w = wx)
    case first =>
     go_wp2_with fail
     go_loop [18, 16] (fun qv rv => ∃ q r : Int, qv = .int .u64 q ∧ rv = .int .u64 r ∧ 0 ≤ q ∧ q ≤ 4294967297 ∧ 0 ≤ r ∧ r < 4294967296 ∧ Hid (q * 3725290298 + r = T) ∧ Hid ((T * 4294967296 + V0) / 16000000000000000000 ≤ q)) (fun qv _ => (RowKit.intOf qv).toNat)
     case atStart => exact ⟨Q2, T - Q2 * 3725290298, by rw [HQ2e.out], by rw [HQ2e.out], cQ0, cQ1, cR0, by omega, by show _ = _; omega, by have := HQ2e.out; show _ ≤ _; omega⟩
     case round =>
      obtain ⟨q, r, rfl, rfl, hq0, hq1, hr0, hr1, HQR, HLE⟩ := hrel;by_cases hA : 4294967296 ≤ q
      · have hdn := zdv bT0 bT1 b00 b01 HQR.out (Or.inl hA);have hqp : 1 ≤ q := by omega
        have HDN := Lib.hid hdn;have HQ2 : Hid ((q - 1) * 3725290298 + (r + 3725290298) = T) := by have := HQR.out; show _ = _; omega
        clear hdn;by_cases hB : 4294967296 ≤ r + 3725290298
        · have hend := xl bT0 bT1 b00 b01 HQ2.out (by omega) HDN.out (by omega);have HEND := Lib.hid hend;clear hend;go_wp2
          go_meet
          exact ⟨by rw [HEND.out], rfl⟩
        · go_wp2
          go_round
          case rel => exact ⟨q - 1, r + 3725290298, rfl, rfl, by omega, by omega, by omega, by omega, HQ2, HDN⟩
          case measure => simp [RowKit.intOf]; omega
      · by_cases hT : 4294967296 * r + V0 < q * 1983905792
        · have hdn := zdv bT0 bT1 b00 b01 HQR.out (Or.inr hT);have hqp : 1 ≤ q := by omega
          have HDN := Lib.hid hdn;have HQ2 : Hid ((q - 1) * 3725290298 + (r + 3725290298) = T) := by have := HQR.out; show _ = _; omega
          clear hdn;by_cases hB : 4294967296 ≤ r + 3725290298
          · have hend := xl bT0 bT1 b00 b01 HQ2.out (by omega) HDN.out (by omega);have HEND := Lib.hid hend;clear hend;go_wp2
            go_meet
            exact ⟨by rw [HEND.out], rfl⟩
          · go_wp2
            go_round
            case rel => exact ⟨q - 1, r + 3725290298, rfl, rfl, by omega, by omega, by omega, by omega, HQ2, HDN⟩
            case measure => simp [RowKit.intOf]; omega
        · have hend := xl bT0 bT1 b00 b01 HQR.out hr0 HLE.out (by omega);have HEND := Lib.hid hend;clear hend;go_wp2
          go_meet
          exact ⟨by rw [HEND.out], rfl⟩
    case rest =>
     obtain ⟨rfl, rfl⟩ := hcut;obtain ⟨P2, hP2⟩ : ∃ P, P = (T * 4294967296 + V0) / 16000000000000000000 := ⟨_, rfl⟩;obtain ⟨T2, hT2⟩ : ∃ T2, T2 = (T * 4294967296 + V0) % 16000000000000000000 := ⟨_, rfl⟩;rw [← hP2];have cP0 : 0 ≤ P2 := by omega
     have cP1 : P2 < 4294967296 := by omega
     have cT0 : 0 ≤ T2 := by omega
     have cT1 : T2 < 16000000000000000000 := by omega
     obtain ⟨X1, hX1⟩ : ∃ X, X = IntKind.u64.wrap (T * 4294967296) := ⟨_, rfl⟩;obtain ⟨X2, hX2⟩ : ∃ X, X = IntKind.u64.wrap (X1 + V0) := ⟨_, rfl⟩;obtain ⟨X3, hX3⟩ : ∃ X, X = IntKind.u64.wrap (P2 * 16000000000000000000) := ⟨_, rfl⟩;have e4 : IntKind.u64.wrap (X2 - X3) = T2 := by rw [hX2, hX3, hX1]; simp only [IntKind.wrap_u64]; omega
     have e1 := hX1.symm; have e2 := hX2.symm; have e3 := hX3.symm;have hX1b : 0 ≤ X1 ∧ X1 < 18446744073709551616 := by rw [hX1]; simp only [IntKind.wrap_u64]; omega
     have hX2b : 0 ≤ X2 ∧ X2 < 18446744073709551616 := by rw [hX2]; simp only [IntKind.wrap_u64]; omega
     have hX3b : 0 ≤ X3 ∧ X3 < 18446744073709551616 := by rw [hX3]; simp only [IntKind.wrap_u64]; omega
     have hfin : P * 4294967296 + P2 = (hi * 18446744073709551616 + lo) / 1000000000000000000 ∧ T2 / 16 = (hi * 18446744073709551616 + lo) % 1000000000000000000 := by
      have a1 := HU.out; have a2 := HV.out; have a3 := HV1.out; have a4 := HV0.out; have a5 := HP.out; have a6 := HT.out;omega
     obtain ⟨f1, f2⟩ := hfin;have F1 := Lib.hid f1; have F2 := Lib.hid f2;have bF : P * 4294967296 + P2 < 18446744073709551616 := by omega
     clear hP2 hT2 hX1 hX2 hX3 f1 f2;go_wp2
     go_ret2
     exact ⟨by rw [F1.out, F2.out]; rfl, 0, rfl⟩
end Go.Proofs.YtaleikoeklemmaaGreatDoor
namespace Go.Proofs.YtaleikoeklemmaaGreatDoor
open Go.RowKit
theorem fits_out (neg : Bool) (A : Option Addr) (c : Nat) (xs : List Nat) (w : World) (hx : Nums w A xs) (hs : ye B18 xs) (hl : xs.length ≤ 1048576) :
 Calls Tryz.prog 126 #[.bool neg, .slice A xs.length c] w (yw w (outV true (sgn neg (val B18 xs))) (outE true (sgn neg (val B18 xs)))) := by
 rcases Nat.lt_or_ge (val B18 xs) (B18 ^ 30) with h | h
 · rw [oc (by rw [vk]; exact h), od (by rw [vk]; exact h)]; exact zsq neg A c xs w hx hs hl h
 · rw [outV_big (by rw [vk]; exact h), zqk (by rw [vk]; exact h)]; exact fits_no neg A c xs w hx hs hl h
theorem mul_step {ys zs : List Nat} {k j u t C X : Nat} (hz : k + j < zs.length) (h : val B18 zs + B18 ^ (k + j) * u = C + B18 ^ k * (X * val B18 (ys.take j))) (ht : t = X * ys.getD j 0 + zs.getD (k + j) 0 + u) :
 val B18 (zs.set (k + j) (t % B18)) + B18 ^ (k + (j + 1)) * (t / B18) = C + B18 ^ k * (X * val B18 (ys.take (j + 1))) := by
 have h1 := zbv (b := B18) zs (k + j) (t % B18) hz;have h2 : B18 ^ (k + (j + 1)) * (t / B18) = B18 ^ (k + j) * (B18 * (t / B18)) := by rw [← Nat.add_assoc, Nat.pow_succ, Nat.mul_assoc]
 have h3 : B18 ^ (k + j) * (t % B18) + B18 ^ (k + j) * (B18 * (t / B18)) = B18 ^ (k + j) * t := by rw [← Nat.mul_add, Nat.mod_add_div]
 have h4 : B18 ^ (k + j) * t = B18 ^ (k + j) * (X * ys.getD j 0) + B18 ^ (k + j) * zs.getD (k + j) 0 + B18 ^ (k + j) * u := by rw [ht, Nat.mul_add, Nat.mul_add]
 have h5 : B18 ^ k * (X * val B18 (ys.take (j + 1))) = B18 ^ k * (X * val B18 (ys.take j)) + B18 ^ (k + j) * (X * ys.getD j 0) := by
  rw [ym, Nat.mul_add, Nat.mul_add, Nat.pow_add, Nat.mul_left_comm X, Nat.mul_assoc (B18 ^ k)]
 omega
theorem mul_close {xs ys zs : List Nat} {k u : Nat} (hz : k + ys.length < zs.length) (h0 : zs.getD (k + ys.length) 0 = 0)
 (h : val B18 zs + B18 ^ (k + ys.length) * u = val B18 (xs.take k) * val B18 ys + B18 ^ k * (xs.getD k 0 * val B18 (ys.take ys.length))) :
 val B18 (zs.set (k + ys.length) u) = val B18 (xs.take (k + 1)) * val B18 ys := by
 have h1 := zbv (b := B18) zs (k + ys.length) u hz;rw [h0, Nat.mul_zero, Nat.add_zero] at h1;rw [h1, h, List.take_length, ym, Nat.add_mul, Nat.mul_assoc]
def ThreeB (w : World) (n1 n2 : Bool) (A B : Option Addr) (c d : Nat) (xs ys : List Nat) (b : World) : Prop :=
 Two w n1 n2 A B c d xs ys b ∧ (b.cell? ⟨w.heap.size + 1 + 1, 0, none⟩ = some (.bool false) ∧ b.cell? ⟨w.heap.size + 1 + 1, 1, none⟩ = some (.slice none 0 0) ∧ b.frozen? ⟨w.heap.size + 1 + 1, 0, none⟩ = false ∧ b.frozen? ⟨w.heap.size + 1 + 1, 1, none⟩ = false)
def xo (w : World) (n1 n2 : Bool) (A B : Option Addr) (c d : Nat) (xs ys : List Nat) : World := (two w n1 n2 A B c d xs ys).alloc (.cells #[.bool false, .slice none 0 0] 24)
theorem zpk (w : World) (n1 n2 : Bool) (A B : Option Addr) (c d : Nat) (xs ys : List Nat) : Below w.heap.size w (xo w n1 n2 A B c d xs ys) :=
 (zjx w n1 n2 A B c d xs ys).alloc (zjx w n1 n2 A B c d xs ys).size _
theorem yax (w : World) (n1 n2 : Bool) (A B : Option Addr) (c d : Nat) (xs ys : List Nat) : (xo w n1 n2 A B c d xs ys).heap.size = w.heap.size + 3 := by simp [xo, two]
theorem zpq {w b : World} {n1 n2 : Bool} {A B : Option Addr} {c d : Nat} {xs ys : List Nat} (hx : Nums w A xs) (hy : Nums w B ys) (hb : Below (xo w n1 n2 A B c d xs ys).heap.size (xo w n1 n2 A B c d xs ys) b) : ThreeB w n1 n2 A B c d xs ys b := by
 have k : Below (two w n1 n2 A B c d xs ys).heap.size (two w n1 n2 A B c d xs ys) (xo w n1 n2 A B c d xs ys) := (Below.refl _ _).alloc (Nat.le_refl _) _;have Z : Blk (xo w n1 n2 A B c d xs ys) (w.heap.size + 1 + 1) 24 #[.bool false, .slice none 0 0] := Blk.newAt (by simp [two]);exact ⟨two_since hx hy (kz k hb), (Z.below hb Z.lt).two⟩
section
variable (n1 n2 : Bool) (A B : Option Addr) (c d : Nat) (xs ys : List Nat) (w : World)
set_option maxRecDepth 100000
set_option maxHeartbeats 1000000 in
theorem mul_bad (hx : Nums w A xs) (hy : Nums w B ys) (hl : xs.length ≤ 9223372036854775807) (hl' : ys.length ≤ 9223372036854775807) (hok : (yb n1 xs && yb n2 ys) = false) :
 Calls Tryz.prog 97 #[.agg #[.bool n1, .slice A xs.length c], .agg #[.bool n2, .slice B ys.length d]] w (yw w 0 3) := by
 obtain ⟨W0, hW0⟩ : ∃ W0, W0 = xo w n1 n2 A B c d xs ys := ⟨_, rfl⟩;have LW : Below w.heap.size w W0 := by rw [hW0]; exact zpk ..
 have HWs : Hid (W0.heap.size = w.heap.size + 3) := by rw [hW0]; exact yax ..
 have HF : Hid (∀ b1, Below W0.heap.size W0 b1 → ThreeB w n1 n2 A B c d xs ys b1) := fun b1 hb => by rw [hW0] at hb; exact zpq hx hy hb
 have hg1 := fun w hx => yv n1 c w A xs hl hx;have hg2 := fun w hy => yv n2 d w B ys hl' hy;clear hx hy;unfold xo two at hW0;have L : Below W0.heap.size W0 W0 := Below.refl _ _;obtain ⟨⟨⟨x0, x1, y0, y1⟩, hx, hy⟩, r0, r1, r2, r3⟩ := HF.out _ L;go_enter Tryz.func97, Tryz.ntmps97
 cases h1 : yb n1 xs
 · rw [h1] at hg1;clear hok h1;go_upto_region 1 with fail
   rw [← hW0];clear hW0;go_wp2_with (go_at_call 47; refine (hg1 _ hx).mono ?_; rintro e w1 ⟨rfl, hb⟩; have L := kz L hb; clear x0 x1 y0 y1 hx hy r0 r1 r2 r3 hb; obtain ⟨⟨⟨x0, x1, y0, y1⟩, hx, hy⟩, r0, r1, r2, r3⟩ := HF.out _ L)
   refine bodyPost_ret (v := .tuple #[.agg #[.bool false, .slice none 0 0], .int .i64 3]) (by simp [results, Tryz.results97, go_sem, r0, r1]) rfl ?_;exact zsk (LW.trans (L.mono LW.size)) (by omega) _ _
 · rw [h1, Bool.true_and] at hok;rw [h1] at hg1;rw [hok] at hg2;clear hok h1;go_upto_region 1 with fail
   rw [← hW0];clear hW0;go_wp2_with (go_at_call 47; refine (hg1 _ hx).mono ?_; rintro e w1 ⟨rfl, hb⟩; have L := kz L hb; clear x0 x1 y0 y1 hx hy r0 r1 r2 r3 hb; obtain ⟨⟨⟨x0, x1, y0, y1⟩, hx, hy⟩, r0, r1, r2, r3⟩ := HF.out _ L; refine Hid.out ?_)
   refine Lib.hid ?_;go_wp2_with (go_at_call 47; refine (hg2 _ hy).mono ?_; rintro e w1 ⟨rfl, hb⟩; have L := kz L hb; clear x0 x1 y0 y1 hx hy r0 r1 r2 r3 hb; obtain ⟨⟨⟨x0, x1, y0, y1⟩, hx, hy⟩, r0, r1, r2, r3⟩ := HF.out _ L)
   refine bodyPost_ret (v := .tuple #[.agg #[.bool false, .slice none 0 0], .int .i64 3]) (by simp [results, Tryz.results97, go_sem, r0, r1]) rfl ?_;exact zsk (LW.trans (L.mono LW.size)) (by omega) _ _
theorem mul_bound {p z u : Int} (p0 : 0 ≤ p) (p1 : p ≤ 999999999999999999 * 999999999999999999) (z0 : 0 ≤ z) (z1 : z < 1000000000000000000) (u0 : 0 ≤ u) (u1 : u < 1000000000000000000) :
 0 ≤ p / 18446744073709551616 ∧ p / 18446744073709551616 < 1000000000000000000 ∧
 (p / 18446744073709551616 + (p % 18446744073709551616 + z) / 18446744073709551616 + ((p % 18446744073709551616 + z) % 18446744073709551616 + u) / 18446744073709551616) * 18446744073709551616 + ((p % 18446744073709551616 + z) % 18446744073709551616 + u) % 18446744073709551616 = p + z + u ∧
 (p + z + u) / 1000000000000000000 < 1000000000000000000 ∧
 p / 18446744073709551616 + (p % 18446744073709551616 + z) / 18446744073709551616 + ((p % 18446744073709551616 + z) % 18446744073709551616 + u) / 18446744073709551616 < 1000000000000000000 := by
 refine ⟨by omega, by omega, by omega, by omega, by omega⟩
theorem val_rep (b n : Nat) : val b (List.replicate n 0) = 0 := by
 induction n with
 | zero => rfl
 | succ n ih => rw [List.replicate_succ, val, ih]; simp
theorem mul64_int (x y : Int) (h0 : 0 ≤ x) (h1 : x < 18446744073709551616) (k0 : 0 ≤ y) (k1 : y < 18446744073709551616) (w : World) :
 Calls Tryz.prog 62 #[.int .u64 x, .int .u64 y] w fun e w' => e = .returned (.tuple #[.int .u64 (x * y / 18446744073709551616), .int .u64 (x * y % 18446744073709551616)]) ∧ w' = w := by
 obtain ⟨a, rfl⟩ := Int.eq_ofNat_of_zero_le h0;obtain ⟨b, rfl⟩ := Int.eq_ofNat_of_zero_le k0;refine (mul64_any a b (by omega) (by omega) w).mono fun e w' h => ?_;obtain ⟨rfl, rfl⟩ := h;rw [← Int.natCast_mul];exact ⟨by congr 1, rfl⟩
theorem nth_mul_le {xs ys : List Nat} (hs : ye B18 xs) (ht : ye B18 ys) (k j : Nat) : 0 ≤ nth xs k * nth ys j ∧ nth xs k * nth ys j ≤ 999999999999999999 * 999999999999999999 := by
 have a0 := yn xs k; have b0 := yn ys j;have a1 := qu (by unfold B18; omega) hs k; have b1 := qu (by unfold B18; omega) ht j;rw [B18_eq] at a1 b1;refine ⟨Int.mul_nonneg a0 b0, Int.mul_le_mul (by omega) (by omega) b0 (by omega)⟩
set_option maxHeartbeats 2000000 in
theorem mul_good (hx : Nums w A xs) (hy : Nums w B ys) (hg : yb n1 xs = true) (hk : yb n2 ys = true) :
 Calls Tryz.prog 97 #[.agg #[.bool n1, .slice A xs.length c], .agg #[.bool n2, .slice B ys.length d]] w (yw w (outV true (num n1 xs * num n2 ys)) (outE true (num n1 xs * num n2 ys))) := by
 obtain ⟨hs, _, hl, _⟩ := qe hg;obtain ⟨ht, _, hl', _⟩ := qe hk;have hprod : ∀ v, v = val B18 xs * val B18 ys → sgn (n1 != n2) v = num n1 xs * num n2 ys := fun v hv => by
  rw [hv, vw, vw]; unfold sgn; cases n1 <;> cases n2 <;> simp [Int.natCast_mul, Int.neg_mul, Int.mul_neg]
 have HP := Lib.hid hprod; have HS := Lib.hid hs; have HT := Lib.hid ht;obtain ⟨q, hq⟩ : ∃ q, q = num n1 xs * num n2 ys := ⟨_, rfl⟩;rw [← hq] at HP ⊢;obtain ⟨W0, hW0⟩ : ∃ W0, W0 = xo w n1 n2 A B c d xs ys := ⟨_, rfl⟩;have LW : Below w.heap.size w W0 := by rw [hW0]; exact zpk ..
 have HWs : Hid (W0.heap.size = w.heap.size + 3) := by rw [hW0]; exact yax ..
 have HF : Hid (∀ b1, Below W0.heap.size W0 b1 → ThreeB w n1 n2 A B c d xs ys b1) := fun b1 hb => by rw [hW0] at hb; exact zpq hx hy hb
 have hg1 := fun w hx => yv n1 c w A xs (by omega) hx;have hg2 := fun w hy => yv n2 d w B ys (by omega) hy;rw [hg] at hg1;rw [hk] at hg2;clear hx hy hq hprod hs ht hg hk;unfold xo two at hW0;have L : Below W0.heap.size W0 W0 := Below.refl _ _;obtain ⟨⟨⟨x0, x1, y0, y1⟩, hx, hy⟩, r0, r1, r2, r3⟩ := HF.out _ L;go_enter Tryz.func97, Tryz.ntmps97
 go_upto_region 1 with fail
 rw [← hW0];clear hW0;go_wp2_with (go_at_call 47; refine (hg1 _ hx).mono ?_; rintro e w1 ⟨rfl, hb⟩; have L := kz L hb; clear x0 x1 y0 y1 hx hy r0 r1 r2 r3 hb; obtain ⟨⟨⟨x0, x1, y0, y1⟩, hx, hy⟩, r0, r1, r2, r3⟩ := HF.out _ L; refine Hid.out ?_)
 refine Lib.hid ?_;go_wp2_with (go_at_call 47; refine (hg2 _ hy).mono ?_; rintro e w1 ⟨rfl, hb⟩; have L := kz L hb; clear x0 x1 y0 y1 hx hy r0 r1 r2 r3 hb; obtain ⟨⟨⟨x0, x1, y0, y1⟩, hx, hy⟩, r0, r1, r2, r3⟩ := HF.out _ L; refine Hid.out ?_)
 refine Lib.hid ?_;clear hg1 hg2;obtain ⟨N, hN⟩ : ∃ N : Nat, N = xs.length + ys.length + 1 := ⟨_, rfl⟩;have hmk := zhq N (by omega);have hNi : ((xs.length : Int) + (ys.length : Int) + 1) = (N : Int) := by omega
 have HN := Lib.hid hN;have hNb : N ≤ 61 := by omega
 clear hN;go_upto_region 4 with fail
 obtain ⟨g, hg⟩ : ∃ g, g = w1.heap.size := ⟨_, rfl⟩;obtain ⟨W1, hW1⟩ : ∃ W1, W1 = w1.alloc (.cells (madeCells #[.int .u64 0] N) 25) := ⟨_, rfl⟩;have k1 : Below w1.heap.size w1 W1 := by rw [hW1]; exact (Below.refl _ _).alloc (Nat.le_refl _) _
 have hrow : Row W1 g N (List.replicate N 0) := by
  have h := (Row.made w1 N).fill;rw [← hW1, ← hg] at h;simpa using h
 have hWg : W1.heap.size = g + 1 := by rw [hW1, hg]; simp
 have hgW : W0.heap.size ≤ g := by rw [hg]; exact L.size
 have L := kz L k1;rw [← hg, ← hW1];clear x0 x1 y0 y1 hx hy r0 r1 r2 r3 hmk hNi hg hW1 k1;obtain ⟨⟨⟨x0, x1, y0, y1⟩, hx, hy⟩, r0, r1, r2, r3⟩ := HF.out _ L;go_wp2_with fail
 clear x0 x1 y0 y1 hx hy r0 r1 r2 r3;go_loopw [34] (fun iv wr => ∃ (k : Nat) (zs : List Nat), k ≤ xs.length ∧ iv = .int .i64 k ∧ Row wr g N zs ∧ zs.length = N ∧ ye B18 zs ∧ Hid (val B18 zs = val B18 (xs.take k) * val B18 ys) ∧ Hid (∀ p, k + ys.length ≤ p → nth zs p = 0) ∧ Below W0.heap.size W0 wr) (fun iv _ => xs.length - (intOf iv).toNat)
 case atStart => exact ⟨0, List.replicate N 0, by omega, rfl, hrow, by simp, by intro x hx; rw [List.eq_of_mem_replicate hx]; unfold B18; omega, by show _ = _; rw [val_rep, List.take_zero]; simp [val], fun p _ => nth_replicate _ _, L⟩
 case round =>
  obtain ⟨k, zs, hk, rfl, hrw, hzl, hzs, HV, HZ, hbel⟩ := hrel;obtain ⟨⟨⟨x0, x1, y0, y1⟩, hx, hy⟩, r0, r1, r2, r3⟩ := HF.out _ hbel;by_cases hkn : k < xs.length
  · obtain ⟨wo, rfl⟩ : ∃ wo : World, wo = wr := ⟨_, rfl⟩;have hm1 : (k : Int) < (xs.length : Int) := by omega
    have HX0 : Hid (val B18 zs + B18 ^ (k + 0) * (0 : Int).toNat = val B18 (xs.take k) * val B18 ys + B18 ^ k * (xs.getD k 0 * val B18 (ys.take 0))) := by
     show _ = _; rw [HV.out]; simp [val]
    go_wp2_with fail
    clear x0 x1 y0 y1 hx hy r0 r1 r2 r3;go_loopw [8, 40] (fun cv jv wi => ∃ (j : Nat) (u : Int) (qs : List Nat), j ≤ ys.length ∧ jv = .int .i64 j ∧ cv = .int .u64 u ∧ 0 ≤ u ∧ u < 1000000000000000000 ∧ Row wi g N qs ∧ qs.length = N ∧ ye B18 qs ∧
     Hid (val B18 qs + B18 ^ (k + j) * u.toNat = val B18 (xs.take k) * val B18 ys + B18 ^ k * (xs.getD k 0 * val B18 (ys.take j))) ∧ Hid (∀ p, k + ys.length ≤ p → nth qs p = 0) ∧ Below W0.heap.size W0 wi) (fun _ jv _ => ys.length - (intOf jv).toNat)
    case atStart => exact ⟨0, 0, zs, by omega, rfl, rfl, by omega, by omega, hrw, hzl, hzs, HX0, HZ, hbel⟩
    case round =>
     obtain ⟨j, u, qs, hj, rfl, rfl, hu0, hu1, hrq, hql, hqs, HQ, HZ2, hbel2⟩ := hrel;obtain ⟨⟨⟨x0, x1, y0, y1⟩, hx, hy⟩, r0, r1, r2, r3⟩ := HF.out _ hbel2;by_cases hjn : j < ys.length
     · have hN1 := HN.out;obtain ⟨b, o, rfl, hb, hc⟩ := hx.2 (by omega);obtain ⟨b', o', rfl, hb', hc'⟩ := hy.2 (by omega);have hcx := hc k hkn;have hcy := hc' j hjn;have hcz := hrq.cell (j := k + j) (by omega);have hm2 : (j : Int) < (ys.length : Int) := by omega
       have hk0 : (0 : Int) ≤ (k : Int) := by omega
       have hj0 : (0 : Int) ≤ (j : Int) := by omega
       have hnx := yn xs k; have hny := yn ys j; have hnz := yn qs (k + j);have hlx := qu (by unfold B18; omega) HS.out k; have hly := qu (by unfold B18; omega) HT.out j; have hlz := qu (by unfold B18; omega) hqs (k + j);rw [B18_eq] at hlx hly hlz;obtain ⟨p0, p1⟩ := nth_mul_le HS.out HT.out k j;obtain ⟨P, hP⟩ : ∃ P, P = nth xs k * nth ys j := ⟨_, rfl⟩
       rw [← hP] at p0 p1;obtain ⟨m1, m2, m3, m4, m5⟩ := mul_bound p0 p1 hnz hlz hu0 hu1;have hmul := fun w => mul64_int (nth xs k) (nth ys j) hnx (by omega) hny (by omega) w;rw [← hP] at hmul;obtain ⟨h0, hh0⟩ : ∃ h0, h0 = P / 18446744073709551616 := ⟨_, rfl⟩;obtain ⟨l0, hl0⟩ : ∃ l0, l0 = P % 18446744073709551616 := ⟨_, rfl⟩;rw [← hh0, ← hl0] at hmul
       obtain ⟨l1, hl1⟩ : ∃ l1, l1 = (l0 + nth qs (k + j)) % 18446744073709551616 := ⟨_, rfl⟩;obtain ⟨c1, hc1⟩ : ∃ c1, c1 = (l0 + nth qs (k + j)) / 18446744073709551616 := ⟨_, rfl⟩;obtain ⟨l2, hl2⟩ : ∃ l2, l2 = (l1 + u) % 18446744073709551616 := ⟨_, rfl⟩;obtain ⟨c2, hc2⟩ : ∃ c2, c2 = (l1 + u) / 18446744073709551616 := ⟨_, rfl⟩;have b1 : 0 ≤ l0 := by omega
       have b2 : 0 ≤ l1 := by omega
       have b3 : 0 ≤ l2 ∧ l2 < 18446744073709551616 := by omega
       have b4 : 0 ≤ c1 := by omega
       have b5 : 0 ≤ c2 := by omega
       have ha1 : ∀ w, (callFunc 64 #[.int .u64 l0, .int .u64 (nth qs (k + j)), .int .u64 0]).run Tryz.prog w = .ok (.value (.tuple #[.int .u64 l1, .int .u64 c1])) w := fun w => by rw [add64_run l0 _ b1 hnz, hl1, hc1]
       have ha2 : ∀ w, (callFunc 64 #[.int .u64 l1, .int .u64 u, .int .u64 0]).run Tryz.prog w = .ok (.value (.tuple #[.int .u64 l2, .int .u64 c2])) w := fun w => by rw [add64_run l1 _ b2 hu0, hl2, hc2]
       rw [← hh0, ← hl0, ← hl1, ← hc1, ← hl2, ← hc2] at m3;rw [← hh0, ← hl0, ← hl1, ← hc1, ← hc2] at m5;rw [← hh0] at m1 m2;have hdv := fun w => div64_base (h0 + c1 + c2) l2 (by omega) m5 b3.1 b3.2 w;rw [m3] at hdv;obtain ⟨T, hT⟩ : ∃ T, T = P + nth qs (k + j) + u := ⟨_, rfl⟩;rw [← hT] at hdv m4;obtain ⟨Q, hQ⟩ : ∃ Q, Q = T / 1000000000000000000 := ⟨_, rfl⟩
       obtain ⟨R, hR⟩ : ∃ R, R = T % 1000000000000000000 := ⟨_, rfl⟩;rw [← hQ, ← hR] at hdv;rw [← hQ] at m4;have hQ0 : 0 ≤ Q := by omega
       have hR0 : 0 ≤ R := by omega
       have hR1 : R < 1000000000000000000 := by omega
       have HST : Hid (val B18 (qs.set (k + j) R.toNat) + B18 ^ (k + (j + 1)) * Q.toNat = val B18 (xs.take k) * val B18 ys + B18 ^ k * (xs.getD k 0 * val B18 (ys.take (j + 1)))) := by
        have hTn : T.toNat = xs.getD k 0 * ys.getD j 0 + qs.getD (k + j) 0 + u.toNat := by
         have e1 : P = ((xs.getD k 0 * ys.getD j 0 : Nat) : Int) := by rw [hP]; unfold nth; rw [← Int.natCast_mul]
         have e2 : nth qs (k + j) = ((qs.getD (k + j) 0 : Nat) : Int) := by unfold nth; rfl
         rw [hT, e1, e2]; omega
        have h := mul_step (zs := qs) (k := k) (j := j) (ys := ys) (by omega) HQ.out hTn;have e3 : R.toNat = T.toNat % B18 := by rw [hR]; unfold B18; omega
        have e4 : Q.toNat = T.toNat / B18 := by rw [hQ]; unfold B18; omega
        show _ = _; rw [e3, e4]; exact h
       have hfz := hrq.frozen (k + j);have hkj : (k : Int) + (j : Int) < (N : Int) := by omega
       have hkj0 : (0 : Int) ≤ (k : Int) + (j : Int) := by omega
       have hw64 : IntKind.i64.wrap ((k : Int) + (j : Int)) = (k : Int) + (j : Int) := IntWalk.i64_in _ (by omega);clear hc hc' hP hh0 hl0 hl1 hc1 hl2 hc2 hT hQ hR m3 hN1 p0 p1;go_wp2_with fail
       go_quiet ((go_at_call 62; exact Calls.quiet_of_same (hmul _)))
       go_wp2_with (go_at_call 93; refine (hdv _).mono ?_; rintro e w' ⟨rfl, nd, rfl⟩)
       go_roundw
       case rel => exact ⟨j + 1, Q, qs.set (k + j) R.toNat, by omega, by go_num, rfl, hQ0, m4, by first | exact (hrq.drewN _).setInt R hR0 (by omega) | exact ((hrq.drewN _).drewN _).setInt R hR0 (by omega), by rw [List.length_set]; exact hql, vb hqs _ _ (by unfold B18; omega), HST,
        fun p hp => by rw [ycv _ _ _ (by omega), if_neg (by omega)]; exact HZ2.out p hp, by first | exact (vg hbel2 _).setCell hgW _ | exact (vg (vg hbel2 _) _).setCell hgW _⟩
       case measure => simp [intOf]; omega
     · obtain rfl : j = ys.length := by omega
       have hN1 := HN.out;have hcz := hrq.cell (j := k + ys.length) (by omega);have hz0 : nth qs (k + ys.length) = 0 := HZ2.out _ (Nat.le_refl _);rw [hz0] at hcz;have hfz := hrq.frozen (k + ys.length);have hm2 : ¬ (ys.length : Int) < (ys.length : Int) := by omega
       have hkj : (k : Int) + (ys.length : Int) < (N : Int) := by omega
       have hkj0 : (0 : Int) ≤ (k : Int) + (ys.length : Int) := by omega
       have hw64 : IntKind.i64.wrap ((k : Int) + (ys.length : Int)) = (k : Int) + (ys.length : Int) := IntWalk.i64_in _ (by omega);have hlq : k + ys.length < qs.length := by omega
       have HCL : Hid (val B18 (qs.set (k + ys.length) u.toNat) = val B18 (xs.take (k + 1)) * val B18 ys) := mul_close hlq (by unfold nth at hz0; omega) HQ.out;clear hz0 hN1;go_wp2_with fail
       go_roundw
       case rel => exact ⟨k + 1, qs.set (k + ys.length) u.toNat, by omega, by go_num, hrq.setInt u hu0 hlq, by rw [List.length_set]; exact hql, vb hqs _ _ (by unfold B18; omega), HCL,
        fun p hp => by rw [ycv _ _ _ hlq, if_neg (by omega)]; exact HZ2.out p (by omega), hbel2.setCell hgW _⟩
       case measure => simp [intOf]; omega
  · obtain rfl : k = xs.length := by omega
    have hm1 : ¬ (xs.length : Int) < (xs.length : Int) := by omega
    have hnum := hrw.nums hzl (xz hzs);have hfit := fun w h => fits_out (n1 != n2) (some ⟨g, 0, none⟩) N zs w h hzs (by omega);have hval : sgn (n1 != n2) (val B18 zs) = q := HP.out _ (by rw [HV.out, List.take_length]);rw [hval, hzl] at hfit;clear hval
    go_wp2_with (go_at_call 126; refine (hfit _ hnum).mono ?_; rintro e w4 ⟨A4, c4, rfl, hown4, hb4⟩; have LB := hbel.trans (hb4.mono hbel.size); clear x0 x1 y0 y1 hx hy r0 r1 r2 r3; obtain ⟨⟨⟨x0, x1, y0, y1⟩, hx, hy⟩, r0, r1, r2, r3⟩ := HF.out _ LB)
    refine bodyPost_ret (v := .tuple #[.agg #[.bool (decide (outV true q < 0)), .slice A4 (limbs (outV true q)).length c4], .int .i64 (outE true q)]) (by simp [results, Tryz.results97, go_sem, r0, r1]) rfl ?_;exact zsv hown4 (LW.trans (LB.mono LW.size)) (by omega) (by have := HWs.out; have := hbel.size; omega) _ _
theorem mul_any (hx : Nums w A xs) (hy : Nums w B ys) (hl : xs.length ≤ 9223372036854775807) (hl' : ys.length ≤ 9223372036854775807) :
 Calls Tryz.prog 97 #[.agg #[.bool n1, .slice A xs.length c], .agg #[.bool n2, .slice B ys.length d]] w
  (yw w (outV (yb n1 xs && yb n2 ys) (num n1 xs * num n2 ys)) (outE (yb n1 xs && yb n2 ys) (num n1 xs * num n2 ys))) := by
 cases h : (yb n1 xs && yb n2 ys)
 · rw [outV_bad, outE_bad]; exact mul_bad n1 n2 A B c d xs ys w hx hy hl hl' h
 · obtain ⟨hg, hk⟩ := Bool.and_eq_true_iff.1 h;exact mul_good n1 n2 A B c d xs ys w hx hy hg hk
end
section
variable {i j : Int} (A B : Option Addr) (c d : Nat) (w : World) (hi : i.natAbs < B18 ^ 30) (hj : j.natAbs < B18 ^ 30) (hx : Nums w A (limbs i)) (hy : Nums w B (limbs j))
include hi
include hx
include hj hy
theorem mulI : Calls Tryz.prog 97 #[.agg #[.bool (decide (i < 0)), .slice A (limbs i).length c], .agg #[.bool (decide (j < 0)), .slice B (limbs j).length d]] w (yw w (outV true (i * j)) (outE true (i * j))) := by
 have h := mul_any (decide (i < 0)) (decide (j < 0)) A B c d (limbs i) (limbs j) w hx hy (by have := jp hi; omega) (by have := jp hj; omega);rwa [ve hi, ve hj, jj, jj] at h
theorem cmpI_ : Calls Tryz.prog 29 #[.agg #[.bool (decide (i < 0)), .slice A (limbs i).length c], .agg #[.bool (decide (j < 0)), .slice B (limbs j).length d]] w fun e w' => e = .returned (.int .i64 (ky i j)) ∧ Below w.heap.size w w' := by
 have h := cmp_any A B c d (limbs i) (limbs j) w (decide (i < 0)) (decide (j < 0)) hx hy (by have := jp hi; omega) (by have := jp hj; omega);rw [ve hi, ve hj, jj, jj] at h;unfold cmpO at h;exact h
end
theorem outE_zero {i : Int} (h : outE true i = 0) : i.natAbs < B18 ^ 30 := by
 unfold outE at h;rw [if_pos rfl] at h;split at h
 · assumption
 · cases h
set_option maxRecDepth 100000
structure PV where
 k : Int
 yes : Bool
 neg : Bool
 xs : List Nat
 bits : Nat
 s : ByteArray
 ni : Nat
structure PVp where
 a : Option Addr
 c : Nat
 b : Option Addr
 d : Nat
def PV.cells (v : PV) (p : PVp) : List Value := [.int .i64 v.k, .bool v.yes, .bool v.neg, .slice p.a v.xs.length p.c, .int .u64 ((v.bits : Nat) : Int), .string v.s, .slice p.b v.ni p.d]
def PV.val (v : PV) (p : PVp) : Value := .agg #[.int .i64 v.k, .bool v.yes, .bool v.neg, .slice p.a v.xs.length p.c, .int .u64 ((v.bits : Nat) : Int), .string v.s, .slice p.b v.ni p.d]
def PV.good (v : PV) : Bool :=
 decide (v.ni = 0) && (if v.k = 0 then !v.yes && (!v.neg && decide (v.xs.length = 0)) && decide (v.bits = 0) && (v.s.toList == (⟨#[]⟩ : ByteArray).toList)
  else if v.k = 1 then (!v.neg && decide (v.xs.length = 0)) && decide (v.bits = 0) && (v.s.toList == (⟨#[]⟩ : ByteArray).toList)
  else if v.k = 2 then yb v.neg v.xs && !v.yes && decide (v.bits = 0) && (v.s.toList == (⟨#[]⟩ : ByteArray).toList)
  else if v.k = 3 then (!v.neg && decide (v.xs.length = 0)) && !v.yes && (v.s.toList == (⟨#[]⟩ : ByteArray).toList)
  else if v.k = 4 then (!v.neg && decide (v.xs.length = 0)) && !v.yes && decide (v.bits = 0) && decide (v.s.size ≤ 20000)
  else false)
theorem retErr_zero {W w' : World} {f : Int} (hb : Below W.heap.size W w') : yw W 0 f (.returned (.tuple #[.agg #[.bool false, .slice none 0 0], .int .i64 f])) w' :=
 ⟨none, 0, by rw [va]; rfl, by rw [va]; exact Own.nil _ _, hb⟩
theorem own_apart {w : World} {base c g : Nat} {A : Option Addr} {xs : List Nat} {t : TypeId} {cs : Array Value} (h : Own w base A c xs) (hb : Blk w g t cs) (ht : 25 ≠ t) : Apart (Value.slice A xs.length c).ownBlock (some g) :=
 fun k e f => zcq h.1 hb ht (e.trans f.symm)
theorem Per.ownN {l : List (Option Nat)} {w : World} {base c : Nat} {A : Option Addr} {xs : List Nat} (h : Own w base A c xs) (hn : NotIn (Value.slice A xs.length c).ownBlock l) : Per (Mut l) w (fun b => Own b base A c xs) :=
 fun _ hb => ⟨owns_extN h.1 hb hn, h.2⟩
theorem Per.ownX {X : Nat → Prop} {w : World} {base c : Nat} {A : Option Addr} {xs : List Nat} (h : Own w base A c xs) (hx : ∀ k, X k → k < base) : Per X w (fun b => Own b base A c xs) := fun b hb => by
 have hb' : Ext (Mut [none]) w b ∨ True := Or.inr trivial;refine ⟨(⟨h.1.1, ?_⟩), h.2⟩;rcases h.1.2 with h2 | ⟨g, cap, cur, hv, hg, hh, r⟩
 · exact Or.inl h2
 · exact Or.inr ⟨g, cap, cur, hv, hg, (hb.block g (Array.getElem?_eq_some_iff.1 hh).1 (fun e => by have := hx g e; omega)).trans hh, r⟩
theorem cellAt_lt {w : World} {b o : Nat} {v : Value} (h : w.cell? ⟨b, o, none⟩ = some v) : b < w.heap.size := by
 unfold World.cell? at h;simp only [] at h
 split at h
 · rename_i c t fr hh; exact (Array.getElem?_eq_some_iff.1 hh).1
 · cases h
theorem Per.cell0 {w : World} {g o : Nat} {v : Value} (h : w.cell? ⟨g, o, none⟩ = some v) : Per No w (fun b => b.cell? ⟨g, o, none⟩ = some v) := fun b hb => by
 have hlt : g < w.heap.size := cellAt_lt h;show b.cell? ⟨g, o, none⟩ = some v
 rw [hb.cell (p := ⟨g, o, none⟩) hlt (fun e => e.elim)]; exact h
section
variable (n1 n2 : Bool) (A B : Option Addr) (c d : Nat) (xs ys : List Nat) (w : World)
end
section
variable (i j : Int) (A B : Option Addr) (c d : Nat) (w : World) (hi : i.natAbs < B18 ^ 30) (hj : j.natAbs < B18 ^ 30) (hx : Nums w A (limbs i)) (hy : Nums w B (limbs j))
include hi hj hx hy
theorem pow_zero (h0 : j = 0) : Calls Tryz.prog 98 #[.agg #[.bool (decide (i < 0)), .slice A (limbs i).length c], .agg #[.bool (decide (j < 0)), .slice B (limbs j).length d]] w (yw w 1 0) := by
 have hd : decide (j < 0) = false := by rw [h0]; rfl
 have hlen : (limbs j).length = 0 := by rw [h0, va]; rfl
 refine zr Tryz.func98 rfl Tryz.ntmps98 rfl ?_;have HF : Per (No) w (fun _ => True) := Per.true_;have LW := erx (No) w;have XLW := grx (No) w;have E := erx (No) w;replace HF := HF.on E;replace LW := LW.step E XLW;replace E := erx (No) w;replace HF := HF.and (Per.nums0 hx);replace HF := HF.on E;replace LW := LW.step E XLW;replace E := erx (No) w;replace HF := HF.and (Per.nums0 hy)
 refine srx (za rfl (zx rfl ?_));intro gb1 w2 Bb1 Eb1 Gb1;have Gb1 : _ ≤ gb1 := Nat.le_trans E.size Gb1;have GLb1 := Nat.le_trans LW.size Gb1;replace E := E.trans Eb1.no;replace HF := HF.cons (zi Gb1);replace E := E.cons (some gb1);replace XLW := Mut.grow XLW (fun k e => Or.inr (Nat.le_trans LW.size ((zi Gb1) k e)));replace HF := HF.on E;replace LW := LW.step E XLW
 have SB : ∀ q9, No q9 → Mut [(some gb1)] q9 := (Mut.skip Mut.nil_);replace HF := HF.less SB;replace XLW := fun k h => XLW k (SB k h);clear SB;replace E := erx (No) w2;replace HF := HF.and (Per.blkN Bb1 NotIn.nil);refine za rfl (zx rfl ?_);intro gb3 w4 Bb3 Eb3 Gb3;have Gb3 : _ ≤ gb3 := Nat.le_trans E.size Gb3;have GLb3 := Nat.le_trans LW.size Gb3;replace E := E.trans Eb3.no
 replace HF := HF.cons (zi Gb3);replace E := E.cons (some gb3);replace XLW := Mut.grow XLW (fun k e => Or.inr (Nat.le_trans LW.size ((zi Gb3) k e)));replace HF := HF.on E;replace LW := LW.step E XLW;have SB : ∀ q9, No q9 → Mut [(some gb3)] q9 := (Mut.skip Mut.nil_);replace HF := HF.less SB;replace XLW := fun k h => XLW k (SB k h);clear SB;replace E := erx (No) w4
 replace HF := HF.and (Per.blkN Bb3 NotIn.nil);refine za rfl (qd xe ?_);intro gb5 w6 Bb5 Eb5 Gb5;have Gb5 : _ ≤ gb5 := Nat.le_trans E.size Gb5;have GLb5 := Nat.le_trans LW.size Gb5;replace E := E.trans Eb5.no;replace HF := HF.cons (zi Gb5);replace E := E.cons (some gb5);replace XLW := Mut.grow XLW (fun k e => Or.inr (Nat.le_trans LW.size ((zi Gb5) k e)))
 refine anx rfl (zj (srx (za rfl (zo Tryz.underlying24 rfl yy rfl (HF.on E).here.1.2 rfl (za rfl (zd en47 rfl ((ybq A c _ hi (HF.on E).here.1.1.1.2).mono ?_)))))));rintro e w7 ⟨rfl, hb⟩;refine ⟨_, rfl, ?_⟩;have Ec := Ext.of_below hb No;replace Bb5 := Bb5.extN Ec NotIn.nil;replace E := E.trans Ec.no
 refine za rfl (yf rfl (mvx rfl (onx rfl (zo Tryz.underlying24 rfl yy rfl (HF.on E).here.2 rfl (onx rfl (zd en47 rfl ((ybq B d _ hj (HF.on E).here.1.1.2).mono ?_)))))));rintro e w8 ⟨rfl, hb⟩;refine ⟨_, rfl, ?_⟩;have Ec := Ext.of_below hb No;replace Bb5 := Bb5.extN Ec NotIn.nil;replace E := E.trans Ec.no
 refine onx rfl (yf rfl (za rfl (zh rfl rfl (rnx (zp rfl (zq (zk (zj (srx (za rfl (zb Tryz.underlying24 rfl sz4 (by decide) rfl (za rfl (zf Tryz.underlying4 rfl rfl (HF.on E).here.2 rfl (rnx (zu 19 (.bool false) rfl ((by rw [hd] : (.bool (decide (j < 0)) : Value) = _)) (zp rfl (zq (zk (srx (za rfl (zd en65 rfl ((oh 1 _ (by decide) (by decide)).mono ?_))))))))))))))))))))))
 rintro e w9 ⟨A1, c1, rfl, o1, hb⟩;refine ⟨_, rfl, ?_⟩;have XC : ∀ q9, (Mut [(some gb5)]) q9 → q9 < w8.heap.size := (Mut.grow Mut.none_ (yl Bb5.lt));have SC := Nat.le_trans LW.size E.size;have Ec := Ext.of_below hb No;replace Bb5 := Bb5.extN Ec NotIn.nil;replace E := E.trans Ec.no;have S1 := SC;replace HF := HF.on E;replace LW := LW.step E XLW;replace E := erx (Mut [(some gb5)]) w9
 replace HF := HF.and (Per.ownX o1 XC);refine za rfl (qd xe ?_);intro gb10 w11 Bb10 Eb10 Gb10;have Db10_b5 : Apart (some gb10) (some gb5) := Apart.of_lt (yl Bb5.lt) Gb10;have Db5_b10 := Db10_b5.symm;have Gb10 : _ ≤ gb10 := Nat.le_trans E.size Gb10;have GLb10 := Nat.le_trans LW.size Gb10;replace Bb5 := Bb5.extN Eb10 NotIn.nil;replace E := E.trans Eb10.no
 replace HF := HF.cons (zi Gb10);replace E := E.cons (some gb10);replace XLW := Mut.grow XLW (fun k e => Or.inr (Nat.le_trans LW.size ((zi Gb10) k e)));refine qo (qj yy rfl rfl Bb10 rfl rfl (Nat.le_of_ble_eq_true rfl) ?_);intro w12 Bx Eb10;replace Bb10 := Bx;replace Bb5 := Bb5.extN Eb10 (NotIn.cons Db5_b10 NotIn.nil);replace E := E.step1 Eb10 Mut.head
 refine rnx (zj (srx (za rfl (zb Tryz.underlying24 rfl zfk (by decide) rfl (za rfl (zf Tryz.underlying22 rfl rfl (HF.on E).here.1.2 rfl (za rfl (vq Tryz.underlying22 rfl (za rfl (ya rfl rfl (rnx (zu 25 (.bool true) rfl ((by rw [hlen]; rfl : (.bool (((((limbs j).length : Nat)) : Int) == 0) : Value) = _)) (yc rfl (srx (za rfl (zo Tryz.underlying24 rfl yy rfl Bb10 rfl (qo (qj yy rfl rfl Bb5 rfl rfl (Nat.le_of_ble_eq_true rfl) ?_))))))))))))))))))
 intro w13 Bx Eb5;replace Bb5 := Bx;replace Bb10 := Bb10.extN Eb5 (NotIn.cons Db10_b5 NotIn.nil);replace E := E.step1 Eb5 (Mut.tail Mut.head);refine anx rfl (zm (zg (zl (rs := [.cell 4 24, .tmp 5]) (vs := [_, _]) rfl ⟨⟨_, rfl, jc Tryz.underlying24 rfl yy Bb5 rfl⟩, rfl, trivial⟩ ?_)));exact ⟨A1, c1, rfl, ((HF.on E).here.2).mono S1, (LW.step E XLW).toBelow⟩
end
/-! ### what stands in the limbs -/
theorem nth_lim0 {j : Int} (h0 : j ≠ 0) : nth (limbs j) 0 = ((j.natAbs % B18 : Nat) : Int) := by
 unfold nth;rw [qq, jw qm (by omega)];rfl
theorem lim_len1 {j : Int} (h0 : j ≠ 0) (h : j.natAbs < B18) : (limbs j).length = 1 := by
 rw [qq, jw qm (by omega), Nat.div_eq_of_lt h]; rfl
theorem lim_pos {j : Int} (h0 : j ≠ 0) : 0 < (limbs j).length := by rw [qq]; exact zbq qm (by omega)
theorem pow_abs (i : Int) (n : Nat) : (i ^ n).natAbs = i.natAbs ^ n := Int.natAbs_pow i n
theorem pow_mono {i : Int} (h : 1 ≤ i.natAbs) {k n : Nat} (hk : k ≤ n) : (i ^ k).natAbs ≤ (i ^ n).natAbs := by
 rw [pow_abs, pow_abs]; exact Nat.pow_le_pow_right h hk
section
variable (i j : Int) (A B : Option Addr) (c d : Nat) (w : World) (hi : i.natAbs < B18 ^ 30) (hj : j.natAbs < B18 ^ 30) (hx : Nums w A (limbs i)) (hy : Nums w B (limbs j))
include hi hj hx hy
theorem pow_l1 (h0 : 0 < j) (hj2 : j ≤ 2000) (h2i : 2 ≤ i.natAbs) (h : i.natAbs < B18) : Calls Tryz.prog 98 #[.agg #[.bool (decide (i < 0)), .slice A (limbs i).length c], .agg #[.bool (decide (j < 0)), .slice B (limbs j).length d]] w (yw w (outV true (i ^ j.toNat)) (outE true (i ^ j.toNat))) := by
 have hjb : j.natAbs < B18 := by unfold B18; omega
 have ejm : j.natAbs % B18 = j.toNat := by rw [Nat.mod_eq_of_lt hjb]; omega
 have hd : decide (j < 0) = false := decide_eq_false (by omega);have hip := lim_pos (j := i) (by omega);have hjp := lim_pos (j := j) (by omega);have hlen : ((limbs j).length : Int) ≠ 0 := by omega
 have hleni : ((limbs i).length : Int) ≠ 0 := by omega
 obtain ⟨bx, ox, rfl, hbx, hcx⟩ := hx.2 hip;obtain ⟨by_, oy, rfl, hby, hcy⟩ := hy.2 hjp;have hc0 : w.cell? ⟨bx, ox + 0, none⟩ = some (.int .u64 ((i.natAbs % B18 : Nat) : Int)) := by rw [hcx 0 hip, nth_lim0 (by omega)]
 have hd0 : w.cell? ⟨by_, oy + 0, none⟩ = some (.int .u64 (((j.toNat : Nat) : Int))) := by rw [hcy 0 hjp, nth_lim0 (by omega)]; rw [ejm]
 refine zr Tryz.func98 rfl Tryz.ntmps98 rfl ?_;have HF : Per (No) w (fun _ => True) := Per.true_;have LW := erx (No) w;have XLW := grx (No) w;have E := erx (No) w;replace HF := HF.on E;replace LW := LW.step E XLW;replace E := erx (No) w;replace HF := HF.and (Per.nums0 hx);replace HF := HF.on E;replace LW := LW.step E XLW;replace E := erx (No) w;replace HF := HF.and (Per.nums0 hy)
 replace HF := HF.on E;replace LW := LW.step E XLW;replace E := erx (No) w;replace HF := HF.and (Per.cell0 hc0);replace HF := HF.on E;replace LW := LW.step E XLW;replace E := erx (No) w;replace HF := HF.and (Per.cell0 hd0);refine srx (za rfl (zx rfl ?_));intro gb1 w2 Bb1 Eb1 Gb1;have Gb1 : _ ≤ gb1 := Nat.le_trans E.size Gb1;have GLb1 := Nat.le_trans LW.size Gb1;replace E := E.trans Eb1.no
 replace HF := HF.cons (zi Gb1);replace E := E.cons (some gb1);replace XLW := Mut.grow XLW (fun k e => Or.inr (Nat.le_trans LW.size ((zi Gb1) k e)));replace HF := HF.on E;replace LW := LW.step E XLW;have SB : ∀ q9, No q9 → Mut [(some gb1)] q9 := (Mut.skip Mut.nil_);replace HF := HF.less SB;replace XLW := fun k h => XLW k (SB k h);clear SB;replace E := erx (No) w2
 replace HF := HF.and (Per.blkN Bb1 NotIn.nil);refine za rfl (zx rfl ?_);intro gb3 w4 Bb3 Eb3 Gb3;have Gb3 : _ ≤ gb3 := Nat.le_trans E.size Gb3;have GLb3 := Nat.le_trans LW.size Gb3;replace E := E.trans Eb3.no;replace HF := HF.cons (zi Gb3);replace E := E.cons (some gb3);replace XLW := Mut.grow XLW (fun k e => Or.inr (Nat.le_trans LW.size ((zi Gb3) k e)));replace HF := HF.on E
 replace LW := LW.step E XLW;have SB : ∀ q9, No q9 → Mut [(some gb3)] q9 := (Mut.skip Mut.nil_);replace HF := HF.less SB;replace XLW := fun k h => XLW k (SB k h);clear SB;replace E := erx (No) w4;replace HF := HF.and (Per.blkN Bb3 NotIn.nil);refine za rfl (qd xe ?_);intro gb5 w6 Bb5 Eb5 Gb5;have Gb5 : _ ≤ gb5 := Nat.le_trans E.size Gb5;have GLb5 := Nat.le_trans LW.size Gb5
 replace E := E.trans Eb5.no;replace HF := HF.cons (zi Gb5);replace E := E.cons (some gb5);replace XLW := Mut.grow XLW (fun k e => Or.inr (Nat.le_trans LW.size ((zi Gb5) k e)));refine anx rfl (zj (srx (za rfl (zo Tryz.underlying24 rfl yy rfl (HF.on E).here.1.2 rfl (za rfl (zd en47 rfl ((ybq _ c _ hi (HF.on E).here.1.1.1.1.1.2).mono ?_)))))))
 rintro e w7 ⟨rfl, hb⟩;refine ⟨_, rfl, ?_⟩;have Ec := Ext.of_below hb No;replace Bb5 := Bb5.extN Ec NotIn.nil;replace E := E.trans Ec.no;refine za rfl (yf rfl (mvx rfl (onx rfl (zo Tryz.underlying24 rfl yy rfl (HF.on E).here.2 rfl (onx rfl (zd en47 rfl ((ybq _ d _ hj (HF.on E).here.1.1.1.1.2).mono ?_)))))));rintro e w8 ⟨rfl, hb⟩;refine ⟨_, rfl, ?_⟩
 have Ec := Ext.of_below hb No;replace Bb5 := Bb5.extN Ec NotIn.nil;replace E := E.trans Ec.no
 refine onx rfl (yf rfl (za rfl (zh rfl rfl (rnx (zp rfl (zq (zk (zj (srx (za rfl (zb Tryz.underlying24 rfl sz4 (by decide) rfl (za rfl (zf Tryz.underlying4 rfl rfl (HF.on E).here.2 rfl (rnx (zu 19 (.bool false) rfl ((by rw [hd] : (.bool (decide (j < 0)) : Value) = _)) (zp rfl (zq (zk (srx (za rfl (zd en65 rfl ((oh 1 _ (by decide) (by decide)).mono ?_))))))))))))))))))))))
 rintro e w9 ⟨A1, c1, rfl, o1, hb⟩;refine ⟨_, rfl, ?_⟩;have XC : ∀ q9, (Mut [(some gb5)]) q9 → q9 < w8.heap.size := (Mut.grow Mut.none_ (yl Bb5.lt));have SC := Nat.le_trans LW.size E.size;have Ec := Ext.of_below hb No;replace Bb5 := Bb5.extN Ec NotIn.nil;replace E := E.trans Ec.no;have S1 := SC;replace HF := HF.on E;replace LW := LW.step E XLW;replace E := erx (Mut [(some gb5)]) w9
 replace HF := HF.and (Per.ownX o1 XC);refine za rfl (qd xe ?_);intro gb10 w11 Bb10 Eb10 Gb10;have Db10_b5 : Apart (some gb10) (some gb5) := Apart.of_lt (yl Bb5.lt) Gb10;have Db5_b10 := Db10_b5.symm;have Gb10 : _ ≤ gb10 := Nat.le_trans E.size Gb10;have GLb10 := Nat.le_trans LW.size Gb10;replace Bb5 := Bb5.extN Eb10 NotIn.nil;replace E := E.trans Eb10.no
 replace HF := HF.cons (zi Gb10);replace E := E.cons (some gb10);replace XLW := Mut.grow XLW (fun k e => Or.inr (Nat.le_trans LW.size ((zi Gb10) k e)));refine qo (qj yy rfl rfl Bb10 rfl rfl (Nat.le_of_ble_eq_true rfl) ?_);intro w12 Bx Eb10;replace Bb10 := Bx;replace Bb5 := Bb5.extN Eb10 (NotIn.cons Db5_b10 NotIn.nil);replace E := E.step1 Eb10 Mut.head
 refine rnx (zj (srx (za rfl (zb Tryz.underlying24 rfl zfk (by decide) rfl (za rfl (zf Tryz.underlying22 rfl rfl (HF.on E).here.1.2 rfl (za rfl (vq Tryz.underlying22 rfl (za rfl (ya rfl rfl (rnx (zu 25 (.bool false) rfl ((by rw [beq_eq_false_iff_ne.2 hlen] : (.bool (((((limbs j).length : Nat)) : Int) == 0) : Value) = _)) (zp rfl (zq (zk (zj (srx (za rfl (zb Tryz.underlying24 rfl zfk (by decide) rfl (za rfl (zf Tryz.underlying22 rfl rfl (HF.on E).here.1.1.2 rfl (za rfl (vq Tryz.underlying22 rfl (za rfl (ya rfl rfl (mvx rfl (zz 31 (.bool false) rfl ((by rw [beq_eq_false_iff_ne.2 hleni] : (.bool (((((limbs i).length : Nat)) : Int) == 0) : Value) = _)) (onx rfl (zb Tryz.underlying24 rfl zfk (by decide) rfl (onx rfl (zf Tryz.underlying22 rfl rfl (HF.on E).here.1.1.2 rfl (onx rfl (vq Tryz.underlying22 rfl (onx rfl (ya rfl rfl (onx rfl (zy rfl ?_)))))))))))))))))))))))))))))))))))))
 have h1 : ((limbs i).length : Int) = 1 := by rw [lim_len1 (by omega) h]; rfl
 refine zz 36 (.bool true) rfl ((by rw [h1]; rfl : (.bool (((((limbs i).length : Nat)) : Int) == 1) : Value) = _)) (onx rfl (zb Tryz.underlying24 rfl zfk (by decide) rfl (onx rfl (zf Tryz.underlying22 rfl rfl (HF.on E).here.1.1.2 rfl (onx rfl (jt (j := 0) Tryz.underlying22 xa rfl rfl rfl hip (onx rfl (xr Tryz.underlying25 rfl rfl (HF.on E).here.1.1.1.1.2 (onx rfl (ya rfl rfl (onx rfl (zt rfl rfl (za rfl (zh rfl rfl (rnx (zu 43 (.bool false) rfl ((by rw [Nat.mod_eq_of_lt h, beq_eq_false_iff_ne.2 (by omega)] : (.bool (((i.natAbs % B18 : Nat) : Int) == 1) : Value) = _)) (zp rfl (zq (zk (zj (srx (za rfl (zb Tryz.underlying24 rfl zfk (by decide) rfl (za rfl (zf Tryz.underlying22 rfl rfl (HF.on E).here.1.2 rfl (za rfl (vq Tryz.underlying22 rfl (za rfl (gg rfl rfl (mvx rfl ?_))))))))))))))))))))))))))))))
 have h2 : ¬ (1 : Int) < ((limbs j).length : Int) := by rw [lim_len1 (by omega) hjb]; decide
 refine zz 61 (.bool false) rfl ((by rw [decide_eq_false h2] : (.bool (decide (1 < ((((limbs j).length : Nat)) : Int))) : Value) = _)) (onx rfl (zb Tryz.underlying24 rfl zfk (by decide) rfl (onx rfl (zf Tryz.underlying22 rfl rfl (HF.on E).here.1.2 rfl (onx rfl (jt (j := 0) Tryz.underlying22 xa rfl rfl rfl hjp (onx rfl (xr Tryz.underlying25 rfl rfl (HF.on E).here.1.1.1.2 (onx rfl (gg rfl rfl (za rfl (zh rfl rfl (rnx (zu 67 (.bool false) rfl ((by rw [decide_eq_false (by omega)] : (.bool (decide (2000 < (((j.toNat : Nat) : Int)))) : Value) = _)) (zp rfl (zq (zk (zj (srx (za rfl (zb Tryz.underlying24 rfl zfk (by decide) rfl (za rfl (zf Tryz.underlying22 rfl rfl (HF.on E).here.1.2 rfl (za rfl (jt (j := 0) Tryz.underlying22 xa rfl rfl rfl hjp (za rfl (xr Tryz.underlying25 rfl rfl (HF.on E).here.1.1.1.2 (mvx rfl (rnx (yi ?_))))))))))))))))))))))))))))))
 have b1 : (i ^ 0).natAbs < B18 ^ 30 := by rw [Int.pow_zero]; exact Nat.one_lt_pow (by decide) (by unfold B18; omega)
 have e0 : i ^ 0 = 1 := Int.pow_zero i;replace Bb10 : Blk w12 gb10 24 #[.bool (decide (i ^ 0 < 0)), .slice A1 (limbs (i ^ 0)).length c1] := by rw [e0]; exact Bb10
 replace HF := HF.on E;replace LW := LW.step E XLW;replace E := erx (Mut [(some gb10), (some gb5)]) w12
 refine ztk (ι := Nat × Option Addr × Nat) (fun (k, A1, c1) => [(2, .pointer (some ⟨gb1, 0, none⟩)), (4, .pointer (some ⟨gb5, 0, none⟩)), (6, .pointer (some ⟨gb10, 0, none⟩)), (72, .int .u64 ((j.toNat : Nat) : Int)), (73, .int .u64 ((k : Nat) : Int))]) (fun (k, A1, c1) w' => Ext (Mut [(some gb10), (some gb5)]) w12 w' ∧ Blk w' gb10 24 (#[.bool (decide (i ^ k < 0)), .slice A1 (limbs (i ^ k)).length c1]) ∧ Blk w' gb5 24 (#[.bool false, .slice none 0 0]) ∧ (k ≤ j.toNat ∧ (i ^ k).natAbs < B18 ^ 30 ∧ Own w' w.heap.size A1 c1 (limbs (i ^ k)))) (fun (k, A1, c1) => j.toNat - k) (0, A1, c1) ⟨rfl, rfl, rfl, rfl, rfl, trivial⟩ ⟨Ext.refl _ _, (by exact Bb10), (by exact Bb5), ⟨Nat.zero_le _, b1, by rw [e0]; exact ((HF.on E).here.2).mono S1⟩⟩ ?_
 have LTb10 := (yl Bb10.lt);have LTb5 := (yl Bb5.lt);rintro ⟨k, A1, c1⟩ w14 ⟨M13, Bb10, Bb5, ⟨hk, hb1, hown⟩⟩;have XM13 : Gro (Mut [(some gb10), (some gb5)]) (Mut [(some gb10), (some gb5)]) w12 := (Mut.grow (Mut.grow Mut.none_ (fun k e => Or.inl ((Mut.tail Mut.head) k e))) (fun k e => Or.inl (Mut.head k e)));replace E := E.trans M13;replace HF := HF.on E;replace LW := LW.step E XLW
 replace E := erx (Mut [(some gb10), (some gb5)]) w14;clear LTb10;clear LTb5;replace HF := HF.on E;replace LW := LW.step E XLW;replace M13 := M13.step E XM13;replace E := erx (Mut [(some gb10), (some gb5)]) w14;replace HF := HF.and (Per.ownN hown (NotIn.cons (own_apart hown Bb10 (by decide)) (NotIn.cons (own_apart hown Bb5 (by decide)) NotIn.nil)))
 refine srx (za rfl (jy rfl rfl (rnx (zj (yx rfl (fun hlt => ?_) (fun hlt => ?_))))))
 ·
  have hlt := of_decide_eq_true hlt;refine zq (zk (zj (yi (srx (za rfl (zo Tryz.underlying24 rfl yy rfl Bb10 rfl (za rfl (zo Tryz.underlying24 rfl yy rfl (HF.on E).here.1.1.1.2 rfl (za rfl (zd en97 rfl ((mulI A1 _ c1 c _ hb1 hi ((HF.on E).here.2).nums (HF.on E).here.1.1.1.1.1.1.1.2).mono ?_)))))))))));rintro e w15 ⟨A3, c3, rfl, o3, hb⟩
  refine ⟨_, rfl, ?_⟩;have XC : ∀ q9, (Mut [(some gb10), (some gb5)]) q9 → q9 < w14.heap.size := (Mut.grow (Mut.grow Mut.none_ (yl Bb5.lt)) (yl Bb10.lt));have SC := Nat.le_trans LW.size E.size;have Ec := Ext.of_below hb No;replace Bb10 := Bb10.extN Ec NotIn.nil;replace Bb5 := Bb5.extN Ec NotIn.nil;replace E := E.trans Ec.no;have S3 := SC;replace HF := HF.on E
  replace LW := LW.step E XLW;replace M13 := M13.step E XM13;replace E := erx (Mut [(some gb10), (some gb5)]) w15;replace HF := HF.and (Per.ownX o3 XC);refine mvx rfl (za rfl (zn rfl rfl (za rfl (zn rfl rfl (za rfl (qd xe ?_))))));intro gb16 w17 Bb16 Eb16 Gb16;have Db16_b10 : Apart (some gb16) (some gb10) := Apart.of_lt (yl Bb10.lt) Gb16
  have Db10_b16 := Db16_b10.symm;have Db16_b5 : Apart (some gb16) (some gb5) := Apart.of_lt (yl Bb5.lt) Gb16;have Db5_b16 := Db16_b5.symm;have Gb16 : _ ≤ gb16 := Nat.le_trans E.size Gb16;have GLb16 := Nat.le_trans LW.size Gb16;replace Bb10 := Bb10.extN Eb16 NotIn.nil;replace Bb5 := Bb5.extN Eb16 NotIn.nil;replace E := E.trans Eb16.no;replace HF := HF.cons (zi Gb16)
  replace E := E.cons (some gb16);replace XLW := Mut.grow XLW (fun k e => Or.inr (Nat.le_trans LW.size ((zi Gb16) k e)));replace XM13 := Mut.grow XM13 (fun k e => Or.inr (Nat.le_trans M13.size ((zi Gb16) k e)));refine qo (qj yy rfl rfl Bb16 rfl rfl (Nat.le_of_ble_eq_true rfl) ?_);intro w18 Bx Eb16;replace Bb16 := Bx
  replace Bb10 := Bb10.extN Eb16 (NotIn.cons Db10_b16 NotIn.nil);replace Bb5 := Bb5.extN Eb16 (NotIn.cons Db5_b16 NotIn.nil);replace E := E.step1 Eb16 Mut.head;refine anx rfl (zj (srx (mvx rfl (za rfl (qc rfl rfl (rnx (yx rfl (fun q => ?_) (fun q => ?_))))))))
  ·
   have e1 : B18 ^ 30 ≤ (i ^ j.toNat).natAbs := by
    have h7 : ¬ (i ^ k * i).natAbs < B18 ^ 30 := fun h9 => by rw [od h9] at q; exact absurd q (by decide)
    have h8 := pow_mono (i := i) (by omega) (show k + 1 ≤ j.toNat by omega);rw [Int.pow_succ] at h8;omega
   have e2 : outE true (i ^ k * i) = 7 := zqk (by
    rcases Nat.lt_or_ge (i ^ k * i).natAbs (B18 ^ 30) with h9 | h9
    · rw [od h9] at q; exact absurd q (by decide)
    · exact h9)
   refine srx (za rfl (kt (cs := #[.bool false, .slice none 0 0]) pl24 xe rfl rfl (mvx rfl (qo (qj yy rfl rfl Bb5 rfl rfl (Nat.le_of_ble_eq_true rfl) ?_)))));intro w19 Bx Eb5;replace Bb5 := Bx;replace Bb16 := Bb16.extN Eb5 (NotIn.cons Db16_b5 NotIn.nil);replace Bb10 := Bb10.extN Eb5 (NotIn.cons Db10_b5 NotIn.nil);replace E := E.step1 Eb5 (Mut.tail (Mut.tail Mut.head))
   refine anx rfl (zm (zg (zv (zg (zg (zv (zg (ew_set 5 (.int .i64 7) rfl ((by rw [e2] : (.int .i64 (outE true (i ^ k * i)) : Value) = _)) (zl (rs := [.cell 4 24, .tmp 5]) (vs := [_, _]) rfl ⟨⟨_, rfl, jc Tryz.underlying24 rfl yy Bb5 rfl⟩, rfl, trivial⟩ ?_)))))))))
   exact by rw [outV_big e1, zqk e1]; exact retErr_zero (LW.step E XLW).toBelow
  ·
   have h9 : (i ^ k * i).natAbs < B18 ^ 30 := outE_zero (by simpa using q);have eV : outV true (i ^ k * i) = i ^ (k + 1) := by rw [oc h9, Int.pow_succ]
   refine zq (zk (yo (za rfl (zo Tryz.underlying24 rfl yy rfl Bb16 rfl (qo (qj yy rfl rfl Bb10 rfl rfl (Nat.le_of_ble_eq_true rfl) ?_))))));intro w20 Bx Eb10;replace Bb10 := Bx;replace Bb16 := Bb16.extN Eb10 (NotIn.cons Db16_b10 NotIn.nil);replace Bb5 := Bb5.extN Eb10 (NotIn.cons Db5_b10 NotIn.nil);replace E := E.step1 Eb10 (Mut.tail Mut.head)
   refine qz (zw (zk (yo (za rfl (qp rfl rfl (wrap_u64 (by omega)) (mvx rfl (qz ?_)))))));rw [eV] at Bb10
   exact gp (k + 1, A3, c3) (by show j.toNat - (k + 1) < j.toNat - k; omega) ⟨rfl, rfl, rfl, rfl, rfl, trivial⟩ ⟨M13.step E XM13, (by exact Bb10), (by exact Bb5), by omega, by rw [Int.pow_succ]; exact h9, by rw [← eV]; exact ((HF.on E).here.2).mono S3⟩
 ·
  have hge := of_decide_eq_false hlt;obtain rfl : k = j.toNat := by omega
  refine oe (qg (qg (vu (zk (srx (za rfl (zo Tryz.underlying24 rfl yy rfl Bb10 rfl (qo (qj yy rfl rfl Bb5 rfl rfl (Nat.le_of_ble_eq_true rfl) ?_)))))))));intro w21 Bx Eb5;replace Bb5 := Bx;replace Bb10 := Bb10.extN Eb5 (NotIn.cons Db10_b5 NotIn.nil);replace E := E.step1 Eb5 (Mut.tail Mut.head);replace HF := HF.on E
  replace LW := LW.step E XLW;have SB : ∀ q9, Mut [(some gb10)] q9 → Mut [(some gb10), (some gb5)] q9 := (Mut.keep (Mut.skip Mut.nil_));replace HF := HF.less SB;replace XLW := fun k h => XLW k (SB k h);clear SB;replace E := erx (Mut [(some gb10)]) w21;replace HF := HF.and (Per.blkN Bb5 (NotIn.cons Db5_b10 NotIn.nil))
  refine anx rfl (zm (zl (rs := [.cell 4 24, .tmp 5]) (vs := [_, _]) rfl ⟨⟨_, rfl, jc Tryz.underlying24 rfl yy (HF.on E).here.2 rfl⟩, rfl, trivial⟩ ?_));exact ⟨A1, c1, by rw [oc hb1, od hb1]; rfl, by rw [oc hb1]; exact (HF.on E).here.1.2, (LW.step E XLW).toBelow⟩
end
theorem zjk {z : Int} (h : z.natAbs < 9223372036854775809) : z.natAbs < B18 ^ 30 := Nat.lt_of_lt_of_le (Nat.lt_of_lt_of_le h (by decide)) (Nat.le_trans (two_mono2 (k := 64) (K := 1024) rfl rfl (by decide)) B18_30)
theorem two_natAbs (k : Nat) : ((2 : Int) ^ k).natAbs = 2 ^ k := by rw [Int.natAbs_pow]; rfl
theorem two_posI (k : Nat) : (0 : Int) < 2 ^ k := Int.pow_pos (by decide)
theorem two_neg (k : Nat) : decide ((2 : Int) ^ k < 0) = false := decide_eq_false (by have := two_posI k; omega)
theorem two_30 {k : Nat} (h : k ≤ 1023) : ((2 : Int) ^ k).natAbs < B18 ^ 30 := by
 rw [two_natAbs];exact Nat.lt_of_lt_of_le (Nat.pow_lt_pow_right (by decide) (show k < 1024 by omega)) B18_30
theorem two_pow (k : Nat) (A B : Option Addr) (c d : Nat) (w : World) (hk : k ≤ 1023) (hx : Nums w A (limbs 2)) (hy : Nums w B (limbs ((k : Nat) : Int))) :
 Calls Tryz.prog 98 #[.agg #[.bool (decide ((2 : Int) < 0)), .slice A (limbs 2).length c], .agg #[.bool (decide (((k : Nat) : Int) < 0)), .slice B (limbs ((k : Nat) : Int)).length d]] w (yw w ((2 : Int) ^ k) 0) := by
 rcases Nat.eq_zero_or_pos k with h0 | h0
 · have h := pow_zero 2 ((k : Nat) : Int) A B c d w (zjk (by decide)) (zjk (by omega)) hx hy (by omega);rw [h0] at h ⊢;exact h
 · have h := pow_l1 2 ((k : Nat) : Int) A B c d w (zjk (by decide)) (zjk (by omega)) hx hy (by omega) (by omega) (by decide) (by decide);rw [Int.toNat_natCast, oc (two_30 hk), od (two_30 hk)] at h;exact h
theorem dq_whole {a M k : Nat} (hM : M = qk a * 2 ^ k) {n1 : Bool} {m0 : Int} (h0 : m0 = if ng a then -((M : Nat) : Int) else ((M : Nat) : Int)) (h1 : n1 = decide (m0 < 0)) : dq n1 false M (2 ^ k) = jh a := by
 have hp := xf k;have e1 : M / 2 ^ k = qk a := by rw [hM]; exact Nat.mul_div_cancel _ hp
 have e2 : M % 2 ^ k = 0 := by rw [hM]; exact Nat.mul_mod_left _ _
 unfold dq jh;rw [e1, e2, h1, h0];by_cases hz : qk a = 0
 · rw [hz] at hM ⊢;rw [Nat.zero_mul] at hM;subst hM;cases ng a <;> simp
 · have hMp : 0 < M := by rw [hM]; exact Nat.mul_pos (by omega) hp
   cases ng a with
   | true => simp only [if_true]; rw [decide_eq_true (by omega)]; rfl
   | false => simp only [Bool.false_eq_true, if_false]; rw [decide_eq_false (by omega)]; rfl
theorem pos_zero {x P : Nat} (hP : 0 < P) (h : 0 = x * P) : x = 0 := by
 rcases Nat.eq_zero_or_pos x with h' | h'
 · exact h'
 · have := Nat.mul_pos h' hP; omega
theorem val_gen_hi {m e W P n k M : Nat} (hP : P = 2 ^ 1074) (h : m * 2 ^ e = W * P * 2 ^ n) (hc : 1074 + n ≤ e) (hk : k = e - (1074 + n)) (hM : M = m) : W = M * 2 ^ k := by
 have h1 : P * 2 ^ n = 2 ^ (1074 + n) := by rw [hP, Nat.pow_add]
 rw [Nat.mul_assoc, h1, yck hc] at h;rw [hM, hk];exact (Nat.eq_of_mul_eq_mul_right (xf _) h).symm
theorem val_gen_lo {m e W P n k M : Nat} (hP : P = 2 ^ 1074) (h : m * 2 ^ e = W * P * 2 ^ n) (hc : e ≤ 1074 + n) (hk : k = 1074 + n - e) (hM : M = m) : M = W * 2 ^ k := by
 have h1 : P * 2 ^ n = 2 ^ (1074 + n) := by rw [hP, Nat.pow_add]
 rw [Nat.mul_assoc, h1, yck hc W] at h;rw [hM, hk];exact Nat.eq_of_mul_eq_mul_right (xf _) h
theorem val_hi {m e W n k M : Nat} (h : m * 2 ^ e = W * 2 ^ 1074 * 2 ^ n) (hc : 1074 + n ≤ e) (hk : k = e - (1074 + n)) (hM : M = m) : W = M * 2 ^ k := val_gen_hi rfl h hc hk hM
theorem val_lo {m e W n k M : Nat} (h : m * 2 ^ e = W * 2 ^ 1074 * 2 ^ n) (hc : e ≤ 1074 + n) (hk : k = 1074 + n - e) (hM : M = m) : M = W * 2 ^ k := val_gen_lo rfl h hc hk hM
theorem div_two {a M k : Nat} {m0 : Int} (hM : M = qk a * 2 ^ k) (h0 : m0 = if ng a then -((M : Nat) : Int) else ((M : Nat) : Int)) (hMb : M < 9223372036854775808) (hk : k ≤ 1023) (A B : Option Addr) (c d : Nat) (w : World) (hx : Nums w A (limbs m0)) (hy : Nums w B (limbs ((2 : Int) ^ k))) :
 Calls Tryz.prog 99 #[.agg #[.bool (decide (m0 < 0)), .slice A (limbs m0).length c], .agg #[.bool (decide ((2 : Int) ^ k < 0)), .slice B (limbs ((2 : Int) ^ k)).length d]] w fun e w' => ∃ A5 c5 B6 c6 r, e = .returned (.tuple #[.agg #[.bool (decide (jh a < 0)), .slice A5 (limbs (jh a)).length c5], .agg #[.bool (decide (r < 0)), .slice B6 (limbs r).length c6], .int .i64 0]) ∧ Own w' w.heap.size A5 c5 (limbs (jh a)) ∧ Below w.heap.size w w' := by
 have hma : m0.natAbs = M := by rw [h0]; split <;> omega
 have h := divmod_ok A B c d (limbs m0) (limbs ((2 : Int) ^ k)) w (decide (m0 < 0)) (decide ((2 : Int) ^ k < 0)) hx hy (ve (zjk (by omega))) (ve (two_30 hk)) (lim_pos (by have := two_posI k; omega));rw [qq m0, qq ((2 : Int) ^ k), ji qm, ji qm, ← qq, ← qq, hma, two_natAbs, two_neg, dq_whole hM h0 rfl] at h;rw [two_neg]
 exact h.mono fun e w' ⟨A5, c5, B6, c6, he, o1, o2, hb, _⟩ => ⟨A5, c5, B6, c6, _, he, o1, hb⟩
section
variable (w : World) (a : Nat) (ha : a < 18446744073709551616)
theorem zvk (hf : rg a < 9218868437227405312) : Calls Tryz.prog 79 #[.float .f64 a] w fun e w' => e = .returned (.float .f64 (gn .zero a)) ∧ Below w.heap.size w w' := by
 refine zr Tryz.func79 rfl Tryz.ntmps79 rfl ?_;have LW := erx (No) w;have XLW := grx (No) w;have E := erx (No) w;refine srx (anx rfl (zj (yc rfl (srx (mvx rfl (za rfl (ow_round ex117 rfl ((isN_read a).trans (ja hf)) (anx rfl (zm (zg (zl (rs := [.tmp 2]) (vs := [_]) rfl ⟨rfl, trivial⟩ ?_)))))))))));exact ⟨rfl, (LW.step E XLW).toBelow⟩
include ha
section
variable (hf : rg a < 9218868437227405312)
include hf
theorem whole_zero (h0 : qk a = 0) : Calls Tryz.prog 78 #[.int .u64 ((a : Nat) : Int)] w (yw w (jh a) 0) := by
 obtain ⟨q, hq1, hq2, hq3⟩ := ziz hf;have hq0 : q = 0 := zzk.1 (zero_p hq1 h0);obtain ⟨r1, r2, r3⟩ := je (ng a) q (by omega);obtain ⟨M, hMd⟩ : ∃ M, M = 0 := ⟨_, rfl⟩;obtain ⟨k, hk⟩ : ∃ k, k = 53 := ⟨_, rfl⟩;obtain ⟨m0, hm0⟩ : ∃ m0 : Int, m0 = if ng a then -((M : Nat) : Int) else ((M : Nat) : Int) := ⟨_, rfl⟩
 have hM : M = qk a * 2 ^ k := by rw [h0, Nat.zero_mul, hMd]
 have hwz : qk (Ieee.double.word (ng a) q) = 0 := (zfz (ng a) (by omega) hq1).trans h0;have hfz : floatToIntVal .f64 (Ieee.double.word (ng a) q) .i64 = some m0 := by
  rw [f2i_i64 (by rw [r1]; omega) (by rw [hwz]; decide), hwz, r2, hm0, hMd]
 refine zr Tryz.func78 rfl Tryz.ntmps78 rfl ?_;have HF : Per (No) w (fun _ => True) := Per.true_;have LW := erx (No) w;have XLW := grx (No) w;have E := erx (No) w;refine srx (za rfl (qd xe ?_));intro gb1 w2 Bb1 Eb1 Gb1;have Gb1 : _ ≤ gb1 := Nat.le_trans E.size Gb1;have GLb1 := Nat.le_trans LW.size Gb1;replace E := E.trans Eb1.no;replace HF := HF.cons (zi Gb1)
 replace E := E.cons (some gb1);replace XLW := Mut.grow XLW (fun k e => Or.inr (Nat.le_trans LW.size ((zi Gb1) k e)))
 refine anx rfl (srx (mvx rfl (za rfl (qf (b := a) zev rfl (anx rfl (zj (yi (srx (mvx rfl (mvx rfl (za rfl (jz rfl rfl (anx rfl (zu 18 (.bool false) rfl ((by rw [vh, ja hf] : (.bool (vf a a != some .eq) : Value) = _)) (zp rfl (srx (mvx rfl (za rfl (zd en58 rfl ((vn _ a ha).mono ?_))))))))))))))))))));rintro e w3 ⟨rfl, hb⟩
 refine ⟨_, rfl, ?_⟩;have Ec := Ext.of_below hb No;replace Bb1 := Bb1.extN Ec NotIn.nil;replace E := E.trans Ec.no;refine zz 25 (.bool false) rfl ((by rw [decide_eq_false (by omega)] : (.bool (decide (rg a = 9218868437227405312)) : Value) = _)) (anx rfl (zp rfl (zq (zw (zk (srx (mvx rfl (za rfl (zd en79 rfl ((zvk _ a hf).mono ?_))))))))))
 rintro e w4 ⟨rfl, hb⟩;refine ⟨_, rfl, ?_⟩;have Ec := Ext.of_below hb No;replace Bb1 := Bb1.extN Ec NotIn.nil;replace E := E.trans Ec.no;refine zz 29 (.float .f64 (Ieee.double.word (ng a) q)) rfl ((by rw [hq3] : (.float .f64 (gn .zero a) : Value) = _)) (za rfl (zd en59 rfl ((Frexp_zero _ (Ieee.double.word (ng a) q) r3 (by rw [r1]; exact hq0)).mono ?_)));rintro e w5 ⟨rfl, hb⟩
 refine ⟨_, rfl, ?_⟩;have Ec := Ext.of_below hb No;replace Bb1 := Bb1.extN Ec NotIn.nil;replace E := E.trans Ec.no;refine mvx rfl (za rfl (zn rfl rfl (za rfl (zn rfl rfl (avx rfl (anx rfl (srx (mvx rfl (za rfl (zd en61 rfl ((Ldexp_zero _ (Ieee.double.word (ng a) q) r3 (by rw [r1]; exact hq0) 53).mono ?_)))))))))));rintro e w6 ⟨rfl, hb⟩;refine ⟨_, rfl, ?_⟩
 have Ec := Ext.of_below hb No;replace Bb1 := Bb1.extN Ec NotIn.nil;replace E := E.trans Ec.no;refine za rfl (zxx (z := m0) Tryz.underlying3 (by rw [Tryz.underlying76]; rfl) rfl hfz (za rfl (zd en65 rfl ((oh m0 _ (by rw [hm0]; split <;> omega) (by rw [hm0]; split <;> omega)).mono ?_))));rintro e w7 ⟨A1, c1, rfl, o1, hb⟩;refine ⟨_, rfl, ?_⟩
 have XC : ∀ q9, (Mut [(some gb1)]) q9 → q9 < w6.heap.size := (Mut.grow Mut.none_ (yl Bb1.lt));have Ec := Ext.of_below hb No;replace Bb1 := Bb1.extN Ec NotIn.nil;replace E := E.trans Ec.no;replace HF := HF.on E;replace LW := LW.step E XLW;replace E := erx (Mut [(some gb1)]) w7;replace HF := HF.and (Per.own o1 XC);refine za rfl (qd xe ?_);intro gb8 w9 Bb8 Eb8 Gb8
 have Db8_b1 : Apart (some gb8) (some gb1) := Apart.of_lt (yl Bb1.lt) Gb8;have Db1_b8 := Db8_b1.symm;have Gb8 : _ ≤ gb8 := Nat.le_trans E.size Gb8;have GLb8 := Nat.le_trans LW.size Gb8;replace Bb1 := Bb1.extN Eb8 NotIn.nil;replace E := E.trans Eb8.no;replace HF := HF.cons (zi Gb8);replace E := E.cons (some gb8)
 replace XLW := Mut.grow XLW (fun k e => Or.inr (Nat.le_trans LW.size ((zi Gb8) k e)));refine qo (qj yy rfl rfl Bb8 rfl rfl (Nat.le_of_ble_eq_true rfl) ?_);intro w10 Bx Eb8;replace Bb8 := Bx;replace Bb1 := Bb1.extN Eb8 (NotIn.cons Db1_b8 NotIn.nil);replace E := E.step1 Eb8 Mut.head;refine rnx (srx (za rfl (zd en65 rfl ((oh 2 _ (by decide) (by decide)).mono ?_))))
 rintro e w11 ⟨A2, c2, rfl, o2, hb⟩;refine ⟨_, rfl, ?_⟩;have XC : ∀ q9, (Mut [(some gb8), (some gb1)]) q9 → q9 < w10.heap.size := (Mut.grow (Mut.grow Mut.none_ (yl Bb1.lt)) (yl Bb8.lt));have Ec := Ext.of_below hb No;replace Bb8 := Bb8.extN Ec NotIn.nil;replace Bb1 := Bb1.extN Ec NotIn.nil;replace E := E.trans Ec.no;replace HF := HF.on E;replace LW := LW.step E XLW
 replace E := erx (Mut [(some gb8), (some gb1)]) w11;replace HF := HF.and (Per.own o2 XC);refine za rfl (qd xe ?_);intro gb12 w13 Bb12 Eb12 Gb12;have Db12_b8 : Apart (some gb12) (some gb8) := Apart.of_lt (yl Bb8.lt) Gb12;have Db8_b12 := Db12_b8.symm;have Db12_b1 : Apart (some gb12) (some gb1) := Apart.of_lt (yl Bb1.lt) Gb12;have Db1_b12 := Db12_b1.symm
 have Gb12 : _ ≤ gb12 := Nat.le_trans E.size Gb12;have GLb12 := Nat.le_trans LW.size Gb12;replace Bb8 := Bb8.extN Eb12 NotIn.nil;replace Bb1 := Bb1.extN Eb12 NotIn.nil;replace E := E.trans Eb12.no;replace HF := HF.cons (zi Gb12);replace E := E.cons (some gb12);replace XLW := Mut.grow XLW (fun k e => Or.inr (Nat.le_trans LW.size ((zi Gb12) k e)))
 refine qo (qj yy rfl rfl Bb12 rfl rfl (Nat.le_of_ble_eq_true rfl) ?_);intro w14 Bx Eb12;replace Bb12 := Bx;replace Bb8 := Bb8.extN Eb12 (NotIn.cons Db8_b12 NotIn.nil);replace Bb1 := Bb1.extN Eb12 (NotIn.cons Db1_b12 NotIn.nil);replace E := E.step1 Eb12 Mut.head;replace HF := HF.on E;replace LW := LW.step E XLW
 have SB : ∀ q9, Mut [(some gb8), (some gb1)] q9 → Mut [(some gb12), (some gb8), (some gb1)] q9 := (Mut.skip (Mut.keep (Mut.keep Mut.nil_)));replace HF := HF.less SB;replace XLW := fun k h => XLW k (SB k h);clear SB;replace E := erx (Mut [(some gb8), (some gb1)]) w14;replace HF := HF.and (Per.blkN Bb12 (NotIn.cons Db12_b8 (NotIn.cons Db12_b1 NotIn.nil)))
 refine rnx (zj (srx (mvx rfl (za rfl (gf (z := (-53)) rfl rfl (by kernel_rfl) (anx rfl (srx (mvx rfl (za rfl (og rfl rfl (rnx (zp rfl (zq (zk (zj (srx (mvx rfl (za rfl (jy rfl rfl (rnx (zp rfl (zq (zk (zj ?_))))))))))))))))))))))))
 have OY : ∀ q9, (Mut (outM [])) q9 → q9 < (World.drew w14).heap.size → (Mut [(some gb8), (some gb1)]) q9 := fun k h _ => (Mut.none_) k h;refine jb (Mut [(some gb8), (some gb1)]) (Mut.grow (Mut.grow Mut.none_ (yl Bb1.lt)) (yl Bb8.lt)) [⟨8, 9, 24, #[.bool false, .slice none 0 0]⟩] [] (zmq [Fx.of (.agg #[.bool (decide ((2 : Int) < 0)), .slice A2 (limbs 2).length c2]),
  Fx.of (.int .i64 (-53)),
  Fx.of (.int .i64 ((k : Nat) : Int)),
  ⟨(Option Addr × Nat), fun (A3, c3) => .agg #[.bool (decide (((k : Nat) : Int) < 0)), .slice A3 (limbs ((k : Nat) : Int)).length c3], fun (A3, c3) b => (Nums b A3 (limbs ((k : Nat) : Int)))⟩,
  ⟨(Option Addr × Nat), fun (A4, c4) => .tuple #[.agg #[.bool (decide ((2 : Int) ^ k < 0)), .slice A4 (limbs ((2 : Int) ^ k)).length c4], .int .i64 0], fun (A4, c4) b => (Nums b A4 (limbs ((2 : Int) ^ k)))⟩,
  ⟨(Option Addr × Nat), fun (A4, c4) => .tuple #[.agg #[.bool (decide ((2 : Int) ^ k < 0)), .slice A4 (limbs ((2 : Int) ^ k)).length c4], .int .i64 0], fun (A4, c4) b => (Nums b A4 (limbs ((2 : Int) ^ k)))⟩,
  ⟨(Option Addr × Nat), fun (A4, c4) => .agg #[.bool (decide ((2 : Int) ^ k < 0)), .slice A4 (limbs ((2 : Int) ^ k)).length c4], fun (A4, c4) b => (Nums b A4 (limbs ((2 : Int) ^ k)))⟩,
  Fx.of (.int .i64 0),
  Fx.of undef,
  Fx.of undef,
  Fx.of (.int .i64 0)]) mixed rfl trivial (fun _ h => by cases h) ?_ ?_
 · refine ⟨?_, ?_, ?_, ?_, ?_, ?_, ?_, ?_, ?_, ?_, ?_, trivial⟩
   · intro vs X wq K;have LE := K.1;exact zo Tryz.underlying24 rfl yy rfl (HF.on (E.drew.trans (LE.mono OY))).here.2 rfl ⟨Below.refl _ _, Left.of rfl⟩
   · intro vs X wq K;exact zy rfl ⟨Below.refl _ _, Left.of rfl⟩
   · intro vs X wq K;obtain ⟨_, e1, k1⟩ := K.dep 1 rfl rfl rfl;refine ze 61 (.int .i64 (-53)) rfl e1 ?_;exact zwv (z := 53) rfl (by kernel_rfl) ⟨Below.refl _ _, Left.of (by rw [hk]; rfl)⟩
   · intro vs X wq K;have XN := K.2.1;obtain ⟨_, e2, k2⟩ := K.dep 2 rfl rfl rfl;refine ze 62 (.int .i64 ((k : Nat) : Int)) rfl e2 (zd en65 rfl ((oh ((k : Nat) : Int) _ (by omega) (by omega)).mono ?_));rintro e w2 ⟨A3, c3, rfl, o3, hb⟩;exact ⟨_, rfl, hb, ⟨(A3, c3), rfl, Per.own o3 XN⟩⟩
   · intro vs X wq K;have LE := K.1;have XN := K.2.1;obtain ⟨_, e0, k0⟩ := K.dep 0 rfl rfl rfl;refine ze 60 (.agg #[.bool (decide ((2 : Int) < 0)), .slice A2 (limbs 2).length c2]) rfl e0 ?_;obtain ⟨⟨A3, c3⟩, e3, k3⟩ := K.dep 3 rfl rfl rfl
     refine ze 63 (.agg #[.bool (decide (((k : Nat) : Int) < 0)), .slice A3 (limbs ((k : Nat) : Int)).length c3]) rfl e3 (zd en98 rfl ((two_pow k A2 A3 c2 c3 _ (by omega) (HF.on (E.drew.trans (LE.mono OY))).here.1.2 k3.here).mono ?_));rintro e w2 ⟨A4, c4, rfl, o4, hb⟩;exact ⟨_, rfl, hb, ⟨(A4, c4), rfl, Per.own o4 XN⟩⟩
   · intro vs X wq K;obtain ⟨⟨A4, c4⟩, e4, k4⟩ := K.dep 4 rfl rfl rfl;refine ze 64 (.tuple #[.agg #[.bool (decide ((2 : Int) ^ k < 0)), .slice A4 (limbs ((2 : Int) ^ k)).length c4], .int .i64 0]) rfl e4 ?_;exact zy rfl ⟨Below.refl _ _, ⟨⟨A4, c4⟩, rfl, (k4.map (fun _ h => h))⟩⟩
   · intro vs X wq K;obtain ⟨⟨A4, c4⟩, e5, k5⟩ := K.dep 5 rfl rfl rfl;refine ze 59 (.tuple #[.agg #[.bool (decide ((2 : Int) ^ k < 0)), .slice A4 (limbs ((2 : Int) ^ k)).length c4], .int .i64 0]) rfl e5 ?_;exact zn rfl rfl ⟨Below.refl _ _, ⟨⟨A4, c4⟩, rfl, (k5.map (fun _ h => h))⟩⟩
   · intro vs X wq K;obtain ⟨⟨A4, c4⟩, e5, k5⟩ := K.dep 5 rfl rfl rfl;refine ze 59 (.tuple #[.agg #[.bool (decide ((2 : Int) ^ k < 0)), .slice A4 (limbs ((2 : Int) ^ k)).length c4], .int .i64 0]) rfl e5 ?_;exact zn rfl rfl ⟨Below.refl _ _, Left.of rfl⟩
   · exact ⟨_, _, _, _, _, rfl, xe, rfl⟩
   · refine ⟨_, _, _, _, _, rfl, rfl, rfl, yy, fun vs X wq K => ?_⟩;obtain ⟨⟨A4, c4⟩, e0, _⟩ := K.dep 6 rfl rfl rfl;exact ⟨vs 6, rfl, by rw [e0]; rfl, by rw [e0]; rfl⟩
   · intro vs X wq K;obtain ⟨_, e7, k7⟩ := K.dep 7 rfl rfl rfl;refine ze 66 (.int .i64 0) rfl e7 ?_;exact qr rfl ⟨Below.refl _ _, Left.of rfl⟩
 intro vs w15 LE AO AL AF AA;have LBb8 := Bb8;have LBb1 := Bb1;replace Bb8 := Bb8.drew.extN LE NotIn.nil;replace Bb1 := Bb1.drew.extN LE NotIn.nil;replace E := E.drew.trans (LE.mono OY);obtain ⟨⟨A4, c4⟩, e6, k6⟩ := AL.2.2.2.2.2.2.1;replace HF := HF.on E;replace LW := LW.step E XLW;replace E := erx (Mut [(some gb8), (some gb1)]) w15
 replace HF := HF.and ((k6.map (fun _ h => h) : Per (Mut [(some gb8), (some gb1)]) w15 (fun b => Nums b A4 (limbs ((2 : Int) ^ k)))));obtain ⟨gb16, v0, y0, qb16, Gb16, Bb16, ey, ev0⟩ := AF.1;cases ey
 obtain rfl : vs 6 = v0 := Option.some.inj ev0;rw [e6] at Bb16;have Db16_b8 : Apart (some gb16) (some gb8) := Apart.of_lt (yl LBb8.lt) Gb16;have Db8_b16 := Db16_b8.symm;have Db16_b1 : Apart (some gb16) (some gb1) := Apart.of_lt (yl LBb1.lt) Gb16;have Db1_b16 := Db16_b1.symm;replace HF := HF.on E;replace LW := LW.step E XLW;replace E := erx (Mut [(some gb8), (some gb1)]) w15
 replace HF := HF.and ((Per.blkN Bb16 (NotIn.cons Db16_b8 (NotIn.cons Db16_b1 NotIn.nil)) : Per (Mut [(some gb8), (some gb1)]) w15 (fun b => Blk b gb16 24 #[.bool (decide ((2 : Int) ^ k < 0)), .slice A4 (limbs ((2 : Int) ^ k)).length c4])));have e8 := qb16;refine gu (τ := [(2, _), (3, _), (7, _), (11, .pointer (some ⟨gb16, 0, none⟩))]) ⟨rfl, rfl, rfl, congrArg some e8, trivial⟩ ?_
 clear AL AF AA LE AO OY e6 e8 k6 LBb8 LBb1;refine zk (srx (za rfl (zo Tryz.underlying24 rfl yy rfl Bb8 rfl (za rfl (zo Tryz.underlying24 rfl yy rfl (HF.on E).here.2 rfl (za rfl (zd en99 rfl ((div_two hM hm0 (by omega) (by omega) A1 A4 c1 c4 _ (HF.on E).here.1.1.1.1.2 (HF.on E).here.1.2).mono ?_))))))));rintro e w17 ⟨A5, c5, B6, c6, r, rfl, o5, hb⟩
 refine ⟨_, rfl, ?_⟩;have XC : ∀ q9, (Mut [(some gb8), (some gb1)]) q9 → q9 < w15.heap.size := (Mut.grow (Mut.grow Mut.none_ (yl Bb1.lt)) (yl Bb8.lt));have SC := Nat.le_trans LW.size E.size;have Ec := Ext.of_below hb No;replace Bb8 := Bb8.extN Ec NotIn.nil;replace Bb1 := Bb1.extN Ec NotIn.nil;replace E := E.trans Ec.no;have hS := SC;replace HF := HF.on E;replace LW := LW.step E XLW
 replace E := erx (Mut [(some gb8), (some gb1)]) w17;replace HF := HF.and (Per.ownX o5 XC);refine mvx rfl (za rfl (zn rfl rfl (za rfl (zn rfl rfl (za rfl (zn rfl rfl (za rfl (qd xe ?_))))))));intro gb18 w19 Bb18 Eb18 Gb18;have Db18_b8 : Apart (some gb18) (some gb8) := Apart.of_lt (yl Bb8.lt) Gb18;have Db8_b18 := Db18_b8.symm
 have Db18_b1 : Apart (some gb18) (some gb1) := Apart.of_lt (yl Bb1.lt) Gb18;have Db1_b18 := Db18_b1.symm;have Gb18 : _ ≤ gb18 := Nat.le_trans E.size Gb18;have GLb18 := Nat.le_trans LW.size Gb18;replace Bb8 := Bb8.extN Eb18 NotIn.nil;replace Bb1 := Bb1.extN Eb18 NotIn.nil;replace E := E.trans Eb18.no;replace HF := HF.cons (zi Gb18);replace E := E.cons (some gb18)
 replace XLW := Mut.grow XLW (fun k e => Or.inr (Nat.le_trans LW.size ((zi Gb18) k e)));refine za rfl (qd xe ?_);intro gb20 w21 Bb20 Eb20 Gb20;have Db20_b18 : Apart (some gb20) (some gb18) := Apart.of_lt (yl Bb18.lt) Gb20;have Db18_b20 := Db20_b18.symm;have Db20_b8 : Apart (some gb20) (some gb8) := Apart.of_lt (yl Bb8.lt) Gb20;have Db8_b20 := Db20_b8.symm
 have Db20_b1 : Apart (some gb20) (some gb1) := Apart.of_lt (yl Bb1.lt) Gb20;have Db1_b20 := Db20_b1.symm;have Gb20 : _ ≤ gb20 := Nat.le_trans E.size Gb20;have GLb20 := Nat.le_trans LW.size Gb20;replace Bb18 := Bb18.extN Eb20 NotIn.nil;replace Bb8 := Bb8.extN Eb20 NotIn.nil;replace Bb1 := Bb1.extN Eb20 NotIn.nil;replace E := E.trans Eb20.no;replace HF := HF.cons (zi Gb20)
 replace E := E.cons (some gb20);replace XLW := Mut.grow XLW (fun k e => Or.inr (Nat.le_trans LW.size ((zi Gb20) k e)));refine qo (qj yy rfl rfl Bb18 rfl rfl (Nat.le_of_ble_eq_true rfl) ?_);intro w22 Bx Eb18;replace Bb18 := Bx;replace Bb20 := Bb20.extN Eb18 (NotIn.cons Db20_b18 NotIn.nil);replace Bb8 := Bb8.extN Eb18 (NotIn.cons Db8_b18 NotIn.nil)
 replace Bb1 := Bb1.extN Eb18 (NotIn.cons Db1_b18 NotIn.nil);replace E := E.step1 Eb18 (Mut.tail Mut.head);replace HF := HF.on E;replace LW := LW.step E XLW;have SB : ∀ q9, Mut [(some gb20), (some gb8), (some gb1)] q9 → Mut [(some gb20), (some gb18), (some gb8), (some gb1)] q9 := (Mut.keep (Mut.skip (Mut.keep (Mut.keep Mut.nil_))));replace HF := HF.less SB;replace XLW := fun k h => XLW k (SB k h)
 clear SB;replace E := erx (Mut [(some gb20), (some gb8), (some gb1)]) w22;replace HF := HF.and (Per.blkN Bb18 (NotIn.cons Db18_b20 (NotIn.cons Db18_b8 (NotIn.cons Db18_b1 NotIn.nil))));refine qo (qj yy rfl rfl Bb20 rfl rfl (Nat.le_of_ble_eq_true rfl) ?_);intro w23 Bx Eb20;replace Bb20 := Bx;replace Bb8 := Bb8.extN Eb20 (NotIn.cons Db8_b20 NotIn.nil)
 replace Bb1 := Bb1.extN Eb20 (NotIn.cons Db1_b20 NotIn.nil);replace E := E.step1 Eb20 Mut.head;replace HF := HF.on E;replace LW := LW.step E XLW;have SB : ∀ q9, Mut [(some gb8), (some gb1)] q9 → Mut [(some gb20), (some gb8), (some gb1)] q9 := (Mut.skip (Mut.keep (Mut.keep Mut.nil_)));replace HF := HF.less SB;replace XLW := fun k h => XLW k (SB k h);clear SB
 replace E := erx (Mut [(some gb8), (some gb1)]) w23;replace HF := HF.and (Per.blkN Bb20 (NotIn.cons Db20_b8 (NotIn.cons Db20_b1 NotIn.nil)));refine anx rfl (srx (za rfl (zo Tryz.underlying24 rfl yy rfl (HF.on E).here.1.2 rfl (qo (qj yy rfl rfl Bb1 rfl rfl (Nat.le_of_ble_eq_true rfl) ?_)))));intro w24 Bx Eb1;replace Bb1 := Bx
 replace Bb8 := Bb8.extN Eb1 (NotIn.cons Db8_b1 NotIn.nil);replace E := E.step1 Eb1 (Mut.tail Mut.head);replace HF := HF.on E;replace LW := LW.step E XLW;have SB : ∀ q9, Mut [(some gb8)] q9 → Mut [(some gb8), (some gb1)] q9 := (Mut.keep (Mut.skip Mut.nil_));replace HF := HF.less SB;replace XLW := fun k h => XLW k (SB k h);clear SB;replace E := erx (Mut [(some gb8)]) w24
 replace HF := HF.and (Per.blkN Bb1 (NotIn.cons Db1_b8 NotIn.nil));refine anx rfl (zm (zl (rs := [.cell 2 24, .tmp 3]) (vs := [_, _]) rfl ⟨⟨_, rfl, jc Tryz.underlying24 rfl yy (HF.on E).here.2 rfl⟩, rfl, trivial⟩ ?_));exact ⟨A5, c5, rfl, ((HF.on E).here.1.1.1.2).mono hS, (LW.step E XLW).toBelow⟩
/-! ### a whole number that is not nought -/
theorem whole_num (h0 : qk a ≠ 0) : Calls Tryz.prog 78 #[.int .u64 ((a : Nat) : Int)] w (yw w (jh a) 0) := by
 obtain ⟨q, hq1, hq2, hq3⟩ := ziz hf;have hqf : q < 9218868437227405312 := by omega
 have hq0 : q ≠ 0 := fun e => by
  subst e;rw [kd] at hq1;exact h0 (pos_zero (xf 1074) hq1)
 obtain ⟨r1, r2, r3⟩ := je (ng a) q (by omega);obtain ⟨T, hT⟩ : ∃ T, T = Ieee.double.word (ng a) q := ⟨_, rfl⟩;have hT1 : rg T = q := by rw [hT, r1]
 have hT2 : ng T = ng a := by rw [hT, r2]
 obtain ⟨F, hF⟩ : ∃ F, F = frF T := ⟨_, rfl⟩;have hmn := mg_nr hq0;have hFp : rg F = 4602678819172646912 + (mg (nr q) - 4503599627370496) ∧ ng F = ng a ∧ F < 18446744073709551616 := by
  rw [hF, frF, hT1, hT2];exact je _ _ (by omega)
 obtain ⟨fq1, fq2⟩ := fullQ (r := q) hq0;have hFv : vl (rg F) = mg (nr q) * 2 ^ 1021 := by
  rw [hFp.1, ← frF_pos hqf];exact (frF_parts hqf hq0).2.2
 have fq3 : vl (1074 * 4503599627370496 + mg (nr q)) = vl (rg F) * 2 ^ 53 := by rewrite [fq1, hFv]; exact zwq (p := 1074) (q := 1021) (s := 53) (by decide) _
 obtain ⟨M, hMd⟩ : ∃ M, M = mg (nr q) := ⟨_, rfl⟩;obtain ⟨m0, hm0⟩ : ∃ m0 : Int, m0 = if ng a then -((M : Nat) : Int) else ((M : Nat) : Int) := ⟨_, rfl⟩
 have fw := je (ng F) (1074 * 4503599627370496 + mg (nr q)) (by omega);have hwM : qk (Ieee.double.word (ng F) (1074 * 4503599627370496 + mg (nr q))) = M := by rw [hMd]; exact zfz (ng F) fq2 fq1
 have hfz : floatToIntVal .f64 (Ieee.double.word (ng F) (1074 * 4503599627370496 + mg (nr q))) .i64 = some m0 := by
  rw [f2i_i64 (by rw [fw.1]; exact fq2) (by rw [hwM]; omega), hwM, fw.2.1, hFp.2.1, hm0]
 have hE : frE T = ((ex (nr q) : Nat) : Int) - 1021 - ((nd q : Nat) : Int) := by
  have := frE_pos hqf;rw [← this];unfold frE;rw [hT1, (zjv (r := q) (by omega)).1]
 have hval := nr_value hq0;rw [hq1] at hval;have hxn : ex (nr q) ≤ 2045 := by have := zlx hq0 hqf; unfold ex; split <;> omega
 have hnd : nd q ≤ 52 := by unfold nd; split <;> omega
 refine zr Tryz.func78 rfl Tryz.ntmps78 rfl ?_;have HF : Per (No) w (fun _ => True) := Per.true_;have LW := erx (No) w;have XLW := grx (No) w;have E := erx (No) w;refine srx (za rfl (qd xe ?_));intro gb1 w2 Bb1 Eb1 Gb1;have Gb1 : _ ≤ gb1 := Nat.le_trans E.size Gb1;have GLb1 := Nat.le_trans LW.size Gb1;replace E := E.trans Eb1.no;replace HF := HF.cons (zi Gb1)
 replace E := E.cons (some gb1);replace XLW := Mut.grow XLW (fun k e => Or.inr (Nat.le_trans LW.size ((zi Gb1) k e)))
 refine anx rfl (srx (mvx rfl (za rfl (qf (b := a) zev rfl (anx rfl (zj (yi (srx (mvx rfl (mvx rfl (za rfl (jz rfl rfl (anx rfl (zu 18 (.bool false) rfl ((by rw [vh, ja hf] : (.bool (vf a a != some .eq) : Value) = _)) (zp rfl (srx (mvx rfl (za rfl (zd en58 rfl ((vn _ a ha).mono ?_))))))))))))))))))));rintro e w3 ⟨rfl, hb⟩
 refine ⟨_, rfl, ?_⟩;have Ec := Ext.of_below hb No;replace Bb1 := Bb1.extN Ec NotIn.nil;replace E := E.trans Ec.no;refine zz 25 (.bool false) rfl ((by rw [decide_eq_false (by omega)] : (.bool (decide (rg a = 9218868437227405312)) : Value) = _)) (anx rfl (zp rfl (zq (zw (zk (srx (mvx rfl (za rfl (zd en79 rfl ((zvk _ a hf).mono ?_))))))))))
 rintro e w4 ⟨rfl, hb⟩;refine ⟨_, rfl, ?_⟩;have Ec := Ext.of_below hb No;replace Bb1 := Bb1.extN Ec NotIn.nil;replace E := E.trans Ec.no
 refine zz 29 (.float .f64 (Ieee.double.word (ng a) q)) rfl ((by rw [hq3] : (.float .f64 (gn .zero a) : Value) = _)) (zz 29 (.float .f64 T) rfl ((by rw [hT] : (.float .f64 (Ieee.double.word (ng a) q) : Value) = _)) (za rfl (zd en59 rfl ((zzx _ T (by rw [hT]; exact r3) (by rw [hT1]; exact hq0) (by rw [hT1]; exact hqf)).mono ?_))));rintro e w5 ⟨rfl, hb⟩
 refine ⟨_, rfl, ?_⟩;have Ec := Ext.of_below hb No;replace Bb1 := Bb1.extN Ec NotIn.nil;replace E := E.trans Ec.no
 refine zz 30 (.tuple #[.float .f64 F, .int .i64 (frE T)]) rfl ((by rw [hF] : (.tuple #[.float .f64 (frF T), .int .i64 (frE T)] : Value) = _)) (mvx rfl (za rfl (zn rfl rfl (za rfl (zn rfl rfl (avx rfl (anx rfl (srx (mvx rfl (za rfl (zd en61 rfl ((zyv _ F hFp.2.2 (by rw [hFp.1]; omega) (by rw [hFp.1]; omega) 53 (1074 * 4503599627370496 + mg (nr q)) (by decide) fq2 fq3).mono ?_))))))))))))
 rintro e w6 ⟨rfl, hb⟩;refine ⟨_, rfl, ?_⟩;have Ec := Ext.of_below hb No;replace Bb1 := Bb1.extN Ec NotIn.nil;replace E := E.trans Ec.no;refine za rfl (zxx (z := m0) Tryz.underlying3 (by rw [Tryz.underlying76]; rfl) rfl hfz (za rfl (zd en65 rfl ((oh m0 _ (by rw [hm0]; split <;> omega) (by rw [hm0]; split <;> omega)).mono ?_))));rintro e w7 ⟨A1, c1, rfl, o1, hb⟩
 refine ⟨_, rfl, ?_⟩;have XC : ∀ q9, (Mut [(some gb1)]) q9 → q9 < w6.heap.size := (Mut.grow Mut.none_ (yl Bb1.lt));have Ec := Ext.of_below hb No;replace Bb1 := Bb1.extN Ec NotIn.nil;replace E := E.trans Ec.no;replace HF := HF.on E;replace LW := LW.step E XLW;replace E := erx (Mut [(some gb1)]) w7;replace HF := HF.and (Per.own o1 XC);refine za rfl (qd xe ?_)
 intro gb8 w9 Bb8 Eb8 Gb8;have Db8_b1 : Apart (some gb8) (some gb1) := Apart.of_lt (yl Bb1.lt) Gb8;have Db1_b8 := Db8_b1.symm;have Gb8 : _ ≤ gb8 := Nat.le_trans E.size Gb8;have GLb8 := Nat.le_trans LW.size Gb8;replace Bb1 := Bb1.extN Eb8 NotIn.nil;replace E := E.trans Eb8.no;replace HF := HF.cons (zi Gb8);replace E := E.cons (some gb8)
 replace XLW := Mut.grow XLW (fun k e => Or.inr (Nat.le_trans LW.size ((zi Gb8) k e)));refine qo (qj yy rfl rfl Bb8 rfl rfl (Nat.le_of_ble_eq_true rfl) ?_);intro w10 Bx Eb8;replace Bb8 := Bx;replace Bb1 := Bb1.extN Eb8 (NotIn.cons Db1_b8 NotIn.nil);replace E := E.step1 Eb8 Mut.head;refine rnx (srx (za rfl (zd en65 rfl ((oh 2 _ (by decide) (by decide)).mono ?_))))
 rintro e w11 ⟨A2, c2, rfl, o2, hb⟩;refine ⟨_, rfl, ?_⟩;have XC : ∀ q9, (Mut [(some gb8), (some gb1)]) q9 → q9 < w10.heap.size := (Mut.grow (Mut.grow Mut.none_ (yl Bb1.lt)) (yl Bb8.lt));have Ec := Ext.of_below hb No;replace Bb8 := Bb8.extN Ec NotIn.nil;replace Bb1 := Bb1.extN Ec NotIn.nil;replace E := E.trans Ec.no;replace HF := HF.on E;replace LW := LW.step E XLW
 replace E := erx (Mut [(some gb8), (some gb1)]) w11;replace HF := HF.and (Per.own o2 XC);refine za rfl (qd xe ?_);intro gb12 w13 Bb12 Eb12 Gb12;have Db12_b8 : Apart (some gb12) (some gb8) := Apart.of_lt (yl Bb8.lt) Gb12;have Db8_b12 := Db12_b8.symm;have Db12_b1 : Apart (some gb12) (some gb1) := Apart.of_lt (yl Bb1.lt) Gb12;have Db1_b12 := Db12_b1.symm
 have Gb12 : _ ≤ gb12 := Nat.le_trans E.size Gb12;have GLb12 := Nat.le_trans LW.size Gb12;replace Bb8 := Bb8.extN Eb12 NotIn.nil;replace Bb1 := Bb1.extN Eb12 NotIn.nil;replace E := E.trans Eb12.no;replace HF := HF.cons (zi Gb12);replace E := E.cons (some gb12);replace XLW := Mut.grow XLW (fun k e => Or.inr (Nat.le_trans LW.size ((zi Gb12) k e)))
 refine qo (qj yy rfl rfl Bb12 rfl rfl (Nat.le_of_ble_eq_true rfl) ?_);intro w14 Bx Eb12;replace Bb12 := Bx;replace Bb8 := Bb8.extN Eb12 (NotIn.cons Db8_b12 NotIn.nil);replace Bb1 := Bb1.extN Eb12 (NotIn.cons Db1_b12 NotIn.nil);replace E := E.step1 Eb12 Mut.head;replace HF := HF.on E;replace LW := LW.step E XLW
 have SB : ∀ q9, Mut [(some gb8), (some gb1)] q9 → Mut [(some gb12), (some gb8), (some gb1)] q9 := (Mut.skip (Mut.keep (Mut.keep Mut.nil_)));replace HF := HF.less SB;replace XLW := fun k h => XLW k (SB k h);clear SB;replace E := erx (Mut [(some gb8), (some gb1)]) w14;replace HF := HF.and (Per.blkN Bb12 (NotIn.cons Db12_b8 (NotIn.cons Db12_b1 NotIn.nil)))
 refine rnx (zj (srx (mvx rfl (za rfl (gf rfl rfl (yg (by omega)) (anx rfl (srx (mvx rfl (za rfl (og rfl rfl (rnx (zu 41 (.bool (decide (1074 + nd q ≤ ex (nr q)))) rfl (bool_dec (by rw [hE]; omega)) (yx rfl (fun hc => ?_) (fun hc => ?_))))))))))))))
 ·
  have hc := of_decide_eq_true hc;obtain ⟨k, hk⟩ : ∃ k, k = ex (nr q) - (1074 + nd q) := ⟨_, rfl⟩;have hW : qk a = M * 2 ^ k := val_hi hval hc hk hMd;have hprod : m0 * (2 : Int) ^ k = jh a := by
   rw [jh, hW, hm0];split
   · rw [Int.neg_mul, Int.natCast_mul, Int.natCast_pow]; rfl
   · rw [Int.natCast_mul, Int.natCast_pow]; rfl
  have hwl := wholeI_lt hf;refine zu 6 (.int .i64 ((k : Nat) : Int)) rfl ((by rw [hE]; congr 1; omega : (.int .i64 ((frE T) - 53) : Value) = _)) (zj ?_);have OY : ∀ q9, (Mut (outM [])) q9 → q9 < (World.drew w14).heap.size → (Mut [(some gb8), (some gb1)]) q9 := fun k h _ => (Mut.none_) k h
  refine jb (Mut [(some gb8), (some gb1)]) (Mut.grow (Mut.grow Mut.none_ (yl Bb1.lt)) (yl Bb8.lt)) [⟨7, 8, 24, #[.bool false, .slice none 0 0]⟩] [] (zmq [Fx.of (.agg #[.bool (decide ((2 : Int) < 0)), .slice A2 (limbs 2).length c2]),
   Fx.of (.int .i64 ((k : Nat) : Int)),
   ⟨(Option Addr × Nat), fun (A3, c3) => .agg #[.bool (decide (((k : Nat) : Int) < 0)), .slice A3 (limbs ((k : Nat) : Int)).length c3], fun (A3, c3) b => (Nums b A3 (limbs ((k : Nat) : Int)))⟩,
   ⟨(Option Addr × Nat), fun (A4, c4) => .tuple #[.agg #[.bool (decide ((2 : Int) ^ k < 0)), .slice A4 (limbs ((2 : Int) ^ k)).length c4], .int .i64 0], fun (A4, c4) b => (Nums b A4 (limbs ((2 : Int) ^ k)))⟩,
   ⟨(Option Addr × Nat), fun (A4, c4) => .tuple #[.agg #[.bool (decide ((2 : Int) ^ k < 0)), .slice A4 (limbs ((2 : Int) ^ k)).length c4], .int .i64 0], fun (A4, c4) b => (Nums b A4 (limbs ((2 : Int) ^ k)))⟩,
   ⟨(Option Addr × Nat), fun (A4, c4) => .agg #[.bool (decide ((2 : Int) ^ k < 0)), .slice A4 (limbs ((2 : Int) ^ k)).length c4], fun (A4, c4) b => (Nums b A4 (limbs ((2 : Int) ^ k)))⟩,
   Fx.of (.int .i64 0),
   Fx.of undef,
   Fx.of undef,
   Fx.of (.int .i64 0)]) mixed rfl trivial (fun _ h => by cases h) ?_ ?_
  · refine ⟨?_, ?_, ?_, ?_, ?_, ?_, ?_, ?_, ?_, ?_, trivial⟩
    · intro vs X wq K;have LE := K.1;exact zo Tryz.underlying24 rfl yy rfl (HF.on (E.drew.trans (LE.mono OY))).here.2 rfl ⟨Below.refl _ _, Left.of rfl⟩
    · intro vs X wq K;exact zy rfl ⟨Below.refl _ _, Left.of rfl⟩
    · intro vs X wq K;have XN := K.2.1;obtain ⟨_, e1, k1⟩ := K.dep 1 rfl rfl rfl;refine ze 44 (.int .i64 ((k : Nat) : Int)) rfl e1 (zd en65 rfl ((oh ((k : Nat) : Int) _ (by omega) (by omega)).mono ?_));rintro e w2 ⟨A3, c3, rfl, o3, hb⟩;exact ⟨_, rfl, hb, ⟨(A3, c3), rfl, Per.own o3 XN⟩⟩
    · intro vs X wq K;have LE := K.1;have XN := K.2.1;obtain ⟨_, e0, k0⟩ := K.dep 0 rfl rfl rfl;refine ze 43 (.agg #[.bool (decide ((2 : Int) < 0)), .slice A2 (limbs 2).length c2]) rfl e0 ?_;obtain ⟨⟨A3, c3⟩, e2, k2⟩ := K.dep 2 rfl rfl rfl
      refine ze 45 (.agg #[.bool (decide (((k : Nat) : Int) < 0)), .slice A3 (limbs ((k : Nat) : Int)).length c3]) rfl e2 (zd en98 rfl ((two_pow k A2 A3 c2 c3 _ (by omega) (HF.on (E.drew.trans (LE.mono OY))).here.1.2 k2.here).mono ?_));rintro e w2 ⟨A4, c4, rfl, o4, hb⟩;exact ⟨_, rfl, hb, ⟨(A4, c4), rfl, Per.own o4 XN⟩⟩
    · intro vs X wq K;obtain ⟨⟨A4, c4⟩, e3, k3⟩ := K.dep 3 rfl rfl rfl;refine ze 46 (.tuple #[.agg #[.bool (decide ((2 : Int) ^ k < 0)), .slice A4 (limbs ((2 : Int) ^ k)).length c4], .int .i64 0]) rfl e3 ?_;exact zy rfl ⟨Below.refl _ _, ⟨⟨A4, c4⟩, rfl, (k3.map (fun _ h => h))⟩⟩
    · intro vs X wq K;obtain ⟨⟨A4, c4⟩, e4, k4⟩ := K.dep 4 rfl rfl rfl;refine ze 42 (.tuple #[.agg #[.bool (decide ((2 : Int) ^ k < 0)), .slice A4 (limbs ((2 : Int) ^ k)).length c4], .int .i64 0]) rfl e4 ?_;exact zn rfl rfl ⟨Below.refl _ _, ⟨⟨A4, c4⟩, rfl, (k4.map (fun _ h => h))⟩⟩
    · intro vs X wq K;obtain ⟨⟨A4, c4⟩, e4, k4⟩ := K.dep 4 rfl rfl rfl;refine ze 42 (.tuple #[.agg #[.bool (decide ((2 : Int) ^ k < 0)), .slice A4 (limbs ((2 : Int) ^ k)).length c4], .int .i64 0]) rfl e4 ?_;exact zn rfl rfl ⟨Below.refl _ _, Left.of rfl⟩
    · exact ⟨_, _, _, _, _, rfl, xe, rfl⟩
    · refine ⟨_, _, _, _, _, rfl, rfl, rfl, yy, fun vs X wq K => ?_⟩;obtain ⟨⟨A4, c4⟩, e0, _⟩ := K.dep 5 rfl rfl rfl;exact ⟨vs 5, rfl, by rw [e0]; rfl, by rw [e0]; rfl⟩
    · intro vs X wq K;obtain ⟨_, e6, k6⟩ := K.dep 6 rfl rfl rfl;refine ze 48 (.int .i64 0) rfl e6 ?_;exact qr rfl ⟨Below.refl _ _, Left.of rfl⟩
  intro vs w15 LE AO AL AF AA;have LBb8 := Bb8;have LBb1 := Bb1;replace Bb8 := Bb8.drew.extN LE NotIn.nil;replace Bb1 := Bb1.drew.extN LE NotIn.nil;replace E := E.drew.trans (LE.mono OY);obtain ⟨⟨A4, c4⟩, e5, k5⟩ := AL.2.2.2.2.2.1;replace HF := HF.on E;replace LW := LW.step E XLW;replace E := erx (Mut [(some gb8), (some gb1)]) w15
  replace HF := HF.and ((k5.map (fun _ h => h) : Per (Mut [(some gb8), (some gb1)]) w15 (fun b => Nums b A4 (limbs ((2 : Int) ^ k)))));obtain ⟨gb16, v0, y0, qb16, Gb16, Bb16, ey, ev0⟩ := AF.1;cases ey
  obtain rfl : vs 5 = v0 := Option.some.inj ev0;rw [e5] at Bb16;have Db16_b8 : Apart (some gb16) (some gb8) := Apart.of_lt (yl LBb8.lt) Gb16;have Db8_b16 := Db16_b8.symm;have Db16_b1 : Apart (some gb16) (some gb1) := Apart.of_lt (yl LBb1.lt) Gb16;have Db1_b16 := Db16_b1.symm;replace HF := HF.on E;replace LW := LW.step E XLW;replace E := erx (Mut [(some gb8), (some gb1)]) w15
  replace HF := HF.and ((Per.blkN Bb16 (NotIn.cons Db16_b8 (NotIn.cons Db16_b1 NotIn.nil)) : Per (Mut [(some gb8), (some gb1)]) w15 (fun b => Blk b gb16 24 #[.bool (decide ((2 : Int) ^ k < 0)), .slice A4 (limbs ((2 : Int) ^ k)).length c4])));have e7 := qb16
  refine gu (τ := [(2, _), (3, _), (6, _), (7, _), (8, _), (9, .pointer (some ⟨gb16, 0, none⟩))]) ⟨rfl, rfl, rfl, rfl, rfl, congrArg some e7, trivial⟩ ?_;clear AL AF AA LE AO OY e5 e7 k5 LBb8 LBb1
  have hmul : ∀ (A B : Option Addr) (c d : Nat) (w : World), Nums w A (limbs m0) → Nums w B (limbs ((2 : Int) ^ k)) → Calls Tryz.prog 97 #[.agg #[.bool (decide (m0 < 0)), .slice A (limbs m0).length c], .agg #[.bool (decide ((2 : Int) ^ k < 0)), .slice B (limbs ((2 : Int) ^ k)).length d]] w (yw w (jh a) 0) := by
   intro A B c d w hx hy;have h := mulI A B c d w (zjk (by rw [hm0]; split <;> omega)) (two_30 (by omega)) hx hy;rw [hprod, oc hwl, od hwl] at h;exact h
  refine zk (srx (za rfl (zo Tryz.underlying24 rfl yy rfl Bb8 rfl (za rfl (zo Tryz.underlying24 rfl yy rfl (HF.on E).here.2 rfl (za rfl (zd en97 rfl ((hmul A1 A4 c1 c4 _ (HF.on E).here.1.1.1.1.2 (HF.on E).here.1.2).mono ?_))))))));rintro e w17 ⟨A5, c5, rfl, o5, hb⟩;refine ⟨_, rfl, ?_⟩
  have XC : ∀ q9, (Mut [(some gb8), (some gb1)]) q9 → q9 < w15.heap.size := (Mut.grow (Mut.grow Mut.none_ (yl Bb1.lt)) (yl Bb8.lt));have SC := Nat.le_trans LW.size E.size;have Ec := Ext.of_below hb No;replace Bb8 := Bb8.extN Ec NotIn.nil;replace Bb1 := Bb1.extN Ec NotIn.nil;replace E := E.trans Ec.no;have hS := SC;replace HF := HF.on E;replace LW := LW.step E XLW
  replace E := erx (Mut [(some gb8), (some gb1)]) w17;replace HF := HF.and (Per.ownX o5 XC);refine mvx rfl (za rfl (zn rfl rfl (za rfl (zn rfl rfl (qo (qj yy rfl rfl Bb8 rfl rfl (Nat.le_of_ble_eq_true rfl) ?_))))));intro w18 Bx Eb8;replace Bb8 := Bx;replace Bb1 := Bb1.extN Eb8 (NotIn.cons Db1_b8 NotIn.nil);replace E := E.step1 Eb8 Mut.head;replace HF := HF.on E
  replace LW := LW.step E XLW;have SB : ∀ q9, Mut [(some gb1)] q9 → Mut [(some gb8), (some gb1)] q9 := (Mut.skip (Mut.keep Mut.nil_));replace HF := HF.less SB;replace XLW := fun k h => XLW k (SB k h);clear SB;replace E := erx (Mut [(some gb1)]) w18;replace HF := HF.and (Per.blkN Bb8 (NotIn.cons Db8_b1 NotIn.nil))
  refine rnx (srx (za rfl (zo Tryz.underlying24 rfl yy rfl (HF.on E).here.2 rfl (qo (qj yy rfl rfl Bb1 rfl rfl (Nat.le_of_ble_eq_true rfl) ?_)))));intro w19 Bx Eb1;replace Bb1 := Bx;replace E := E.step1 Eb1 Mut.head
  refine anx rfl (zm (zg (zl (rs := [.cell 2 24, .tmp 3]) (vs := [_, _]) rfl ⟨⟨_, rfl, jc Tryz.underlying24 rfl yy Bb1 rfl⟩, rfl, trivial⟩ ?_)));exact ⟨A5, c5, rfl, ((HF.on E).here.1.2).mono hS, (LW.step E XLW).toBelow⟩
 ·
  have hc := of_decide_eq_false hc;obtain ⟨k, hk⟩ : ∃ k, k = 1074 + nd q - ex (nr q) := ⟨_, rfl⟩;have hM : M = qk a * 2 ^ k := val_lo hval (by omega) hk hMd;have hk52 : k ≤ 52 := by
   rcases Nat.lt_or_ge 52 k with h | h
   · exfalso
     have h1 : 2 ^ 53 ≤ 2 ^ k := Nat.pow_le_pow_right (by decide) (by omega);have h2 : 1 * 2 ^ k ≤ qk a * 2 ^ k := Nat.mul_le_mul_right _ (by omega);omega
   · exact h
  refine zq (zk (zj (srx (mvx rfl (za rfl (jy rfl rfl (rnx (zu 57 (.bool false) rfl ((by rw [hE, decide_eq_false (by omega)] : (.bool (decide (((frE T) - 53) < (-60))) : Value) = _)) (zp rfl (zq (zk (zj ?_))))))))))));have OY : ∀ q9, (Mut (outM [])) q9 → q9 < (World.drew w14).heap.size → (Mut [(some gb8), (some gb1)]) q9 := fun k h _ => (Mut.none_) k h
  refine jb (Mut [(some gb8), (some gb1)]) (Mut.grow (Mut.grow Mut.none_ (yl Bb1.lt)) (yl Bb8.lt)) [⟨8, 9, 24, #[.bool false, .slice none 0 0]⟩] [] (zmq [Fx.of (.agg #[.bool (decide ((2 : Int) < 0)), .slice A2 (limbs 2).length c2]),
   Fx.of (.int .i64 ((frE T) - 53)),
   Fx.of (.int .i64 ((k : Nat) : Int)),
   ⟨(Option Addr × Nat), fun (A3, c3) => .agg #[.bool (decide (((k : Nat) : Int) < 0)), .slice A3 (limbs ((k : Nat) : Int)).length c3], fun (A3, c3) b => (Nums b A3 (limbs ((k : Nat) : Int)))⟩,
   ⟨(Option Addr × Nat), fun (A4, c4) => .tuple #[.agg #[.bool (decide ((2 : Int) ^ k < 0)), .slice A4 (limbs ((2 : Int) ^ k)).length c4], .int .i64 0], fun (A4, c4) b => (Nums b A4 (limbs ((2 : Int) ^ k)))⟩,
   ⟨(Option Addr × Nat), fun (A4, c4) => .tuple #[.agg #[.bool (decide ((2 : Int) ^ k < 0)), .slice A4 (limbs ((2 : Int) ^ k)).length c4], .int .i64 0], fun (A4, c4) b => (Nums b A4 (limbs ((2 : Int) ^ k)))⟩,
   ⟨(Option Addr × Nat), fun (A4, c4) => .agg #[.bool (decide ((2 : Int) ^ k < 0)), .slice A4 (limbs ((2 : Int) ^ k)).length c4], fun (A4, c4) b => (Nums b A4 (limbs ((2 : Int) ^ k)))⟩,
   Fx.of (.int .i64 0),
   Fx.of undef,
   Fx.of undef,
   Fx.of (.int .i64 0)]) mixed rfl trivial (fun _ h => by cases h) ?_ ?_
  · refine ⟨?_, ?_, ?_, ?_, ?_, ?_, ?_, ?_, ?_, ?_, ?_, trivial⟩
    · intro vs X wq K;have LE := K.1;exact zo Tryz.underlying24 rfl yy rfl (HF.on (E.drew.trans (LE.mono OY))).here.2 rfl ⟨Below.refl _ _, Left.of rfl⟩
    · intro vs X wq K;exact zy rfl ⟨Below.refl _ _, Left.of rfl⟩
    · intro vs X wq K;obtain ⟨_, e1, k1⟩ := K.dep 1 rfl rfl rfl;refine ze 61 (.int .i64 ((frE T) - 53)) rfl e1 ?_;exact zwv rfl (yg (by omega)) ⟨Below.refl _ _, Left.of ((by rw [hE, hk]; congr 1; omega : (.int .i64 (0 - ((frE T) - 53)) : Value) = _))⟩
    · intro vs X wq K;have XN := K.2.1;obtain ⟨_, e2, k2⟩ := K.dep 2 rfl rfl rfl;refine ze 62 (.int .i64 ((k : Nat) : Int)) rfl e2 (zd en65 rfl ((oh ((k : Nat) : Int) _ (by omega) (by omega)).mono ?_));rintro e w2 ⟨A3, c3, rfl, o3, hb⟩;exact ⟨_, rfl, hb, ⟨(A3, c3), rfl, Per.own o3 XN⟩⟩
    · intro vs X wq K;have LE := K.1;have XN := K.2.1;obtain ⟨_, e0, k0⟩ := K.dep 0 rfl rfl rfl;refine ze 60 (.agg #[.bool (decide ((2 : Int) < 0)), .slice A2 (limbs 2).length c2]) rfl e0 ?_;obtain ⟨⟨A3, c3⟩, e3, k3⟩ := K.dep 3 rfl rfl rfl
      refine ze 63 (.agg #[.bool (decide (((k : Nat) : Int) < 0)), .slice A3 (limbs ((k : Nat) : Int)).length c3]) rfl e3 (zd en98 rfl ((two_pow k A2 A3 c2 c3 _ (by omega) (HF.on (E.drew.trans (LE.mono OY))).here.1.2 k3.here).mono ?_));rintro e w2 ⟨A4, c4, rfl, o4, hb⟩;exact ⟨_, rfl, hb, ⟨(A4, c4), rfl, Per.own o4 XN⟩⟩
    · intro vs X wq K;obtain ⟨⟨A4, c4⟩, e4, k4⟩ := K.dep 4 rfl rfl rfl;refine ze 64 (.tuple #[.agg #[.bool (decide ((2 : Int) ^ k < 0)), .slice A4 (limbs ((2 : Int) ^ k)).length c4], .int .i64 0]) rfl e4 ?_;exact zy rfl ⟨Below.refl _ _, ⟨⟨A4, c4⟩, rfl, (k4.map (fun _ h => h))⟩⟩
    · intro vs X wq K;obtain ⟨⟨A4, c4⟩, e5, k5⟩ := K.dep 5 rfl rfl rfl;refine ze 59 (.tuple #[.agg #[.bool (decide ((2 : Int) ^ k < 0)), .slice A4 (limbs ((2 : Int) ^ k)).length c4], .int .i64 0]) rfl e5 ?_;exact zn rfl rfl ⟨Below.refl _ _, ⟨⟨A4, c4⟩, rfl, (k5.map (fun _ h => h))⟩⟩
    · intro vs X wq K;obtain ⟨⟨A4, c4⟩, e5, k5⟩ := K.dep 5 rfl rfl rfl;refine ze 59 (.tuple #[.agg #[.bool (decide ((2 : Int) ^ k < 0)), .slice A4 (limbs ((2 : Int) ^ k)).length c4], .int .i64 0]) rfl e5 ?_;exact zn rfl rfl ⟨Below.refl _ _, Left.of rfl⟩
    · exact ⟨_, _, _, _, _, rfl, xe, rfl⟩
    · refine ⟨_, _, _, _, _, rfl, rfl, rfl, yy, fun vs X wq K => ?_⟩;obtain ⟨⟨A4, c4⟩, e0, _⟩ := K.dep 6 rfl rfl rfl;exact ⟨vs 6, rfl, by rw [e0]; rfl, by rw [e0]; rfl⟩
    · intro vs X wq K;obtain ⟨_, e7, k7⟩ := K.dep 7 rfl rfl rfl;refine ze 66 (.int .i64 0) rfl e7 ?_;exact qr rfl ⟨Below.refl _ _, Left.of rfl⟩
  intro vs w20 LE AO AL AF AA;have LBb8 := Bb8;have LBb1 := Bb1;replace Bb8 := Bb8.drew.extN LE NotIn.nil;replace Bb1 := Bb1.drew.extN LE NotIn.nil;replace E := E.drew.trans (LE.mono OY);obtain ⟨⟨A4, c4⟩, e6, k6⟩ := AL.2.2.2.2.2.2.1;replace HF := HF.on E;replace LW := LW.step E XLW;replace E := erx (Mut [(some gb8), (some gb1)]) w20
  replace HF := HF.and ((k6.map (fun _ h => h) : Per (Mut [(some gb8), (some gb1)]) w20 (fun b => Nums b A4 (limbs ((2 : Int) ^ k)))));obtain ⟨gb21, v0, y0, qb21, Gb21, Bb21, ey, ev0⟩ := AF.1;cases ey
  obtain rfl : vs 6 = v0 := Option.some.inj ev0;rw [e6] at Bb21;have Db21_b8 : Apart (some gb21) (some gb8) := Apart.of_lt (yl LBb8.lt) Gb21;have Db8_b21 := Db21_b8.symm;have Db21_b1 : Apart (some gb21) (some gb1) := Apart.of_lt (yl LBb1.lt) Gb21;have Db1_b21 := Db21_b1.symm;replace HF := HF.on E;replace LW := LW.step E XLW;replace E := erx (Mut [(some gb8), (some gb1)]) w20
  replace HF := HF.and ((Per.blkN Bb21 (NotIn.cons Db21_b8 (NotIn.cons Db21_b1 NotIn.nil)) : Per (Mut [(some gb8), (some gb1)]) w20 (fun b => Blk b gb21 24 #[.bool (decide ((2 : Int) ^ k < 0)), .slice A4 (limbs ((2 : Int) ^ k)).length c4])));have e8 := qb21;refine gu (τ := [(2, _), (3, _), (7, _), (11, .pointer (some ⟨gb21, 0, none⟩))]) ⟨rfl, rfl, rfl, congrArg some e8, trivial⟩ ?_
  clear AL AF AA LE AO OY e6 e8 k6 LBb8 LBb1;refine zk (srx (za rfl (zo Tryz.underlying24 rfl yy rfl Bb8 rfl (za rfl (zo Tryz.underlying24 rfl yy rfl (HF.on E).here.2 rfl (za rfl (zd en99 rfl ((div_two hM hm0 (by omega) (by omega) A1 A4 c1 c4 _ (HF.on E).here.1.1.1.1.2 (HF.on E).here.1.2).mono ?_))))))));rintro e w22 ⟨A5, c5, B6, c6, r, rfl, o5, hb⟩
  refine ⟨_, rfl, ?_⟩;have XC : ∀ q9, (Mut [(some gb8), (some gb1)]) q9 → q9 < w20.heap.size := (Mut.grow (Mut.grow Mut.none_ (yl Bb1.lt)) (yl Bb8.lt));have SC := Nat.le_trans LW.size E.size;have Ec := Ext.of_below hb No;replace Bb8 := Bb8.extN Ec NotIn.nil;replace Bb1 := Bb1.extN Ec NotIn.nil;replace E := E.trans Ec.no;have hS := SC;replace HF := HF.on E;replace LW := LW.step E XLW
  replace E := erx (Mut [(some gb8), (some gb1)]) w22;replace HF := HF.and (Per.ownX o5 XC);refine mvx rfl (za rfl (zn rfl rfl (za rfl (zn rfl rfl (za rfl (zn rfl rfl (za rfl (qd xe ?_))))))));intro gb23 w24 Bb23 Eb23 Gb23;have Db23_b8 : Apart (some gb23) (some gb8) := Apart.of_lt (yl Bb8.lt) Gb23;have Db8_b23 := Db23_b8.symm
  have Db23_b1 : Apart (some gb23) (some gb1) := Apart.of_lt (yl Bb1.lt) Gb23;have Db1_b23 := Db23_b1.symm;have Gb23 : _ ≤ gb23 := Nat.le_trans E.size Gb23;have GLb23 := Nat.le_trans LW.size Gb23;replace Bb8 := Bb8.extN Eb23 NotIn.nil;replace Bb1 := Bb1.extN Eb23 NotIn.nil;replace E := E.trans Eb23.no;replace HF := HF.cons (zi Gb23);replace E := E.cons (some gb23)
  replace XLW := Mut.grow XLW (fun k e => Or.inr (Nat.le_trans LW.size ((zi Gb23) k e)));refine za rfl (qd xe ?_);intro gb25 w26 Bb25 Eb25 Gb25;have Db25_b23 : Apart (some gb25) (some gb23) := Apart.of_lt (yl Bb23.lt) Gb25;have Db23_b25 := Db25_b23.symm;have Db25_b8 : Apart (some gb25) (some gb8) := Apart.of_lt (yl Bb8.lt) Gb25;have Db8_b25 := Db25_b8.symm
  have Db25_b1 : Apart (some gb25) (some gb1) := Apart.of_lt (yl Bb1.lt) Gb25;have Db1_b25 := Db25_b1.symm;have Gb25 : _ ≤ gb25 := Nat.le_trans E.size Gb25;have GLb25 := Nat.le_trans LW.size Gb25;replace Bb23 := Bb23.extN Eb25 NotIn.nil;replace Bb8 := Bb8.extN Eb25 NotIn.nil;replace Bb1 := Bb1.extN Eb25 NotIn.nil;replace E := E.trans Eb25.no;replace HF := HF.cons (zi Gb25)
  replace E := E.cons (some gb25);replace XLW := Mut.grow XLW (fun k e => Or.inr (Nat.le_trans LW.size ((zi Gb25) k e)));refine qo (qj yy rfl rfl Bb23 rfl rfl (Nat.le_of_ble_eq_true rfl) ?_);intro w27 Bx Eb23;replace Bb23 := Bx;replace Bb25 := Bb25.extN Eb23 (NotIn.cons Db25_b23 NotIn.nil);replace Bb8 := Bb8.extN Eb23 (NotIn.cons Db8_b23 NotIn.nil)
  replace Bb1 := Bb1.extN Eb23 (NotIn.cons Db1_b23 NotIn.nil);replace E := E.step1 Eb23 (Mut.tail Mut.head);replace HF := HF.on E;replace LW := LW.step E XLW;have SB : ∀ q9, Mut [(some gb25), (some gb8), (some gb1)] q9 → Mut [(some gb25), (some gb23), (some gb8), (some gb1)] q9 := (Mut.keep (Mut.skip (Mut.keep (Mut.keep Mut.nil_))));replace HF := HF.less SB
  replace XLW := fun k h => XLW k (SB k h);clear SB;replace E := erx (Mut [(some gb25), (some gb8), (some gb1)]) w27;replace HF := HF.and (Per.blkN Bb23 (NotIn.cons Db23_b25 (NotIn.cons Db23_b8 (NotIn.cons Db23_b1 NotIn.nil))));refine qo (qj yy rfl rfl Bb25 rfl rfl (Nat.le_of_ble_eq_true rfl) ?_);intro w28 Bx Eb25;replace Bb25 := Bx
  replace Bb8 := Bb8.extN Eb25 (NotIn.cons Db8_b25 NotIn.nil);replace Bb1 := Bb1.extN Eb25 (NotIn.cons Db1_b25 NotIn.nil);replace E := E.step1 Eb25 Mut.head;replace HF := HF.on E;replace LW := LW.step E XLW;have SB : ∀ q9, Mut [(some gb8), (some gb1)] q9 → Mut [(some gb25), (some gb8), (some gb1)] q9 := (Mut.skip (Mut.keep (Mut.keep Mut.nil_)));replace HF := HF.less SB
  replace XLW := fun k h => XLW k (SB k h);clear SB;replace E := erx (Mut [(some gb8), (some gb1)]) w28;replace HF := HF.and (Per.blkN Bb25 (NotIn.cons Db25_b8 (NotIn.cons Db25_b1 NotIn.nil)));refine anx rfl (srx (za rfl (zo Tryz.underlying24 rfl yy rfl (HF.on E).here.1.2 rfl (qo (qj yy rfl rfl Bb1 rfl rfl (Nat.le_of_ble_eq_true rfl) ?_)))));intro w29 Bx Eb1
  replace Bb1 := Bx;replace Bb8 := Bb8.extN Eb1 (NotIn.cons Db8_b1 NotIn.nil);replace E := E.step1 Eb1 (Mut.tail Mut.head);replace HF := HF.on E;replace LW := LW.step E XLW;have SB : ∀ q9, Mut [(some gb8)] q9 → Mut [(some gb8), (some gb1)] q9 := (Mut.keep (Mut.skip Mut.nil_));replace HF := HF.less SB;replace XLW := fun k h => XLW k (SB k h);clear SB;replace E := erx (Mut [(some gb8)]) w29
  replace HF := HF.and (Per.blkN Bb1 (NotIn.cons Db1_b8 NotIn.nil));refine anx rfl (zm (zl (rs := [.cell 2 24, .tmp 3]) (vs := [_, _]) rfl ⟨⟨_, rfl, jc Tryz.underlying24 rfl yy (HF.on E).here.2 rfl⟩, rfl, trivial⟩ ?_));exact ⟨A5, c5, rfl, ((HF.on E).here.1.1.1.2).mono hS, (LW.step E XLW).toBelow⟩
theorem whole_fin : Calls Tryz.prog 78 #[.int .u64 ((a : Nat) : Int)] w (yw w (jh a) 0) := by
 by_cases h0 : qk a = 0
 · exact whole_zero w a ha hf h0
 · exact whole_num w a ha hf h0
end
end
noncomputable def cmpB (a : Nat) (i : Int) : Int := if ky (jh a) i ≠ 0 then ky (jh a) i else if zrk a then (if ng a then -1 else 1) else 0
theorem cmp_trunc {a q : Nat} (hf : rg a < 9218868437227405312) (h1 : vl q = qk a * 2 ^ 1074) (h2 : q ≤ rg a) : zeq a (Ieee.double.word (ng a) q) = (if zrk a then (if ng a then -1 else 1) else 0) ∧ vr a (Ieee.double.word (ng a) q) = true := by
 obtain ⟨w1, w2, w3⟩ := je (ng a) q (by omega);have hn : isN (Ieee.double.word (ng a) q) = false := ja (by rw [w1]; omega);have ho : vr a (Ieee.double.word (ng a) q) = true := by rw [vr, ja hf, hn]; rfl
 refine ⟨?_, ho⟩;have hl : zrk a = decide (q < rg a) := by
  refine (lost_eq ?_).symm;rw [isWh_iff, ← h1];constructor
  · intro h e; have := zzv h; omega
  · intro h;rcases Nat.lt_or_ge q (rg a) with h' | h'
    · exact h'
    · exact absurd (congrArg vl (show rg a = q by omega)) h
 rw [zeq, if_pos ho, hl];obtain ⟨p1, p2⟩ := zox a;obtain ⟨p3, p4⟩ := zox (Ieee.double.word (ng a) q);rw [w1, w2] at p3 p4;unfold ordI;cases hs : ng a with
 | true =>
  rw [hs] at p3;rw [p1 hs, p3 rfl];by_cases h : q < rg a
  · rw [decide_eq_true h, if_pos (by omega)]; rfl
  · rw [decide_eq_false h, if_neg (by omega), if_neg (by omega)]; rfl
 | false =>
  rw [hs] at p4;rw [p2 hs, p4 rfl];by_cases h : q < rg a
  · rw [decide_eq_true h, if_neg (by omega), if_pos (by omega)]; rfl
  · rw [decide_eq_false h, if_neg (by omega), if_neg (by omega)]; rfl
theorem f2i_one (s : Bool) : floatToIntVal .f64 (Ieee.double.word s 4607182418800017408) .i64 = some (if s then -1 else 1) := by cases s <;> decide +kernel
def infV (a : Nat) : Int := if ng a then -1 else 1
section
variable (w : World) (a : Nat) (ha : a < 18446744073709551616)
include ha
section
variable (n1 : Bool) (A : Option Addr) (c : Nat) (xs : List Nat) (hx : Nums w A xs) (hl : xs.length ≤ 9223372036854775807)
include hx hl
theorem cmpbig_nan (hn : isN a = true) : Calls Tryz.prog 49 #[.int .u64 ((a : Nat) : Int), .agg #[.bool n1, .slice A xs.length c]] w fun e w' => e = .returned (.tuple #[.int .i64 0, .bool false]) ∧ Below w.heap.size w w' := by
 have _ := And.intro ha (And.intro hx hl);refine zr Tryz.func49 rfl Tryz.ntmps49 rfl ?_;have LW := erx (No) w;have XLW := grx (No) w;have E := erx (No) w;refine srx (za rfl (zx rfl ?_));intro gb1 w2 Bb1 Eb1 Gb1;have Gb1 : _ ≤ gb1 := Nat.le_trans E.size Gb1;have GLb1 := Nat.le_trans LW.size Gb1;replace E := E.trans Eb1.no;replace E := E.cons (some gb1)
 replace XLW := Mut.grow XLW (fun k e => Or.inr (Nat.le_trans LW.size ((zi Gb1) k e)));replace LW := LW.step E XLW;have SB : ∀ q9, No q9 → Mut [(some gb1)] q9 := (Mut.skip Mut.nil_);replace XLW := fun k h => XLW k (SB k h);clear SB;replace E := erx (No) w2
 refine avx rfl (anx rfl (srx (mvx rfl (za rfl (qf (b := a) zev rfl (anx rfl (zj (srx (mvx rfl (mvx rfl (za rfl (jz rfl rfl (mvx rfl (zz 17 (.bool true) rfl ((by rw [vh, hn] : (.bool (vf a a != some .eq) : Value) = _)) (za rfl (zc rfl (za rfl (zc rfl (za rfl (zc rfl (za rfl (zt rfl rfl (rnx (yc rfl (srx (avx rfl (anx rfl (zm (zg (zl (rs := [.tmp 4, .tmp 5]) (vs := [_, _]) rfl ⟨rfl, rfl, trivial⟩ ?_))))))))))))))))))))))))))))))
 exact ⟨rfl, (LW.step E XLW).toBelow⟩
theorem cmpbig_bad (hn : isN a = false) (hg : yb n1 xs = false) : Calls Tryz.prog 49 #[.int .u64 ((a : Nat) : Int), .agg #[.bool n1, .slice A xs.length c]] w fun e w' => e = .returned (.tuple #[.int .i64 0, .bool false]) ∧ Below w.heap.size w w' := by
 have _ := ha;refine zr Tryz.func49 rfl Tryz.ntmps49 rfl ?_;have HF : Per (No) w (fun _ => True) := Per.true_;have LW := erx (No) w;have XLW := grx (No) w;have E := erx (No) w;replace HF := HF.on E;replace LW := LW.step E XLW;replace E := erx (No) w;replace HF := HF.and (Per.nums0 hx);refine srx (za rfl (zx rfl ?_));intro gb1 w2 Bb1 Eb1 Gb1
 have Gb1 : _ ≤ gb1 := Nat.le_trans E.size Gb1;have GLb1 := Nat.le_trans LW.size Gb1;replace E := E.trans Eb1.no;replace HF := HF.cons (zi Gb1);replace E := E.cons (some gb1);replace XLW := Mut.grow XLW (fun k e => Or.inr (Nat.le_trans LW.size ((zi Gb1) k e)));replace HF := HF.on E;replace LW := LW.step E XLW;have SB : ∀ q9, No q9 → Mut [(some gb1)] q9 := (Mut.skip Mut.nil_)
 replace HF := HF.less SB;replace XLW := fun k h => XLW k (SB k h);clear SB;replace E := erx (No) w2;replace HF := HF.and (Per.blkN Bb1 NotIn.nil)
 refine avx rfl (anx rfl (srx (mvx rfl (za rfl (qf (b := a) zev rfl (anx rfl (zj (srx (mvx rfl (mvx rfl (za rfl (jz rfl rfl (mvx rfl (zz 17 (.bool false) rfl ((by rw [vh, hn] : (.bool (vf a a != some .eq) : Value) = _)) (onx rfl (zo Tryz.underlying24 rfl yy rfl (HF.on E).here.2 rfl (onx rfl (zd en47 rfl ((yv n1 c _ A xs hl (HF.on E).here.1.2).mono ?_)))))))))))))))))))
 rintro e w3 ⟨rfl, hb⟩;refine ⟨_, rfl, ?_⟩;replace E := blx E hb;refine zz 19 (.bool false) rfl ((by rw [hg] : (.bool (yb n1 xs) : Value) = _)) (onx rfl (yf rfl (za rfl (zh rfl rfl (rnx (yc rfl (srx (avx rfl (anx rfl (zm (zg (zl (rs := [.tmp 4, .tmp 5]) (vs := [_, _]) rfl ⟨rfl, rfl, trivial⟩ ?_))))))))))));exact ⟨rfl, (LW.step E XLW).toBelow⟩
end
section
variable (i : Int) (A : Option Addr) (c : Nat) (hi : i.natAbs < B18 ^ 30) (hx : Nums w A (limbs i)) (hn : isN a = false)
include hi hx hn
theorem cmpbig_inf (hinf : rg a = 9218868437227405312) : Calls Tryz.prog 49 #[.int .u64 ((a : Nat) : Int), .agg #[.bool (decide (i < 0)), .slice A (limbs i).length c]] w fun e w' => e = .returned (.tuple #[.int .i64 (infV a), .bool true]) ∧ Below w.heap.size w w' := by
 refine zr Tryz.func49 rfl Tryz.ntmps49 rfl ?_;have HF : Per (No) w (fun _ => True) := Per.true_;have LW := erx (No) w;have XLW := grx (No) w;have E := erx (No) w;replace HF := HF.on E;replace LW := LW.step E XLW;replace E := erx (No) w;replace HF := HF.and (Per.nums0 hx);refine srx (za rfl (zx rfl ?_));intro gb1 w2 Bb1 Eb1 Gb1;have Gb1 : _ ≤ gb1 := Nat.le_trans E.size Gb1
 have GLb1 := Nat.le_trans LW.size Gb1;replace E := E.trans Eb1.no;replace HF := HF.cons (zi Gb1);replace E := E.cons (some gb1);replace XLW := Mut.grow XLW (fun k e => Or.inr (Nat.le_trans LW.size ((zi Gb1) k e)));replace HF := HF.on E;replace LW := LW.step E XLW;have SB : ∀ q9, No q9 → Mut [(some gb1)] q9 := (Mut.skip Mut.nil_);replace HF := HF.less SB
 replace XLW := fun k h => XLW k (SB k h);clear SB;replace E := erx (No) w2;replace HF := HF.and (Per.blkN Bb1 NotIn.nil)
 refine avx rfl (anx rfl (srx (mvx rfl (za rfl (qf (b := a) zev rfl (anx rfl (zj (srx (mvx rfl (mvx rfl (za rfl (jz rfl rfl (mvx rfl (zz 17 (.bool false) rfl ((by rw [vh, hn] : (.bool (vf a a != some .eq) : Value) = _)) (onx rfl (zo Tryz.underlying24 rfl yy rfl (HF.on E).here.2 rfl (onx rfl (zd en47 rfl ((ybq A c _ hi (HF.on E).here.1.2).mono ?_)))))))))))))))))))
 rintro e w3 ⟨rfl, hb⟩;refine ⟨_, rfl, ?_⟩;replace E := blx E hb;refine onx rfl (yf rfl (za rfl (zh rfl rfl (rnx (zp rfl (zq (zk (zj (srx (mvx rfl (za rfl (zd en58 rfl ((vn _ a ha).mono ?_)))))))))))));rintro e w4 ⟨rfl, hb⟩;refine ⟨_, rfl, ?_⟩;replace E := blx E hb
 refine zz 23 (.bool true) rfl ((by rw [decide_eq_true hinf] : (.bool (decide (rg a = 9218868437227405312)) : Value) = _)) (rnx (yc rfl (srx (mvx rfl (za rfl (zd en77 rfl ((copysign_any _ 4607182418800017408 (by decide) a ha).mono ?_)))))));rintro e w5 ⟨rfl, hb⟩;refine ⟨_, rfl, ?_⟩;replace E := blx E hb
 refine zz 25 (.float .f64 (Ieee.double.word (ng a) 4607182418800017408)) rfl ((by rw [show rg 4607182418800017408 = 4607182418800017408 by decide] : (.float .f64 (Ieee.double.word (ng a) (rg 4607182418800017408)) : Value) = _)) (za rfl (zxx (z := infV a) Tryz.underlying3 (by rw [Tryz.underlying76]; rfl) rfl (f2i_one (ng a)) (avx rfl (anx rfl (zm (zg (zl (rs := [.tmp 4, .tmp 5]) (vs := [_, _]) rfl ⟨rfl, rfl, trivial⟩ ?_)))))))
 exact ⟨rfl, (LW.step E XLW).toBelow⟩
theorem cmpbig_fin (hf : rg a < 9218868437227405312) : Calls Tryz.prog 49 #[.int .u64 ((a : Nat) : Int), .agg #[.bool (decide (i < 0)), .slice A (limbs i).length c]] w fun e w' => e = .returned (.tuple #[.int .i64 (cmpB a i), .bool true]) ∧ Below w.heap.size w w' := by
 obtain ⟨q, hq1, hq2, hq3⟩ := ziz hf;obtain ⟨t1, t2⟩ := cmp_trunc hf hq1 hq2;rw [← hq3] at t1 t2;have hbr : qa (gn .zero a) = gn .zero a := bareN_num (ja (by rw [hq3, (je (ng a) q (by omega)).1]; omega));refine zr Tryz.func49 rfl Tryz.ntmps49 rfl ?_;have HF : Per (No) w (fun _ => True) := Per.true_;have LW := erx (No) w;have XLW := grx (No) w
 have E := erx (No) w;replace HF := HF.on E;replace LW := LW.step E XLW;replace E := erx (No) w;replace HF := HF.and (Per.nums0 hx);refine srx (za rfl (zx rfl ?_));intro gb1 w2 Bb1 Eb1 Gb1;have Gb1 : _ ≤ gb1 := Nat.le_trans E.size Gb1;have GLb1 := Nat.le_trans LW.size Gb1;replace E := E.trans Eb1.no;replace HF := HF.cons (zi Gb1);replace E := E.cons (some gb1)
 replace XLW := Mut.grow XLW (fun k e => Or.inr (Nat.le_trans LW.size ((zi Gb1) k e)));replace HF := HF.on E;replace LW := LW.step E XLW;have SB : ∀ q9, No q9 → Mut [(some gb1)] q9 := (Mut.skip Mut.nil_);replace HF := HF.less SB;replace XLW := fun k h => XLW k (SB k h);clear SB;replace E := erx (No) w2;replace HF := HF.and (Per.blkN Bb1 NotIn.nil)
 refine avx rfl (anx rfl (srx (mvx rfl (za rfl (qf (b := a) zev rfl (anx rfl (zj (srx (mvx rfl (mvx rfl (za rfl (jz rfl rfl (mvx rfl (zz 17 (.bool false) rfl ((by rw [vh, hn] : (.bool (vf a a != some .eq) : Value) = _)) (onx rfl (zo Tryz.underlying24 rfl yy rfl (HF.on E).here.2 rfl (onx rfl (zd en47 rfl ((ybq A c _ hi (HF.on E).here.1.2).mono ?_)))))))))))))))))))
 rintro e w3 ⟨rfl, hb⟩;refine ⟨_, rfl, ?_⟩;replace E := blx E hb;refine onx rfl (yf rfl (za rfl (zh rfl rfl (rnx (zp rfl (zq (zk (zj (srx (mvx rfl (za rfl (zd en58 rfl ((vn _ a ha).mono ?_)))))))))))));rintro e w4 ⟨rfl, hb⟩;refine ⟨_, rfl, ?_⟩;replace E := blx E hb
 refine zz 23 (.bool false) rfl ((by rw [decide_eq_false (by omega)] : (.bool (decide (rg a = 9218868437227405312)) : Value) = _)) (rnx (zp rfl (zq (zk (srx (mvx rfl (za rfl (zd en78 rfl ((whole_fin _ a ha hf).mono ?_)))))))));rintro e w5 ⟨A2, c2, rfl, o2, hb⟩;refine ⟨_, rfl, ?_⟩;have XC : ∀ q9, (No) q9 → q9 < w4.heap.size := Mut.none_;replace E := blx E hb
 replace HF := HF.on E;replace LW := LW.step E XLW;replace E := erx (No) w5;replace HF := HF.and (Per.own o2 XC);refine mvx rfl (za rfl (zn rfl rfl (za rfl (zn rfl rfl (za rfl (qd xe ?_))))));intro gb6 w7 Bb6 Eb6 Gb6;have Gb6 : _ ≤ gb6 := Nat.le_trans E.size Gb6;have GLb6 := Nat.le_trans LW.size Gb6;replace E := E.trans Eb6.no;replace HF := HF.cons (zi Gb6)
 replace E := E.cons (some gb6);replace XLW := Mut.grow XLW (fun k e => Or.inr (Nat.le_trans LW.size ((zi Gb6) k e)));refine qo (qj yy rfl rfl Bb6 rfl rfl (Nat.le_of_ble_eq_true rfl) ?_);intro w8 Bx Eb6;replace Bb6 := Bx;replace E := E.step1 Eb6 Mut.head;replace HF := HF.on E;replace LW := LW.step E XLW;have SB : ∀ q9, No q9 → Mut [(some gb6)] q9 := (Mut.skip Mut.nil_)
 replace HF := HF.less SB;replace XLW := fun k h => XLW k (SB k h);clear SB;replace E := erx (No) w8;replace HF := HF.and (Per.blkN Bb6 NotIn.nil)
 refine anx rfl (zj (srx (za rfl (zo Tryz.underlying24 rfl yy rfl (HF.on E).here.2 rfl (za rfl (zo Tryz.underlying24 rfl yy rfl (HF.on E).here.1.1.2 rfl (za rfl (zd en29 rfl ((cmpI_ A2 A c2 c _ (wholeI_lt hf) hi (HF.on E).here.1.2 (HF.on E).here.1.1.1.2).mono ?_)))))))));rintro e w9 ⟨rfl, hb⟩;refine ⟨_, rfl, ?_⟩;replace E := blx E hb
 refine anx rfl (srx (mvx rfl (za rfl (qc rfl rfl (rnx (yx rfl (fun hc => ?_) (fun hc => ?_)))))))
 ·
  have hc := bne_iff_ne.1 hc;refine srx (mvx rfl (avx rfl (anx rfl (zm (zg (zl (rs := [.tmp 4, .tmp 5]) (vs := [_, _]) rfl ⟨rfl, rfl, trivial⟩ ?_))))));exact ⟨by rw [cmpB, if_pos hc]; rfl, (LW.step E XLW).toBelow⟩
 ·
  have hc : ky (jh a) i = 0 := by simpa using hc
  refine zq (zk (srx (mvx rfl (mvx rfl (za rfl (zd en79 rfl ((zvk _ a hf).mono ?_)))))));rintro e w10 ⟨rfl, hb⟩;refine ⟨_, rfl, ?_⟩;replace E := blx E hb;refine za rfl (zd en52 rfl ((bare_any _ (gn .zero a)).mono ?_));rintro e w11 ⟨rfl, hb⟩;refine ⟨_, rfl, ?_⟩;replace E := blx E hb
  refine zz 42 (.int .u64 ((gn .zero a : Nat) : Int)) rfl ((by rw [hbr] : (.int .u64 ((qa (gn .zero a) : Nat) : Int) : Value) = _)) (za rfl (zd en48 rfl ((cmp_any_r _ a (gn .zero a)).mono ?_)));rintro e w12 ⟨rfl, hb⟩;refine ⟨_, rfl, ?_⟩;replace E := blx E hb
  refine mvx rfl (za rfl (zn rfl rfl (za rfl (zn rfl rfl (avx rfl (anx rfl (srx (mvx rfl (avx rfl (anx rfl (zm (zl (rs := [.tmp 4, .tmp 5]) (vs := [_, _]) rfl ⟨rfl, rfl, trivial⟩ ?_))))))))))));exact ⟨by rw [cmpB, if_neg (by rw [hc]; decide), ← t1]; rfl, (LW.step E XLW).toBelow⟩
end
end
def jf (a : Nat) (n1 : Bool) (xs : List Nat) : Bool := !(isN a) && yb n1 xs
noncomputable def kl (a : Nat) (n1 : Bool) (xs : List Nat) : Int := if jf a n1 xs then (if rg a = 9218868437227405312 then infV a else cmpB a (num n1 xs)) else 0
section
variable (w : World) (a : Nat) (ha : a < 18446744073709551616) (n1 : Bool) (A : Option Addr) (c : Nat) (xs : List Nat) (hx : Nums w A xs) (hl : xs.length ≤ 9223372036854775807)
include ha hx hl
theorem cmpbig_any : Calls Tryz.prog 49 #[.int .u64 ((a : Nat) : Int), .agg #[.bool n1, .slice A xs.length c]] w fun e w' => e = .returned (.tuple #[.int .i64 (kl a n1 xs), .bool (jf a n1 xs)]) ∧ Below w.heap.size w w' := by
 cases hn : isN a with
 | true =>
  have h : jf a n1 xs = false := by rw [jf, hn]; rfl
  rw [kl, h, if_neg (by decide)];exact cmpbig_nan w a ha n1 A c xs hx hl hn
 | false =>
  cases hg : yb n1 xs with
  | false =>
   have h : jf a n1 xs = false := by rw [jf, hg, Bool.and_false]
   rw [kl, h, if_neg (by decide)];exact cmpbig_bad w a ha n1 A c xs hx hl hn hg
  | true =>
   have h : jf a n1 xs = true := by rw [jf, hn, hg]; rfl
   rw [kl, h, if_pos rfl];obtain ⟨i, rfl, rfl, hi⟩ := good_is hg;rw [jj];by_cases hinf : rg a = 9218868437227405312
   · rw [if_pos hinf];exact cmpbig_inf w a ha i A c hi hx hn hinf
   · rw [if_neg hinf];have h1 := of_decide_eq_false hn;exact cmpbig_fin w a ha i A c hi hx hn (by omega)
end
end Go.Proofs.YtaleikoeklemmaaGreatDoor
namespace Go.Proofs.YtaleikoeklemmaaGreatDoor
open Go.RowKit
set_option maxRecDepth 100000
attribute [local irreducible] OW RS
theorem gr0 {n : Nat} (h : 0 < n) : n ≠ 0 := by omega
theorem kq {s : ByteArray} (h : s.toList = []) : s.size = 0 := by
 have h1 := congrArg List.length h;rw [ByteArray.toList_eq] at h1;exact h1
section
variable (w : World) (k : Int) (yes neg : Bool) (A B : Option Addr) (xs : List Nat) (c bits ni d : Nat) (s : ByteArray) (hx : Nums w A xs) (hl : xs.length ≤ 9223372036854775807)
include hx hl
set_option maxHeartbeats 2000000 in
theorem pgood_any : Calls Tryz.prog 25 #[.agg #[.int .i64 k, .bool yes, .bool neg, .slice A xs.length c, .int .u64 ((bits : Nat) : Int), .string s, .slice B ni d]] w fun e w' => e = .returned (.bool (PV.good ⟨k, yes, neg, xs, bits, s, ni⟩)) ∧ Below w.heap.size w w' := by
 refine zr Tryz.func25 rfl Tryz.ntmps25 rfl ?_;have HF : Per (No) w (fun _ => True) := Per.true_;have LW := erx (No) w;have XLW := grx (No) w;have E := erx (No) w;replace HF := HF.on E;replace LW := LW.step E XLW;replace E := erx (No) w;replace HF := HF.and (Per.nums0 hx);refine srx (za rfl (zx rfl ?_));intro gb1 w2 Bb1 Eb1 Gb1;have Gb1 : _ ≤ gb1 := Nat.le_trans E.size Gb1
 have GLb1 := Nat.le_trans LW.size Gb1;replace E := E.trans Eb1.no;replace HF := HF.cons (zi Gb1);replace E := E.cons (some gb1);replace XLW := Mut.grow XLW (fun k e => Or.inr (Nat.le_trans LW.size ((zi Gb1) k e)));replace HF := HF.on E;replace LW := LW.step E XLW;have SB : ∀ q9, No q9 → Mut [(some gb1)] q9 := (Mut.skip Mut.nil_);replace HF := HF.less SB
 replace XLW := fun k h => XLW k (SB k h);clear SB;replace E := erx (No) w2;replace HF := HF.and (Per.blkN Bb1 NotIn.nil)
 refine anx rfl (zj (srx (za rfl (zb Tryz.underlying28 rfl sz26 (by decide) rfl (za rfl (zf Tryz.underlying26 rfl rfl (HF.on E).here.2 rfl (za rfl (vq Tryz.underlying26 rfl (za rfl (gg rfl rfl (rnx (yx rfl (fun h1 => ?_) (fun h1 => ?_)))))))))))))
 ·
  refine zu 7 (.bool true) rfl (congrArg Value.bool h1) ?_;replace h1 := of_decide_eq_true h1;refine srx (anx rfl (zm (zg (zl (rs := [.tmp 2]) (vs := [_]) rfl ⟨rfl, trivial⟩ ?_))));exact ⟨by refine congrArg (fun z => Ending.returned (.bool z)) ?_; first | (simp_all [PV.good, gr0]; done) | (simp_all [PV.good, gr0]; omega), (LW.step E XLW).toBelow⟩
 ·
  refine zu 7 (.bool false) rfl (congrArg Value.bool h1) ?_;replace h1 := of_decide_eq_false h1
  refine zq (zk (srx (za rfl (zb Tryz.underlying28 rfl yy (by decide) rfl (za rfl (zb Tryz.underlying24 rfl sz4 (by decide) rfl (za rfl (zf Tryz.underlying4 rfl rfl (HF.on E).here.2 rfl (za rfl (yf rfl (mvx rfl (yr 12 rfl (fun h2 => ?_) (fun h2 => ?_)))))))))))))
  ·
   refine onx rfl (zb Tryz.underlying28 rfl yy (by decide) rfl (onx rfl (zb Tryz.underlying24 rfl zfk (by decide) rfl (onx rfl (zf Tryz.underlying22 rfl rfl (HF.on E).here.2 rfl (onx rfl (vq Tryz.underlying22 rfl (onx rfl (ya rfl rfl (za rfl (zt rfl rfl (anx rfl (zj (srx (za rfl (zb Tryz.underlying28 rfl sz3 (by decide) rfl (za rfl (zf Tryz.underlying3 rfl rfl (HF.on E).here.2 rfl (rnx (yi (srx (za rfl (ya rfl rfl (anx rfl (yx rfl (fun h3 => ?_) (fun h3 => ?_))))))))))))))))))))))))))
   ·
    refine zu 21 (.bool true) rfl (congrArg Value.bool h3) ?_;replace h3 := eq_of_beq h3;subst h3;refine srx (za rfl (zb Tryz.underlying28 rfl sz4 (by decide) rfl (za rfl (zf Tryz.underlying4 rfl rfl (HF.on E).here.2 rfl (za rfl (yf rfl (mvx rfl (yr 26 rfl (fun h4 => ?_) (fun h4 => ?_)))))))))
    ·
     refine onx rfl (zy rfl (za rfl (zt rfl rfl (mvx rfl (yr 29 rfl (fun h5 => ?_) (fun h5 => ?_))))))
     ·
      replace h5 := eq_of_beq h5;refine onx rfl (zb Tryz.underlying28 rfl xa (by decide) rfl (onx rfl (zf Tryz.underlying25 rfl rfl (HF.on E).here.2 rfl (onx rfl (ya rfl rfl (za rfl (zt rfl rfl (mvx rfl (yr 34 rfl (fun h6 => ?_) (fun h6 => ?_))))))))))
      ·
       replace h6 := eq_of_beq h6;refine onx rfl (zb Tryz.underlying28 rfl sz9 (by decide) rfl (onx rfl (zf Tryz.underlying9 rfl rfl (HF.on E).here.2 rfl (onx rfl (xg rfl rfl (za rfl (zt rfl rfl (anx rfl (zm (zv (zg (zl (rs := [.tmp 2]) (vs := [_]) rfl ⟨rfl, trivial⟩ ?_))))))))))))
       exact ⟨by refine congrArg (fun z => Ending.returned (.bool z)) ?_; first | (simp_all [PV.good, gr0]; done) | (simp_all [PV.good, gr0]; omega), (LW.step E XLW).toBelow⟩
      ·
       replace h6 := beq_eq_false_iff_ne.1 h6;refine za rfl (zc rfl (za rfl (zc rfl (za rfl (zc rfl (za rfl (zh rfl rfl (anx rfl (zm (zv (zg (zl (rs := [.tmp 2]) (vs := [_]) rfl ⟨rfl, trivial⟩ ?_))))))))))))
       exact ⟨by refine congrArg (fun z => Ending.returned (.bool z)) ?_; first | (simp_all [PV.good, gr0]; done) | (simp_all [PV.good, gr0]; omega), (LW.step E XLW).toBelow⟩
     ·
      replace h5 := beq_eq_false_iff_ne.1 h5;refine za rfl (zc rfl (za rfl (zc rfl (za rfl (zc rfl (za rfl (zh rfl rfl (mvx rfl (za rfl (zc rfl (za rfl (zc rfl (za rfl (zc rfl (za rfl (zh rfl rfl (anx rfl (zm (zv (zg (zl (rs := [.tmp 2]) (vs := [_]) rfl ⟨rfl, trivial⟩ ?_)))))))))))))))))))))
      exact ⟨by refine congrArg (fun z => Ending.returned (.bool z)) ?_; first | (simp_all [PV.good, gr0]; done) | (simp_all [PV.good, gr0]; omega), (LW.step E XLW).toBelow⟩
    ·
     refine za rfl (zc rfl (za rfl (zh rfl rfl (mvx rfl (za rfl (zc rfl (za rfl (zc rfl (za rfl (zc rfl (za rfl (zh rfl rfl (mvx rfl (za rfl (zc rfl (za rfl (zc rfl (za rfl (zc rfl (za rfl (zh rfl rfl (anx rfl (zm (zv (zg (zl (rs := [.tmp 2]) (vs := [_]) rfl ⟨rfl, trivial⟩ ?_))))))))))))))))))))))))))
     exact ⟨by refine congrArg (fun z => Ending.returned (.bool z)) ?_; first | (simp_all [PV.good, gr0]; done) | (simp_all [PV.good, gr0]; omega), (LW.step E XLW).toBelow⟩
   ·
    refine zu 21 (.bool false) rfl (congrArg Value.bool h3) ?_;replace h3 := beq_eq_false_iff_ne.1 h3;refine srx (za rfl (ya rfl rfl (anx rfl (yx rfl (fun h7 => ?_) (fun h7 => ?_)))))
    ·
     refine zu 39 (.bool true) rfl (congrArg Value.bool h7) ?_;replace h7 := eq_of_beq h7;subst h7;refine srx (mvx rfl (mvx rfl (yr 42 rfl (fun h8 => ?_) (fun h8 => ?_))))
     ·
      replace h8 := eq_of_beq h8;refine onx rfl (zb Tryz.underlying28 rfl xa (by decide) rfl (onx rfl (zf Tryz.underlying25 rfl rfl (HF.on E).here.2 rfl (onx rfl (ya rfl rfl (za rfl (zt rfl rfl (mvx rfl (yr 47 rfl (fun h9 => ?_) (fun h9 => ?_))))))))))
      ·
       replace h9 := eq_of_beq h9;refine onx rfl (zb Tryz.underlying28 rfl sz9 (by decide) rfl (onx rfl (zf Tryz.underlying9 rfl rfl (HF.on E).here.2 rfl (onx rfl (xg rfl rfl (za rfl (zt rfl rfl (anx rfl (zm (zv (zg (zl (rs := [.tmp 2]) (vs := [_]) rfl ⟨rfl, trivial⟩ ?_))))))))))))
       exact ⟨by refine congrArg (fun z => Ending.returned (.bool z)) ?_; first | (simp_all [PV.good, gr0]; done) | (simp_all [PV.good, gr0]; omega), (LW.step E XLW).toBelow⟩
      ·
       replace h9 := beq_eq_false_iff_ne.1 h9;refine za rfl (zc rfl (za rfl (zc rfl (za rfl (zc rfl (za rfl (zh rfl rfl (anx rfl (zm (zv (zg (zl (rs := [.tmp 2]) (vs := [_]) rfl ⟨rfl, trivial⟩ ?_))))))))))))
       exact ⟨by refine congrArg (fun z => Ending.returned (.bool z)) ?_; first | (simp_all [PV.good, gr0]; done) | (simp_all [PV.good, gr0]; omega), (LW.step E XLW).toBelow⟩
     ·
      replace h8 := beq_eq_false_iff_ne.1 h8;refine za rfl (zc rfl (za rfl (zc rfl (za rfl (zc rfl (za rfl (zh rfl rfl (mvx rfl (za rfl (zc rfl (za rfl (zc rfl (za rfl (zc rfl (za rfl (zh rfl rfl (anx rfl (zm (zv (zg (zl (rs := [.tmp 2]) (vs := [_]) rfl ⟨rfl, trivial⟩ ?_)))))))))))))))))))))
      exact ⟨by refine congrArg (fun z => Ending.returned (.bool z)) ?_; first | (simp_all [PV.good, gr0]; done) | (simp_all [PV.good, gr0]; omega), (LW.step E XLW).toBelow⟩
    ·
     refine zu 39 (.bool false) rfl (congrArg Value.bool h7) ?_;replace h7 := beq_eq_false_iff_ne.1 h7;refine srx (za rfl (ya rfl rfl (anx rfl (yx rfl (fun h10 => ?_) (fun h10 => ?_)))))
     ·
      refine zu 52 (.bool true) rfl (congrArg Value.bool h10) ?_;replace h10 := eq_of_beq h10;subst h10;refine srx (za rfl (zb Tryz.underlying28 rfl yy (by decide) rfl (za rfl (zgq Tryz.underlying24 rfl yy rfl (HF.on E).here.2 rfl rfl (za rfl (zd en47 rfl ((yv neg c _ A xs hl (HF.on E).here.1.2).mono ?_)))))));rintro e w3 ⟨rfl, hb⟩
      refine ⟨_, rfl, ?_⟩;replace E := blx E hb;refine mvx rfl (yr 57 rfl (fun h11 => ?_) (fun h11 => ?_))
      ·
       refine onx rfl (zb Tryz.underlying28 rfl sz4 (by decide) rfl (onx rfl (zf Tryz.underlying4 rfl rfl (HF.on E).here.2 rfl (onx rfl (yf rfl (za rfl (zt rfl rfl (mvx rfl (yr 62 rfl (fun h12 => ?_) (fun h12 => ?_))))))))))
       ·
        refine onx rfl (zb Tryz.underlying28 rfl xa (by decide) rfl (onx rfl (zf Tryz.underlying25 rfl rfl (HF.on E).here.2 rfl (onx rfl (ya rfl rfl (za rfl (zt rfl rfl (mvx rfl (yr 67 rfl (fun h13 => ?_) (fun h13 => ?_))))))))))
        ·
         replace h13 := eq_of_beq h13;refine onx rfl (zb Tryz.underlying28 rfl sz9 (by decide) rfl (onx rfl (zf Tryz.underlying9 rfl rfl (HF.on E).here.2 rfl (onx rfl (xg rfl rfl (za rfl (zt rfl rfl (anx rfl (zm (zv (zg (zl (rs := [.tmp 2]) (vs := [_]) rfl ⟨rfl, trivial⟩ ?_))))))))))))
         exact ⟨by refine congrArg (fun z => Ending.returned (.bool z)) ?_; first | (simp_all [PV.good, gr0]; done) | (simp_all [PV.good, gr0]; omega), (LW.step E XLW).toBelow⟩
        ·
         replace h13 := beq_eq_false_iff_ne.1 h13;refine za rfl (zc rfl (za rfl (zc rfl (za rfl (zc rfl (za rfl (zh rfl rfl (anx rfl (zm (zv (zg (zl (rs := [.tmp 2]) (vs := [_]) rfl ⟨rfl, trivial⟩ ?_))))))))))))
         exact ⟨by refine congrArg (fun z => Ending.returned (.bool z)) ?_; first | (simp_all [PV.good, gr0]; done) | (simp_all [PV.good, gr0]; omega), (LW.step E XLW).toBelow⟩
       ·
        refine za rfl (zc rfl (za rfl (zc rfl (za rfl (zc rfl (za rfl (zh rfl rfl (mvx rfl (za rfl (zc rfl (za rfl (zc rfl (za rfl (zc rfl (za rfl (zh rfl rfl (anx rfl (zm (zv (zg (zl (rs := [.tmp 2]) (vs := [_]) rfl ⟨rfl, trivial⟩ ?_)))))))))))))))))))))
        exact ⟨by refine congrArg (fun z => Ending.returned (.bool z)) ?_; first | (simp_all [PV.good, gr0]; done) | (simp_all [PV.good, gr0]; omega), (LW.step E XLW).toBelow⟩
      ·
       refine za rfl (zc rfl (za rfl (zc rfl (za rfl (zc rfl (za rfl (zh rfl rfl (mvx rfl (za rfl (zc rfl (za rfl (zc rfl (za rfl (zc rfl (za rfl (zh rfl rfl (mvx rfl (za rfl (zc rfl (za rfl (zc rfl (za rfl (zc rfl (za rfl (zh rfl rfl (anx rfl (zm (zv (zg (zl (rs := [.tmp 2]) (vs := [_]) rfl ⟨rfl, trivial⟩ ?_))))))))))))))))))))))))))))))
       exact ⟨by refine congrArg (fun z => Ending.returned (.bool z)) ?_; first | (simp_all [PV.good, gr0]; done) | (simp_all [PV.good, gr0]; omega), (LW.step E XLW).toBelow⟩
     ·
      refine zu 52 (.bool false) rfl (congrArg Value.bool h10) ?_;replace h10 := beq_eq_false_iff_ne.1 h10;refine srx (za rfl (ya rfl rfl (anx rfl (yx rfl (fun h14 => ?_) (fun h14 => ?_)))))
      ·
       refine zu 72 (.bool true) rfl (congrArg Value.bool h14) ?_;replace h14 := eq_of_beq h14;subst h14;refine srx (mvx rfl (mvx rfl (yr 75 rfl (fun h15 => ?_) (fun h15 => ?_))))
       ·
        replace h15 := eq_of_beq h15;refine onx rfl (zb Tryz.underlying28 rfl sz4 (by decide) rfl (onx rfl (zf Tryz.underlying4 rfl rfl (HF.on E).here.2 rfl (onx rfl (yf rfl (za rfl (zt rfl rfl (mvx rfl (yr 80 rfl (fun h16 => ?_) (fun h16 => ?_))))))))))
        ·
         refine onx rfl (zb Tryz.underlying28 rfl sz9 (by decide) rfl (onx rfl (zf Tryz.underlying9 rfl rfl (HF.on E).here.2 rfl (onx rfl (xg rfl rfl (za rfl (zt rfl rfl (anx rfl (zm (zv (zg (zl (rs := [.tmp 2]) (vs := [_]) rfl ⟨rfl, trivial⟩ ?_))))))))))))
         exact ⟨by refine congrArg (fun z => Ending.returned (.bool z)) ?_; first | (simp_all [PV.good, gr0]; done) | (simp_all [PV.good, gr0]; omega), (LW.step E XLW).toBelow⟩
        ·
         refine za rfl (zc rfl (za rfl (zc rfl (za rfl (zc rfl (za rfl (zh rfl rfl (anx rfl (zm (zv (zg (zl (rs := [.tmp 2]) (vs := [_]) rfl ⟨rfl, trivial⟩ ?_))))))))))))
         exact ⟨by refine congrArg (fun z => Ending.returned (.bool z)) ?_; first | (simp_all [PV.good, gr0]; done) | (simp_all [PV.good, gr0]; omega), (LW.step E XLW).toBelow⟩
       ·
        replace h15 := beq_eq_false_iff_ne.1 h15;refine za rfl (zc rfl (za rfl (zc rfl (za rfl (zc rfl (za rfl (zh rfl rfl (mvx rfl (za rfl (zc rfl (za rfl (zc rfl (za rfl (zc rfl (za rfl (zh rfl rfl (anx rfl (zm (zv (zg (zl (rs := [.tmp 2]) (vs := [_]) rfl ⟨rfl, trivial⟩ ?_)))))))))))))))))))))
        exact ⟨by refine congrArg (fun z => Ending.returned (.bool z)) ?_; first | (simp_all [PV.good, gr0]; done) | (simp_all [PV.good, gr0]; omega), (LW.step E XLW).toBelow⟩
      ·
       refine zu 72 (.bool false) rfl (congrArg Value.bool h14) ?_;replace h14 := beq_eq_false_iff_ne.1 h14;refine srx (za rfl (ya rfl rfl (anx rfl (yx rfl (fun h17 => ?_) (fun h17 => ?_)))))
       ·
        refine zu 85 (.bool true) rfl (congrArg Value.bool h17) ?_;replace h17 := eq_of_beq h17;subst h17;refine srx (mvx rfl (mvx rfl (yr 88 rfl (fun h18 => ?_) (fun h18 => ?_))))
        ·
         replace h18 := eq_of_beq h18;refine onx rfl (zb Tryz.underlying28 rfl sz4 (by decide) rfl (onx rfl (zf Tryz.underlying4 rfl rfl (HF.on E).here.2 rfl (onx rfl (yf rfl (za rfl (zt rfl rfl (mvx rfl (yr 93 rfl (fun h19 => ?_) (fun h19 => ?_))))))))))
         ·
          refine onx rfl (zb Tryz.underlying28 rfl xa (by decide) rfl (onx rfl (zf Tryz.underlying25 rfl rfl (HF.on E).here.2 rfl (onx rfl (ya rfl rfl (za rfl (zt rfl rfl (mvx rfl (yr 98 rfl (fun h20 => ?_) (fun h20 => ?_))))))))))
          ·
           replace h20 := eq_of_beq h20;refine onx rfl (zb Tryz.underlying28 rfl sz9 (by decide) rfl (onx rfl (zf Tryz.underlying9 rfl rfl (HF.on E).here.2 rfl (onx rfl (zcv Tryz.underlying9 rfl (onx rfl (zgk rfl rfl (za rfl (zt rfl rfl (anx rfl (zm (zv (zg (zl (rs := [.tmp 2]) (vs := [_]) rfl ⟨rfl, trivial⟩ ?_))))))))))))))
           exact ⟨by refine congrArg (fun z => Ending.returned (.bool z)) ?_; first | (simp_all [PV.good, gr0]; done) | (simp_all [PV.good, gr0]; omega), (LW.step E XLW).toBelow⟩
          ·
           replace h20 := beq_eq_false_iff_ne.1 h20;refine za rfl (zc rfl (za rfl (zc rfl (za rfl (zc rfl (za rfl (zc rfl (za rfl (zh rfl rfl (anx rfl (zm (zv (zg (zl (rs := [.tmp 2]) (vs := [_]) rfl ⟨rfl, trivial⟩ ?_))))))))))))))
           exact ⟨by refine congrArg (fun z => Ending.returned (.bool z)) ?_; first | (simp_all [PV.good, gr0]; done) | (simp_all [PV.good, gr0]; omega), (LW.step E XLW).toBelow⟩
         ·
          refine za rfl (zc rfl (za rfl (zc rfl (za rfl (zc rfl (za rfl (zh rfl rfl (mvx rfl (za rfl (zc rfl (za rfl (zc rfl (za rfl (zc rfl (za rfl (zc rfl (za rfl (zh rfl rfl (anx rfl (zm (zv (zg (zl (rs := [.tmp 2]) (vs := [_]) rfl ⟨rfl, trivial⟩ ?_)))))))))))))))))))))))
          exact ⟨by refine congrArg (fun z => Ending.returned (.bool z)) ?_; first | (simp_all [PV.good, gr0]; done) | (simp_all [PV.good, gr0]; omega), (LW.step E XLW).toBelow⟩
        ·
         replace h18 := beq_eq_false_iff_ne.1 h18
         refine za rfl (zc rfl (za rfl (zc rfl (za rfl (zc rfl (za rfl (zh rfl rfl (mvx rfl (za rfl (zc rfl (za rfl (zc rfl (za rfl (zc rfl (za rfl (zh rfl rfl (mvx rfl (za rfl (zc rfl (za rfl (zc rfl (za rfl (zc rfl (za rfl (zc rfl (za rfl (zh rfl rfl (anx rfl (zm (zv (zg (zl (rs := [.tmp 2]) (vs := [_]) rfl ⟨rfl, trivial⟩ ?_))))))))))))))))))))))))))))))))
         exact ⟨by refine congrArg (fun z => Ending.returned (.bool z)) ?_; first | (simp_all [PV.good, gr0]; done) | (simp_all [PV.good, gr0]; omega), (LW.step E XLW).toBelow⟩
       ·
        refine zu 85 (.bool false) rfl (congrArg Value.bool h17) ?_;replace h17 := beq_eq_false_iff_ne.1 h17;refine zq (zw (zk (srx (anx rfl (zm (zl (rs := [.tmp 2]) (vs := [_]) rfl ⟨rfl, trivial⟩ ?_))))))
        exact ⟨by refine congrArg (fun z => Ending.returned (.bool z)) ?_; first | (simp_all [PV.good, gr0]; done) | (simp_all [PV.good, gr0]; omega), (LW.step E XLW).toBelow⟩
  ·
   refine za rfl (zc rfl (za rfl (zc rfl (za rfl (zc rfl (za rfl (zc rfl (za rfl (zc rfl (za rfl (zh rfl rfl (anx rfl (zj (srx (za rfl (zb Tryz.underlying28 rfl sz3 (by decide) rfl (za rfl (zf Tryz.underlying3 rfl rfl (HF.on E).here.2 rfl (rnx (yi (srx (za rfl (ya rfl rfl (anx rfl (yx rfl (fun h21 => ?_) (fun h21 => ?_))))))))))))))))))))))))))
   ·
    refine zu 21 (.bool true) rfl (congrArg Value.bool h21) ?_;replace h21 := eq_of_beq h21;subst h21;refine srx (za rfl (zb Tryz.underlying28 rfl sz4 (by decide) rfl (za rfl (zf Tryz.underlying4 rfl rfl (HF.on E).here.2 rfl (za rfl (yf rfl (mvx rfl (yr 26 rfl (fun h22 => ?_) (fun h22 => ?_)))))))))
    ·
     refine onx rfl (zy rfl (za rfl (zt rfl rfl (mvx rfl (za rfl (zc rfl (za rfl (zc rfl (za rfl (zc rfl (za rfl (zh rfl rfl (mvx rfl (za rfl (zc rfl (za rfl (zc rfl (za rfl (zc rfl (za rfl (zh rfl rfl (anx rfl (zm (zv (zg (zl (rs := [.tmp 2]) (vs := [_]) rfl ⟨rfl, trivial⟩ ?_))))))))))))))))))))))))))
     exact ⟨by refine congrArg (fun z => Ending.returned (.bool z)) ?_; first | (simp_all [PV.good, gr0]; done) | (simp_all [PV.good, gr0]; omega), (LW.step E XLW).toBelow⟩
    ·
     refine za rfl (zc rfl (za rfl (zh rfl rfl (mvx rfl (za rfl (zc rfl (za rfl (zc rfl (za rfl (zc rfl (za rfl (zh rfl rfl (mvx rfl (za rfl (zc rfl (za rfl (zc rfl (za rfl (zc rfl (za rfl (zh rfl rfl (anx rfl (zm (zv (zg (zl (rs := [.tmp 2]) (vs := [_]) rfl ⟨rfl, trivial⟩ ?_))))))))))))))))))))))))))
     exact ⟨by refine congrArg (fun z => Ending.returned (.bool z)) ?_; first | (simp_all [PV.good, gr0]; done) | (simp_all [PV.good, gr0]; omega), (LW.step E XLW).toBelow⟩
   ·
    refine zu 21 (.bool false) rfl (congrArg Value.bool h21) ?_;replace h21 := beq_eq_false_iff_ne.1 h21;refine srx (za rfl (ya rfl rfl (anx rfl (yx rfl (fun h23 => ?_) (fun h23 => ?_)))))
    ·
     refine zu 39 (.bool true) rfl (congrArg Value.bool h23) ?_;replace h23 := eq_of_beq h23;subst h23
     refine srx (mvx rfl (mvx rfl (za rfl (zc rfl (za rfl (zc rfl (za rfl (zc rfl (za rfl (zh rfl rfl (mvx rfl (za rfl (zc rfl (za rfl (zc rfl (za rfl (zc rfl (za rfl (zh rfl rfl (anx rfl (zm (zv (zg (zl (rs := [.tmp 2]) (vs := [_]) rfl ⟨rfl, trivial⟩ ?_))))))))))))))))))))))))
     exact ⟨by refine congrArg (fun z => Ending.returned (.bool z)) ?_; first | (simp_all [PV.good, gr0]; done) | (simp_all [PV.good, gr0]; omega), (LW.step E XLW).toBelow⟩
    ·
     refine zu 39 (.bool false) rfl (congrArg Value.bool h23) ?_;replace h23 := beq_eq_false_iff_ne.1 h23;refine srx (za rfl (ya rfl rfl (anx rfl (yx rfl (fun h24 => ?_) (fun h24 => ?_)))))
     ·
      refine zu 52 (.bool true) rfl (congrArg Value.bool h24) ?_;replace h24 := eq_of_beq h24;subst h24;refine srx (za rfl (zb Tryz.underlying28 rfl yy (by decide) rfl (za rfl (zgq Tryz.underlying24 rfl yy rfl (HF.on E).here.2 rfl rfl (za rfl (zd en47 rfl ((yv neg c _ A xs hl (HF.on E).here.1.2).mono ?_)))))));rintro e w4 ⟨rfl, hb⟩
      refine ⟨_, rfl, ?_⟩;replace E := blx E hb;refine mvx rfl (yr 57 rfl (fun h25 => ?_) (fun h25 => ?_))
      ·
       refine onx rfl (zb Tryz.underlying28 rfl sz4 (by decide) rfl (onx rfl (zf Tryz.underlying4 rfl rfl (HF.on E).here.2 rfl (onx rfl (yf rfl (za rfl (zt rfl rfl (mvx rfl (yr 62 rfl (fun h26 => ?_) (fun h26 => ?_))))))))))
       ·
        refine onx rfl (zb Tryz.underlying28 rfl xa (by decide) rfl (onx rfl (zf Tryz.underlying25 rfl rfl (HF.on E).here.2 rfl (onx rfl (ya rfl rfl (za rfl (zt rfl rfl (mvx rfl (yr 67 rfl (fun h27 => ?_) (fun h27 => ?_))))))))))
        ·
         replace h27 := eq_of_beq h27;refine onx rfl (zb Tryz.underlying28 rfl sz9 (by decide) rfl (onx rfl (zf Tryz.underlying9 rfl rfl (HF.on E).here.2 rfl (onx rfl (xg rfl rfl (za rfl (zt rfl rfl (anx rfl (zm (zv (zg (zl (rs := [.tmp 2]) (vs := [_]) rfl ⟨rfl, trivial⟩ ?_))))))))))))
         exact ⟨by refine congrArg (fun z => Ending.returned (.bool z)) ?_; first | (simp_all [PV.good, gr0]; done) | (simp_all [PV.good, gr0]; omega), (LW.step E XLW).toBelow⟩
        ·
         replace h27 := beq_eq_false_iff_ne.1 h27;refine za rfl (zc rfl (za rfl (zc rfl (za rfl (zc rfl (za rfl (zh rfl rfl (anx rfl (zm (zv (zg (zl (rs := [.tmp 2]) (vs := [_]) rfl ⟨rfl, trivial⟩ ?_))))))))))))
         exact ⟨by refine congrArg (fun z => Ending.returned (.bool z)) ?_; first | (simp_all [PV.good, gr0]; done) | (simp_all [PV.good, gr0]; omega), (LW.step E XLW).toBelow⟩
       ·
        refine za rfl (zc rfl (za rfl (zc rfl (za rfl (zc rfl (za rfl (zh rfl rfl (mvx rfl (za rfl (zc rfl (za rfl (zc rfl (za rfl (zc rfl (za rfl (zh rfl rfl (anx rfl (zm (zv (zg (zl (rs := [.tmp 2]) (vs := [_]) rfl ⟨rfl, trivial⟩ ?_)))))))))))))))))))))
        exact ⟨by refine congrArg (fun z => Ending.returned (.bool z)) ?_; first | (simp_all [PV.good, gr0]; done) | (simp_all [PV.good, gr0]; omega), (LW.step E XLW).toBelow⟩
      ·
       refine za rfl (zc rfl (za rfl (zc rfl (za rfl (zc rfl (za rfl (zh rfl rfl (mvx rfl (za rfl (zc rfl (za rfl (zc rfl (za rfl (zc rfl (za rfl (zh rfl rfl (mvx rfl (za rfl (zc rfl (za rfl (zc rfl (za rfl (zc rfl (za rfl (zh rfl rfl (anx rfl (zm (zv (zg (zl (rs := [.tmp 2]) (vs := [_]) rfl ⟨rfl, trivial⟩ ?_))))))))))))))))))))))))))))))
       exact ⟨by refine congrArg (fun z => Ending.returned (.bool z)) ?_; first | (simp_all [PV.good, gr0]; done) | (simp_all [PV.good, gr0]; omega), (LW.step E XLW).toBelow⟩
     ·
      refine zu 52 (.bool false) rfl (congrArg Value.bool h24) ?_;replace h24 := beq_eq_false_iff_ne.1 h24;refine srx (za rfl (ya rfl rfl (anx rfl (yx rfl (fun h28 => ?_) (fun h28 => ?_)))))
      ·
       refine zu 72 (.bool true) rfl (congrArg Value.bool h28) ?_;replace h28 := eq_of_beq h28;subst h28
       refine srx (mvx rfl (mvx rfl (za rfl (zc rfl (za rfl (zc rfl (za rfl (zc rfl (za rfl (zh rfl rfl (mvx rfl (za rfl (zc rfl (za rfl (zc rfl (za rfl (zc rfl (za rfl (zh rfl rfl (anx rfl (zm (zv (zg (zl (rs := [.tmp 2]) (vs := [_]) rfl ⟨rfl, trivial⟩ ?_))))))))))))))))))))))))
       exact ⟨by refine congrArg (fun z => Ending.returned (.bool z)) ?_; first | (simp_all [PV.good, gr0]; done) | (simp_all [PV.good, gr0]; omega), (LW.step E XLW).toBelow⟩
      ·
       refine zu 72 (.bool false) rfl (congrArg Value.bool h28) ?_;replace h28 := beq_eq_false_iff_ne.1 h28;refine srx (za rfl (ya rfl rfl (anx rfl (yx rfl (fun h29 => ?_) (fun h29 => ?_)))))
       ·
        refine zu 85 (.bool true) rfl (congrArg Value.bool h29) ?_;replace h29 := eq_of_beq h29;subst h29
        refine srx (mvx rfl (mvx rfl (za rfl (zc rfl (za rfl (zc rfl (za rfl (zc rfl (za rfl (zh rfl rfl (mvx rfl (za rfl (zc rfl (za rfl (zc rfl (za rfl (zc rfl (za rfl (zh rfl rfl (mvx rfl (za rfl (zc rfl (za rfl (zc rfl (za rfl (zc rfl (za rfl (zc rfl (za rfl (zh rfl rfl (anx rfl (zm (zv (zg (zl (rs := [.tmp 2]) (vs := [_]) rfl ⟨rfl, trivial⟩ ?_)))))))))))))))))))))))))))))))))))
        exact ⟨by refine congrArg (fun z => Ending.returned (.bool z)) ?_; first | (simp_all [PV.good, gr0]; done) | (simp_all [PV.good, gr0]; omega), (LW.step E XLW).toBelow⟩
       ·
        refine zu 85 (.bool false) rfl (congrArg Value.bool h29) ?_;replace h29 := beq_eq_false_iff_ne.1 h29;refine zq (zw (zk (srx (anx rfl (zm (zl (rs := [.tmp 2]) (vs := [_]) rfl ⟨rfl, trivial⟩ ?_))))))
        exact ⟨by refine congrArg (fun z => Ending.returned (.bool z)) ?_; first | (simp_all [PV.good, gr0]; done) | (simp_all [PV.good, gr0]; omega), (LW.step E XLW).toBelow⟩
theorem rg0 : Calls Tryz.prog 15 #[.agg #[.int .i64 0, .bool yes, .bool neg, .slice A xs.length c, .int .u64 ((bits : Nat) : Int), .string s, .slice B ni d]] w fun e w' => e = .returned (.bool (PV.good ⟨0, yes, neg, xs, bits, s, ni⟩)) ∧ Below w.heap.size w w' := by
 have _ := hx;have _ := hl;have hs0 : s.toList = [] → s.size = 0 := kq;refine zr Tryz.func15 rfl Tryz.ntmps15 rfl ?_;have HF : Per (No) w (fun _ => True) := Per.true_;have LW := erx (No) w;have XLW := grx (No) w;have E := erx (No) w;replace HF := HF.on E;replace LW := LW.step E XLW;replace E := erx (No) w;replace HF := HF.and (Per.nums0 hx);refine srx (za rfl (zx rfl ?_))
 intro gb1 w2 Bb1 Eb1 Gb1;have Gb1 : _ ≤ gb1 := Nat.le_trans E.size Gb1;have GLb1 := Nat.le_trans LW.size Gb1;replace E := E.trans Eb1.no;replace HF := HF.cons (zi Gb1);replace E := E.cons (some gb1);replace XLW := Mut.grow XLW (fun k e => Or.inr (Nat.le_trans LW.size ((zi Gb1) k e)));replace HF := HF.on E;replace LW := LW.step E XLW
 have SB : ∀ q9, No q9 → Mut [(some gb1)] q9 := (Mut.skip Mut.nil_);replace HF := HF.less SB;replace XLW := fun k h => XLW k (SB k h);clear SB;replace E := erx (No) w2;replace HF := HF.and (Per.blkN Bb1 NotIn.nil)
 refine anx rfl (zj (srx (za rfl (zb Tryz.underlying28 rfl sz3 (by decide) rfl (za rfl (zf Tryz.underlying3 rfl rfl (HF.on E).here.2 rfl (za rfl (jy rfl rfl (mvx rfl (onx rfl (zb Tryz.underlying28 rfl sz3 (by decide) rfl (onx rfl (zf Tryz.underlying3 rfl rfl (HF.on E).here.2 rfl (onx rfl (gg rfl rfl (za rfl (zh rfl rfl (mvx rfl (onx rfl (zb Tryz.underlying28 rfl sz26 (by decide) rfl (onx rfl (zf Tryz.underlying26 rfl rfl (HF.on E).here.2 rfl (onx rfl (vq Tryz.underlying26 rfl (onx rfl (qc rfl rfl (za rfl (zh rfl rfl (rnx (yx rfl (fun h1 => ?_) (fun h1 => ?_)))))))))))))))))))))))))))))))
 ·
  refine zu 16 (.bool true) rfl (congrArg Value.bool h1) (srx (anx rfl (zm (zg (zl (rs := [.tmp 2]) (vs := [_]) rfl ⟨rfl, trivial⟩ ?_)))));exact ⟨by refine congrArg (fun z => Ending.returned (.bool z)) ?_; first | (simp_all [PV.good, gr0]; done) | (simp_all [PV.good, gr0]; omega), (LW.step E XLW).toBelow⟩
 ·
  refine zu 16 (.bool false) rfl (congrArg Value.bool h1) (zq (zk (zj (srx (za rfl (zb Tryz.underlying28 rfl sz3 (by decide) rfl (za rfl (zf Tryz.underlying3 rfl rfl (HF.on E).here.2 rfl (za rfl (qc rfl rfl (mvx rfl (onx rfl (zb Tryz.underlying28 rfl sz4 (by decide) rfl (onx rfl (zf Tryz.underlying4 rfl rfl (HF.on E).here.2 rfl (za rfl (zt rfl rfl (mvx rfl (yr 24 rfl (fun h2 => ?_) (fun h2 => ?_))))))))))))))))))))
  ·
   refine za rfl (zc rfl (za rfl (zc rfl (za rfl (zc rfl (za rfl (zc rfl (za rfl (yq rfl rfl (za rfl (yq rfl rfl (za rfl (yq rfl rfl (za rfl (zc rfl (za rfl (zt rfl rfl (mvx rfl (za rfl (zc rfl (za rfl (zc rfl (za rfl (zc rfl (za rfl (zc rfl (za rfl (yq rfl rfl (za rfl (yq rfl rfl (za rfl (yq rfl rfl (za rfl (zc rfl (za rfl (zt rfl rfl (rnx (yc rfl (srx (anx rfl (zm (zg (zl (rs := [.tmp 2]) (vs := [_]) rfl ⟨rfl, trivial⟩ ?_)))))))))))))))))))))))))))))))))))))))))))
   exact ⟨by refine congrArg (fun z => Ending.returned (.bool z)) ?_; first | (simp_all [PV.good, gr0]; done) | (simp_all [PV.good, gr0]; omega), (LW.step E XLW).toBelow⟩
  ·
   refine onx rfl (zb Tryz.underlying28 rfl sz3 (by decide) rfl (onx rfl (zf Tryz.underlying3 rfl rfl (HF.on E).here.2 rfl (onx rfl (qc rfl rfl (onx rfl (zy rfl (onx rfl (zb Tryz.underlying28 rfl xa (by decide) rfl (onx rfl (zf Tryz.underlying25 rfl rfl (HF.on E).here.2 rfl (onx rfl (qc rfl rfl (onx rfl (zt rfl rfl (za rfl (zh rfl rfl (mvx rfl (yr 34 rfl (fun h3 => ?_) (fun h3 => ?_))))))))))))))))))))
   ·
    refine za rfl (zc rfl (za rfl (zc rfl (za rfl (zc rfl (za rfl (zc rfl (za rfl (yq rfl rfl (za rfl (yq rfl rfl (za rfl (yq rfl rfl (za rfl (zc rfl (za rfl (zt rfl rfl (rnx (yc rfl (srx (anx rfl (zm (zg (zl (rs := [.tmp 2]) (vs := [_]) rfl ⟨rfl, trivial⟩ ?_))))))))))))))))))))))))
    exact ⟨by refine congrArg (fun z => Ending.returned (.bool z)) ?_; first | (simp_all [PV.good, gr0]; done) | (simp_all [PV.good, gr0]; omega), (LW.step E XLW).toBelow⟩
   ·
    refine onx rfl (zb Tryz.underlying28 rfl sz3 (by decide) rfl (onx rfl (zf Tryz.underlying3 rfl rfl (HF.on E).here.2 rfl (onx rfl (qc rfl rfl (onx rfl (zy rfl (onx rfl (zb Tryz.underlying28 rfl sz9 (by decide) rfl (onx rfl (zf Tryz.underlying9 rfl rfl (HF.on E).here.2 rfl (onx rfl (zkq rfl rfl (onx rfl (zt rfl rfl (za rfl (zh rfl rfl (rnx (yx rfl (fun h4 => ?_) (fun h4 => ?_))))))))))))))))))))
    ·
     refine zu 43 (.bool true) rfl (congrArg Value.bool h4) (srx (anx rfl (zm (zg (zl (rs := [.tmp 2]) (vs := [_]) rfl ⟨rfl, trivial⟩ ?_)))));exact ⟨by refine congrArg (fun z => Ending.returned (.bool z)) ?_; first | (simp_all [PV.good, gr0]; done) | (simp_all [PV.good, gr0]; omega), (LW.step E XLW).toBelow⟩
    ·
     refine zu 43 (.bool false) rfl (congrArg Value.bool h4) (zq (zk (zj (srx (za rfl (zb Tryz.underlying28 rfl sz3 (by decide) rfl (za rfl (zf Tryz.underlying3 rfl rfl (HF.on E).here.2 rfl (za rfl (qc rfl rfl (rnx (yc rfl (srx (za rfl (zb Tryz.underlying28 rfl yy (by decide) rfl (za rfl (zb Tryz.underlying24 rfl sz4 (by decide) rfl (za rfl (zf Tryz.underlying4 rfl rfl (HF.on E).here.2 rfl (za rfl (yf rfl (mvx rfl (yr 51 rfl (fun h5 => ?_) (fun h5 => ?_))))))))))))))))))))))))
     ·
      refine onx rfl (zb Tryz.underlying28 rfl yy (by decide) rfl (onx rfl (zb Tryz.underlying24 rfl zfk (by decide) rfl (onx rfl (zf Tryz.underlying22 rfl rfl (HF.on E).here.2 rfl (onx rfl (vq Tryz.underlying22 rfl (onx rfl (ya rfl rfl (za rfl (zt rfl rfl (mvx rfl (yr 58 rfl (fun h6 => ?_) (fun h6 => ?_))))))))))))))
      ·
       replace h6 := eq_of_beq h6;refine onx rfl (zb Tryz.underlying28 rfl sz9 (by decide) rfl (onx rfl (zf Tryz.underlying9 rfl rfl (HF.on E).here.2 rfl (onx rfl (zcv Tryz.underlying9 rfl (onx rfl (zgk rfl rfl (za rfl (zt rfl rfl (anx rfl (zm (zg (zl (rs := [.tmp 2]) (vs := [_]) rfl ⟨rfl, trivial⟩ ?_)))))))))))))
       exact ⟨by refine congrArg (fun z => Ending.returned (.bool z)) ?_; first | (simp_all [PV.good, gr0]; done) | (simp_all [PV.good, gr0]; omega), (LW.step E XLW).toBelow⟩
      ·
       replace h6 := beq_eq_false_iff_ne.1 h6;refine za rfl (zc rfl (za rfl (zc rfl (za rfl (zc rfl (za rfl (zc rfl (za rfl (zh rfl rfl (anx rfl (zm (zg (zl (rs := [.tmp 2]) (vs := [_]) rfl ⟨rfl, trivial⟩ ?_)))))))))))))
       exact ⟨by refine congrArg (fun z => Ending.returned (.bool z)) ?_; first | (simp_all [PV.good, gr0]; done) | (simp_all [PV.good, gr0]; omega), (LW.step E XLW).toBelow⟩
     ·
      refine za rfl (zc rfl (za rfl (zc rfl (za rfl (zc rfl (za rfl (zc rfl (za rfl (zc rfl (za rfl (zh rfl rfl (mvx rfl (za rfl (zc rfl (za rfl (zc rfl (za rfl (zc rfl (za rfl (zc rfl (za rfl (zh rfl rfl (anx rfl (zm (zg (zl (rs := [.tmp 2]) (vs := [_]) rfl ⟨rfl, trivial⟩ ?_))))))))))))))))))))))))))
      exact ⟨by refine congrArg (fun z => Ending.returned (.bool z)) ?_; first | (simp_all [PV.good, gr0]; done) | (simp_all [PV.good, gr0]; omega), (LW.step E XLW).toBelow⟩
theorem rg1 : Calls Tryz.prog 15 #[.agg #[.int .i64 1, .bool yes, .bool neg, .slice A xs.length c, .int .u64 ((bits : Nat) : Int), .string s, .slice B ni d]] w fun e w' => e = .returned (.bool (PV.good ⟨1, yes, neg, xs, bits, s, ni⟩)) ∧ Below w.heap.size w w' := by
 have _ := hx;have _ := hl;have hs0 : s.toList = [] → s.size = 0 := kq;refine zr Tryz.func15 rfl Tryz.ntmps15 rfl ?_;have HF : Per (No) w (fun _ => True) := Per.true_;have LW := erx (No) w;have XLW := grx (No) w;have E := erx (No) w;replace HF := HF.on E;replace LW := LW.step E XLW;replace E := erx (No) w;replace HF := HF.and (Per.nums0 hx);refine srx (za rfl (zx rfl ?_))
 intro gb1 w2 Bb1 Eb1 Gb1;have Gb1 : _ ≤ gb1 := Nat.le_trans E.size Gb1;have GLb1 := Nat.le_trans LW.size Gb1;replace E := E.trans Eb1.no;replace HF := HF.cons (zi Gb1);replace E := E.cons (some gb1);replace XLW := Mut.grow XLW (fun k e => Or.inr (Nat.le_trans LW.size ((zi Gb1) k e)));replace HF := HF.on E;replace LW := LW.step E XLW
 have SB : ∀ q9, No q9 → Mut [(some gb1)] q9 := (Mut.skip Mut.nil_);replace HF := HF.less SB;replace XLW := fun k h => XLW k (SB k h);clear SB;replace E := erx (No) w2;replace HF := HF.and (Per.blkN Bb1 NotIn.nil)
 refine anx rfl (zj (srx (za rfl (zb Tryz.underlying28 rfl sz3 (by decide) rfl (za rfl (zf Tryz.underlying3 rfl rfl (HF.on E).here.2 rfl (za rfl (jy rfl rfl (mvx rfl (onx rfl (zb Tryz.underlying28 rfl sz3 (by decide) rfl (onx rfl (zf Tryz.underlying3 rfl rfl (HF.on E).here.2 rfl (onx rfl (gg rfl rfl (za rfl (zh rfl rfl (mvx rfl (onx rfl (zb Tryz.underlying28 rfl sz26 (by decide) rfl (onx rfl (zf Tryz.underlying26 rfl rfl (HF.on E).here.2 rfl (onx rfl (vq Tryz.underlying26 rfl (onx rfl (qc rfl rfl (za rfl (zh rfl rfl (rnx (yx rfl (fun h1 => ?_) (fun h1 => ?_)))))))))))))))))))))))))))))))
 ·
  refine zu 16 (.bool true) rfl (congrArg Value.bool h1) (srx (anx rfl (zm (zg (zl (rs := [.tmp 2]) (vs := [_]) rfl ⟨rfl, trivial⟩ ?_)))));exact ⟨by refine congrArg (fun z => Ending.returned (.bool z)) ?_; first | (simp_all [PV.good, gr0]; done) | (simp_all [PV.good, gr0]; omega), (LW.step E XLW).toBelow⟩
 ·
  refine zu 16 (.bool false) rfl (congrArg Value.bool h1) (zq (zk (zj (srx (za rfl (zb Tryz.underlying28 rfl sz3 (by decide) rfl (za rfl (zf Tryz.underlying3 rfl rfl (HF.on E).here.2 rfl (za rfl (qc rfl rfl (mvx rfl (za rfl (zc rfl (za rfl (zc rfl (za rfl (zh rfl rfl (mvx rfl (onx rfl (zb Tryz.underlying28 rfl sz3 (by decide) rfl (onx rfl (zf Tryz.underlying3 rfl rfl (HF.on E).here.2 rfl (onx rfl (qc rfl rfl (onx rfl (zy rfl (onx rfl (zb Tryz.underlying28 rfl xa (by decide) rfl (onx rfl (zf Tryz.underlying25 rfl rfl (HF.on E).here.2 rfl (onx rfl (qc rfl rfl (onx rfl (zt rfl rfl (za rfl (zh rfl rfl (mvx rfl (yr 34 rfl (fun h2 => ?_) (fun h2 => ?_)))))))))))))))))))))))))))))))))))))))
  ·
   refine za rfl (zc rfl (za rfl (zc rfl (za rfl (zc rfl (za rfl (zc rfl (za rfl (yq rfl rfl (za rfl (yq rfl rfl (za rfl (yq rfl rfl (za rfl (zc rfl (za rfl (zt rfl rfl (rnx (yc rfl (srx (anx rfl (zm (zg (zl (rs := [.tmp 2]) (vs := [_]) rfl ⟨rfl, trivial⟩ ?_))))))))))))))))))))))))
   exact ⟨by refine congrArg (fun z => Ending.returned (.bool z)) ?_; first | (simp_all [PV.good, gr0]; done) | (simp_all [PV.good, gr0]; omega), (LW.step E XLW).toBelow⟩
  ·
   refine onx rfl (zb Tryz.underlying28 rfl sz3 (by decide) rfl (onx rfl (zf Tryz.underlying3 rfl rfl (HF.on E).here.2 rfl (onx rfl (qc rfl rfl (onx rfl (zy rfl (onx rfl (zb Tryz.underlying28 rfl sz9 (by decide) rfl (onx rfl (zf Tryz.underlying9 rfl rfl (HF.on E).here.2 rfl (onx rfl (zkq rfl rfl (onx rfl (zt rfl rfl (za rfl (zh rfl rfl (rnx (yx rfl (fun h3 => ?_) (fun h3 => ?_))))))))))))))))))))
   ·
    refine zu 43 (.bool true) rfl (congrArg Value.bool h3) (srx (anx rfl (zm (zg (zl (rs := [.tmp 2]) (vs := [_]) rfl ⟨rfl, trivial⟩ ?_)))));exact ⟨by refine congrArg (fun z => Ending.returned (.bool z)) ?_; first | (simp_all [PV.good, gr0]; done) | (simp_all [PV.good, gr0]; omega), (LW.step E XLW).toBelow⟩
   ·
    refine zu 43 (.bool false) rfl (congrArg Value.bool h3) (zq (zk (zj (srx (za rfl (zb Tryz.underlying28 rfl sz3 (by decide) rfl (za rfl (zf Tryz.underlying3 rfl rfl (HF.on E).here.2 rfl (za rfl (qc rfl rfl (rnx (yc rfl (srx (za rfl (zb Tryz.underlying28 rfl yy (by decide) rfl (za rfl (zb Tryz.underlying24 rfl sz4 (by decide) rfl (za rfl (zf Tryz.underlying4 rfl rfl (HF.on E).here.2 rfl (za rfl (yf rfl (mvx rfl (yr 51 rfl (fun h4 => ?_) (fun h4 => ?_))))))))))))))))))))))))
    ·
     refine onx rfl (zb Tryz.underlying28 rfl yy (by decide) rfl (onx rfl (zb Tryz.underlying24 rfl zfk (by decide) rfl (onx rfl (zf Tryz.underlying22 rfl rfl (HF.on E).here.2 rfl (onx rfl (vq Tryz.underlying22 rfl (onx rfl (ya rfl rfl (za rfl (zt rfl rfl (mvx rfl (yr 58 rfl (fun h5 => ?_) (fun h5 => ?_))))))))))))))
     ·
      replace h5 := eq_of_beq h5;refine onx rfl (zb Tryz.underlying28 rfl sz9 (by decide) rfl (onx rfl (zf Tryz.underlying9 rfl rfl (HF.on E).here.2 rfl (onx rfl (zcv Tryz.underlying9 rfl (onx rfl (zgk rfl rfl (za rfl (zt rfl rfl (anx rfl (zm (zg (zl (rs := [.tmp 2]) (vs := [_]) rfl ⟨rfl, trivial⟩ ?_)))))))))))))
      exact ⟨by refine congrArg (fun z => Ending.returned (.bool z)) ?_; first | (simp_all [PV.good, gr0]; done) | (simp_all [PV.good, gr0]; omega), (LW.step E XLW).toBelow⟩
     ·
      replace h5 := beq_eq_false_iff_ne.1 h5;refine za rfl (zc rfl (za rfl (zc rfl (za rfl (zc rfl (za rfl (zc rfl (za rfl (zh rfl rfl (anx rfl (zm (zg (zl (rs := [.tmp 2]) (vs := [_]) rfl ⟨rfl, trivial⟩ ?_)))))))))))))
      exact ⟨by refine congrArg (fun z => Ending.returned (.bool z)) ?_; first | (simp_all [PV.good, gr0]; done) | (simp_all [PV.good, gr0]; omega), (LW.step E XLW).toBelow⟩
    ·
     refine za rfl (zc rfl (za rfl (zc rfl (za rfl (zc rfl (za rfl (zc rfl (za rfl (zc rfl (za rfl (zh rfl rfl (mvx rfl (za rfl (zc rfl (za rfl (zc rfl (za rfl (zc rfl (za rfl (zc rfl (za rfl (zh rfl rfl (anx rfl (zm (zg (zl (rs := [.tmp 2]) (vs := [_]) rfl ⟨rfl, trivial⟩ ?_))))))))))))))))))))))))))
     exact ⟨by refine congrArg (fun z => Ending.returned (.bool z)) ?_; first | (simp_all [PV.good, gr0]; done) | (simp_all [PV.good, gr0]; omega), (LW.step E XLW).toBelow⟩
theorem rg2 : Calls Tryz.prog 15 #[.agg #[.int .i64 2, .bool yes, .bool neg, .slice A xs.length c, .int .u64 ((bits : Nat) : Int), .string s, .slice B ni d]] w fun e w' => e = .returned (.bool (PV.good ⟨2, yes, neg, xs, bits, s, ni⟩)) ∧ Below w.heap.size w w' := by
 have _ := hx;have _ := hl;have hs0 : s.toList = [] → s.size = 0 := kq;refine zr Tryz.func15 rfl Tryz.ntmps15 rfl ?_;have HF : Per (No) w (fun _ => True) := Per.true_;have LW := erx (No) w;have XLW := grx (No) w;have E := erx (No) w;replace HF := HF.on E;replace LW := LW.step E XLW;replace E := erx (No) w;replace HF := HF.and (Per.nums0 hx);refine srx (za rfl (zx rfl ?_))
 intro gb1 w2 Bb1 Eb1 Gb1;have Gb1 : _ ≤ gb1 := Nat.le_trans E.size Gb1;have GLb1 := Nat.le_trans LW.size Gb1;replace E := E.trans Eb1.no;replace HF := HF.cons (zi Gb1);replace E := E.cons (some gb1);replace XLW := Mut.grow XLW (fun k e => Or.inr (Nat.le_trans LW.size ((zi Gb1) k e)));replace HF := HF.on E;replace LW := LW.step E XLW
 have SB : ∀ q9, No q9 → Mut [(some gb1)] q9 := (Mut.skip Mut.nil_);replace HF := HF.less SB;replace XLW := fun k h => XLW k (SB k h);clear SB;replace E := erx (No) w2;replace HF := HF.and (Per.blkN Bb1 NotIn.nil)
 refine anx rfl (zj (srx (za rfl (zb Tryz.underlying28 rfl sz3 (by decide) rfl (za rfl (zf Tryz.underlying3 rfl rfl (HF.on E).here.2 rfl (za rfl (jy rfl rfl (mvx rfl (onx rfl (zb Tryz.underlying28 rfl sz3 (by decide) rfl (onx rfl (zf Tryz.underlying3 rfl rfl (HF.on E).here.2 rfl (onx rfl (gg rfl rfl (za rfl (zh rfl rfl (mvx rfl (onx rfl (zb Tryz.underlying28 rfl sz26 (by decide) rfl (onx rfl (zf Tryz.underlying26 rfl rfl (HF.on E).here.2 rfl (onx rfl (vq Tryz.underlying26 rfl (onx rfl (qc rfl rfl (za rfl (zh rfl rfl (rnx (yx rfl (fun h1 => ?_) (fun h1 => ?_)))))))))))))))))))))))))))))))
 ·
  refine zu 16 (.bool true) rfl (congrArg Value.bool h1) (srx (anx rfl (zm (zg (zl (rs := [.tmp 2]) (vs := [_]) rfl ⟨rfl, trivial⟩ ?_)))));exact ⟨by refine congrArg (fun z => Ending.returned (.bool z)) ?_; first | (simp_all [PV.good, gr0]; done) | (simp_all [PV.good, gr0]; omega), (LW.step E XLW).toBelow⟩
 ·
  refine zu 16 (.bool false) rfl (congrArg Value.bool h1) (zq (zk (zj (srx (za rfl (zb Tryz.underlying28 rfl sz3 (by decide) rfl (za rfl (zf Tryz.underlying3 rfl rfl (HF.on E).here.2 rfl (za rfl (qc rfl rfl (mvx rfl (onx rfl (zb Tryz.underlying28 rfl sz4 (by decide) rfl (onx rfl (zf Tryz.underlying4 rfl rfl (HF.on E).here.2 rfl (za rfl (zt rfl rfl (mvx rfl (yr 24 rfl (fun h2 => ?_) (fun h2 => ?_))))))))))))))))))))
  ·
   refine za rfl (zc rfl (za rfl (zc rfl (za rfl (zc rfl (za rfl (zc rfl (za rfl (yq rfl rfl (za rfl (yq rfl rfl (za rfl (yq rfl rfl (za rfl (zc rfl (za rfl (zt rfl rfl (mvx rfl (za rfl (zc rfl (za rfl (zc rfl (za rfl (zc rfl (za rfl (zc rfl (za rfl (yq rfl rfl (za rfl (yq rfl rfl (za rfl (yq rfl rfl (za rfl (zc rfl (za rfl (zt rfl rfl (rnx (yc rfl (srx (anx rfl (zm (zg (zl (rs := [.tmp 2]) (vs := [_]) rfl ⟨rfl, trivial⟩ ?_)))))))))))))))))))))))))))))))))))))))))))
   exact ⟨by refine congrArg (fun z => Ending.returned (.bool z)) ?_; first | (simp_all [PV.good, gr0]; done) | (simp_all [PV.good, gr0]; omega), (LW.step E XLW).toBelow⟩
  ·
   refine onx rfl (zb Tryz.underlying28 rfl sz3 (by decide) rfl (onx rfl (zf Tryz.underlying3 rfl rfl (HF.on E).here.2 rfl (onx rfl (qc rfl rfl (onx rfl (zy rfl (onx rfl (zb Tryz.underlying28 rfl xa (by decide) rfl (onx rfl (zf Tryz.underlying25 rfl rfl (HF.on E).here.2 rfl (onx rfl (qc rfl rfl (onx rfl (zt rfl rfl (za rfl (zh rfl rfl (mvx rfl (yr 34 rfl (fun h3 => ?_) (fun h3 => ?_))))))))))))))))))))
   ·
    refine za rfl (zc rfl (za rfl (zc rfl (za rfl (zc rfl (za rfl (zc rfl (za rfl (yq rfl rfl (za rfl (yq rfl rfl (za rfl (yq rfl rfl (za rfl (zc rfl (za rfl (zt rfl rfl (rnx (yc rfl (srx (anx rfl (zm (zg (zl (rs := [.tmp 2]) (vs := [_]) rfl ⟨rfl, trivial⟩ ?_))))))))))))))))))))))))
    exact ⟨by refine congrArg (fun z => Ending.returned (.bool z)) ?_; first | (simp_all [PV.good, gr0]; done) | (simp_all [PV.good, gr0]; omega), (LW.step E XLW).toBelow⟩
   ·
    refine onx rfl (zb Tryz.underlying28 rfl sz3 (by decide) rfl (onx rfl (zf Tryz.underlying3 rfl rfl (HF.on E).here.2 rfl (onx rfl (qc rfl rfl (onx rfl (zy rfl (onx rfl (zb Tryz.underlying28 rfl sz9 (by decide) rfl (onx rfl (zf Tryz.underlying9 rfl rfl (HF.on E).here.2 rfl (onx rfl (zkq rfl rfl (onx rfl (zt rfl rfl (za rfl (zh rfl rfl (rnx (yx rfl (fun h4 => ?_) (fun h4 => ?_))))))))))))))))))))
    ·
     refine zu 43 (.bool true) rfl (congrArg Value.bool h4) (srx (anx rfl (zm (zg (zl (rs := [.tmp 2]) (vs := [_]) rfl ⟨rfl, trivial⟩ ?_)))));exact ⟨by refine congrArg (fun z => Ending.returned (.bool z)) ?_; first | (simp_all [PV.good, gr0]; done) | (simp_all [PV.good, gr0]; omega), (LW.step E XLW).toBelow⟩
    ·
     refine zu 43 (.bool false) rfl (congrArg Value.bool h4) (zq (zk (zj (srx (za rfl (zb Tryz.underlying28 rfl sz3 (by decide) rfl (za rfl (zf Tryz.underlying3 rfl rfl (HF.on E).here.2 rfl (za rfl (qc rfl rfl (rnx (zp rfl (zq (zk (srx (za rfl (zb Tryz.underlying28 rfl yy (by decide) rfl (za rfl (zgq Tryz.underlying24 rfl yy rfl (HF.on E).here.2 rfl rfl (za rfl (zd en38 rfl ((rgood_any neg c _ A xs hl (HF.on E).here.1.2).mono ?_))))))))))))))))))))))
     rintro e w3 ⟨rfl, hb⟩;refine ⟨_, rfl, ?_⟩;replace E := blx E hb;refine anx rfl (zm (zl (rs := [.tmp 2]) (vs := [_]) rfl ⟨rfl, trivial⟩ ?_));exact ⟨by refine congrArg (fun z => Ending.returned (.bool z)) ?_; first | (simp_all [PV.good, gr0]; done) | (simp_all [PV.good, gr0]; omega), (LW.step E XLW).toBelow⟩
theorem rg3 : Calls Tryz.prog 15 #[.agg #[.int .i64 3, .bool yes, .bool neg, .slice A xs.length c, .int .u64 ((bits : Nat) : Int), .string s, .slice B ni d]] w fun e w' => e = .returned (.bool (PV.good ⟨3, yes, neg, xs, bits, s, ni⟩)) ∧ Below w.heap.size w w' := by
 have _ := hx;have _ := hl;have hs0 : s.toList = [] → s.size = 0 := kq;refine zr Tryz.func15 rfl Tryz.ntmps15 rfl ?_;have HF : Per (No) w (fun _ => True) := Per.true_;have LW := erx (No) w;have XLW := grx (No) w;have E := erx (No) w;replace HF := HF.on E;replace LW := LW.step E XLW;replace E := erx (No) w;replace HF := HF.and (Per.nums0 hx);refine srx (za rfl (zx rfl ?_))
 intro gb1 w2 Bb1 Eb1 Gb1;have Gb1 : _ ≤ gb1 := Nat.le_trans E.size Gb1;have GLb1 := Nat.le_trans LW.size Gb1;replace E := E.trans Eb1.no;replace HF := HF.cons (zi Gb1);replace E := E.cons (some gb1);replace XLW := Mut.grow XLW (fun k e => Or.inr (Nat.le_trans LW.size ((zi Gb1) k e)));replace HF := HF.on E;replace LW := LW.step E XLW
 have SB : ∀ q9, No q9 → Mut [(some gb1)] q9 := (Mut.skip Mut.nil_);replace HF := HF.less SB;replace XLW := fun k h => XLW k (SB k h);clear SB;replace E := erx (No) w2;replace HF := HF.and (Per.blkN Bb1 NotIn.nil)
 refine anx rfl (zj (srx (za rfl (zb Tryz.underlying28 rfl sz3 (by decide) rfl (za rfl (zf Tryz.underlying3 rfl rfl (HF.on E).here.2 rfl (za rfl (jy rfl rfl (mvx rfl (onx rfl (zb Tryz.underlying28 rfl sz3 (by decide) rfl (onx rfl (zf Tryz.underlying3 rfl rfl (HF.on E).here.2 rfl (onx rfl (gg rfl rfl (za rfl (zh rfl rfl (mvx rfl (onx rfl (zb Tryz.underlying28 rfl sz26 (by decide) rfl (onx rfl (zf Tryz.underlying26 rfl rfl (HF.on E).here.2 rfl (onx rfl (vq Tryz.underlying26 rfl (onx rfl (qc rfl rfl (za rfl (zh rfl rfl (rnx (yx rfl (fun h1 => ?_) (fun h1 => ?_)))))))))))))))))))))))))))))))
 ·
  refine zu 16 (.bool true) rfl (congrArg Value.bool h1) (srx (anx rfl (zm (zg (zl (rs := [.tmp 2]) (vs := [_]) rfl ⟨rfl, trivial⟩ ?_)))));exact ⟨by refine congrArg (fun z => Ending.returned (.bool z)) ?_; first | (simp_all [PV.good, gr0]; done) | (simp_all [PV.good, gr0]; omega), (LW.step E XLW).toBelow⟩
 ·
  refine zu 16 (.bool false) rfl (congrArg Value.bool h1) (zq (zk (zj (srx (za rfl (zb Tryz.underlying28 rfl sz3 (by decide) rfl (za rfl (zf Tryz.underlying3 rfl rfl (HF.on E).here.2 rfl (za rfl (qc rfl rfl (mvx rfl (onx rfl (zb Tryz.underlying28 rfl sz4 (by decide) rfl (onx rfl (zf Tryz.underlying4 rfl rfl (HF.on E).here.2 rfl (za rfl (zt rfl rfl (mvx rfl (yr 24 rfl (fun h2 => ?_) (fun h2 => ?_))))))))))))))))))))
  ·
   refine za rfl (zc rfl (za rfl (zc rfl (za rfl (zc rfl (za rfl (zc rfl (za rfl (yq rfl rfl (za rfl (yq rfl rfl (za rfl (yq rfl rfl (za rfl (zc rfl (za rfl (zt rfl rfl (mvx rfl (za rfl (zc rfl (za rfl (zc rfl (za rfl (zc rfl (za rfl (zc rfl (za rfl (yq rfl rfl (za rfl (yq rfl rfl (za rfl (yq rfl rfl (za rfl (zc rfl (za rfl (zt rfl rfl (rnx (yc rfl (srx (anx rfl (zm (zg (zl (rs := [.tmp 2]) (vs := [_]) rfl ⟨rfl, trivial⟩ ?_)))))))))))))))))))))))))))))))))))))))))))
   exact ⟨by refine congrArg (fun z => Ending.returned (.bool z)) ?_; first | (simp_all [PV.good, gr0]; done) | (simp_all [PV.good, gr0]; omega), (LW.step E XLW).toBelow⟩
  ·
   refine onx rfl (zb Tryz.underlying28 rfl sz3 (by decide) rfl (onx rfl (zf Tryz.underlying3 rfl rfl (HF.on E).here.2 rfl (onx rfl (qc rfl rfl (onx rfl (zy rfl (za rfl (zc rfl (za rfl (zc rfl (za rfl (zc rfl (onx rfl (zh rfl rfl (za rfl (zh rfl rfl (mvx rfl (onx rfl (zb Tryz.underlying28 rfl sz3 (by decide) rfl (onx rfl (zf Tryz.underlying3 rfl rfl (HF.on E).here.2 rfl (onx rfl (qc rfl rfl (onx rfl (zy rfl (onx rfl (zb Tryz.underlying28 rfl sz9 (by decide) rfl (onx rfl (zf Tryz.underlying9 rfl rfl (HF.on E).here.2 rfl (onx rfl (zkq rfl rfl (onx rfl (zt rfl rfl (za rfl (zh rfl rfl (rnx (yx rfl (fun h3 => ?_) (fun h3 => ?_)))))))))))))))))))))))))))))))))))))))
   ·
    refine zu 43 (.bool true) rfl (congrArg Value.bool h3) (srx (anx rfl (zm (zg (zl (rs := [.tmp 2]) (vs := [_]) rfl ⟨rfl, trivial⟩ ?_)))));exact ⟨by refine congrArg (fun z => Ending.returned (.bool z)) ?_; first | (simp_all [PV.good, gr0]; done) | (simp_all [PV.good, gr0]; omega), (LW.step E XLW).toBelow⟩
   ·
    refine zu 43 (.bool false) rfl (congrArg Value.bool h3) (zq (zk (zj (srx (za rfl (zb Tryz.underlying28 rfl sz3 (by decide) rfl (za rfl (zf Tryz.underlying3 rfl rfl (HF.on E).here.2 rfl (za rfl (qc rfl rfl (rnx (yc rfl (srx (za rfl (zb Tryz.underlying28 rfl yy (by decide) rfl (za rfl (zb Tryz.underlying24 rfl sz4 (by decide) rfl (za rfl (zf Tryz.underlying4 rfl rfl (HF.on E).here.2 rfl (za rfl (yf rfl (mvx rfl (yr 51 rfl (fun h4 => ?_) (fun h4 => ?_))))))))))))))))))))))))
    ·
     refine onx rfl (zb Tryz.underlying28 rfl yy (by decide) rfl (onx rfl (zb Tryz.underlying24 rfl zfk (by decide) rfl (onx rfl (zf Tryz.underlying22 rfl rfl (HF.on E).here.2 rfl (onx rfl (vq Tryz.underlying22 rfl (onx rfl (ya rfl rfl (za rfl (zt rfl rfl (mvx rfl (yr 58 rfl (fun h5 => ?_) (fun h5 => ?_))))))))))))))
     ·
      replace h5 := eq_of_beq h5;refine onx rfl (zb Tryz.underlying28 rfl sz9 (by decide) rfl (onx rfl (zf Tryz.underlying9 rfl rfl (HF.on E).here.2 rfl (onx rfl (zcv Tryz.underlying9 rfl (onx rfl (zgk rfl rfl (za rfl (zt rfl rfl (anx rfl (zm (zg (zl (rs := [.tmp 2]) (vs := [_]) rfl ⟨rfl, trivial⟩ ?_)))))))))))))
      exact ⟨by refine congrArg (fun z => Ending.returned (.bool z)) ?_; first | (simp_all [PV.good, gr0]; done) | (simp_all [PV.good, gr0]; omega), (LW.step E XLW).toBelow⟩
     ·
      replace h5 := beq_eq_false_iff_ne.1 h5;refine za rfl (zc rfl (za rfl (zc rfl (za rfl (zc rfl (za rfl (zc rfl (za rfl (zh rfl rfl (anx rfl (zm (zg (zl (rs := [.tmp 2]) (vs := [_]) rfl ⟨rfl, trivial⟩ ?_)))))))))))))
      exact ⟨by refine congrArg (fun z => Ending.returned (.bool z)) ?_; first | (simp_all [PV.good, gr0]; done) | (simp_all [PV.good, gr0]; omega), (LW.step E XLW).toBelow⟩
    ·
     refine za rfl (zc rfl (za rfl (zc rfl (za rfl (zc rfl (za rfl (zc rfl (za rfl (zc rfl (za rfl (zh rfl rfl (mvx rfl (za rfl (zc rfl (za rfl (zc rfl (za rfl (zc rfl (za rfl (zc rfl (za rfl (zh rfl rfl (anx rfl (zm (zg (zl (rs := [.tmp 2]) (vs := [_]) rfl ⟨rfl, trivial⟩ ?_))))))))))))))))))))))))))
     exact ⟨by refine congrArg (fun z => Ending.returned (.bool z)) ?_; first | (simp_all [PV.good, gr0]; done) | (simp_all [PV.good, gr0]; omega), (LW.step E XLW).toBelow⟩
theorem rg4 : Calls Tryz.prog 15 #[.agg #[.int .i64 4, .bool yes, .bool neg, .slice A xs.length c, .int .u64 ((bits : Nat) : Int), .string s, .slice B ni d]] w fun e w' => e = .returned (.bool (PV.good ⟨4, yes, neg, xs, bits, s, ni⟩)) ∧ Below w.heap.size w w' := by
 have _ := hx;have _ := hl;have hs0 : s.toList = [] → s.size = 0 := kq;refine zr Tryz.func15 rfl Tryz.ntmps15 rfl ?_;have HF : Per (No) w (fun _ => True) := Per.true_;have LW := erx (No) w;have XLW := grx (No) w;have E := erx (No) w;replace HF := HF.on E;replace LW := LW.step E XLW;replace E := erx (No) w;replace HF := HF.and (Per.nums0 hx);refine srx (za rfl (zx rfl ?_))
 intro gb1 w2 Bb1 Eb1 Gb1;have Gb1 : _ ≤ gb1 := Nat.le_trans E.size Gb1;have GLb1 := Nat.le_trans LW.size Gb1;replace E := E.trans Eb1.no;replace HF := HF.cons (zi Gb1);replace E := E.cons (some gb1);replace XLW := Mut.grow XLW (fun k e => Or.inr (Nat.le_trans LW.size ((zi Gb1) k e)));replace HF := HF.on E;replace LW := LW.step E XLW
 have SB : ∀ q9, No q9 → Mut [(some gb1)] q9 := (Mut.skip Mut.nil_);replace HF := HF.less SB;replace XLW := fun k h => XLW k (SB k h);clear SB;replace E := erx (No) w2;replace HF := HF.and (Per.blkN Bb1 NotIn.nil)
 refine anx rfl (zj (srx (za rfl (zb Tryz.underlying28 rfl sz3 (by decide) rfl (za rfl (zf Tryz.underlying3 rfl rfl (HF.on E).here.2 rfl (za rfl (jy rfl rfl (mvx rfl (onx rfl (zb Tryz.underlying28 rfl sz3 (by decide) rfl (onx rfl (zf Tryz.underlying3 rfl rfl (HF.on E).here.2 rfl (onx rfl (gg rfl rfl (za rfl (zh rfl rfl (mvx rfl (onx rfl (zb Tryz.underlying28 rfl sz26 (by decide) rfl (onx rfl (zf Tryz.underlying26 rfl rfl (HF.on E).here.2 rfl (onx rfl (vq Tryz.underlying26 rfl (onx rfl (qc rfl rfl (za rfl (zh rfl rfl (rnx (yx rfl (fun h1 => ?_) (fun h1 => ?_)))))))))))))))))))))))))))))))
 ·
  refine zu 16 (.bool true) rfl (congrArg Value.bool h1) (srx (anx rfl (zm (zg (zl (rs := [.tmp 2]) (vs := [_]) rfl ⟨rfl, trivial⟩ ?_)))));exact ⟨by refine congrArg (fun z => Ending.returned (.bool z)) ?_; first | (simp_all [PV.good, gr0]; done) | (simp_all [PV.good, gr0]; omega), (LW.step E XLW).toBelow⟩
 ·
  refine zu 16 (.bool false) rfl (congrArg Value.bool h1) (zq (zk (zj (srx (za rfl (zb Tryz.underlying28 rfl sz3 (by decide) rfl (za rfl (zf Tryz.underlying3 rfl rfl (HF.on E).here.2 rfl (za rfl (qc rfl rfl (mvx rfl (onx rfl (zb Tryz.underlying28 rfl sz4 (by decide) rfl (onx rfl (zf Tryz.underlying4 rfl rfl (HF.on E).here.2 rfl (za rfl (zt rfl rfl (mvx rfl (yr 24 rfl (fun h2 => ?_) (fun h2 => ?_))))))))))))))))))))
  ·
   refine za rfl (zc rfl (za rfl (zc rfl (za rfl (zc rfl (za rfl (zc rfl (za rfl (yq rfl rfl (za rfl (yq rfl rfl (za rfl (yq rfl rfl (za rfl (zc rfl (za rfl (zt rfl rfl (mvx rfl (za rfl (zc rfl (za rfl (zc rfl (za rfl (zc rfl (za rfl (zc rfl (za rfl (yq rfl rfl (za rfl (yq rfl rfl (za rfl (yq rfl rfl (za rfl (zc rfl (za rfl (zt rfl rfl (rnx (yc rfl (srx (anx rfl (zm (zg (zl (rs := [.tmp 2]) (vs := [_]) rfl ⟨rfl, trivial⟩ ?_)))))))))))))))))))))))))))))))))))))))))))
   exact ⟨by refine congrArg (fun z => Ending.returned (.bool z)) ?_; first | (simp_all [PV.good, gr0]; done) | (simp_all [PV.good, gr0]; omega), (LW.step E XLW).toBelow⟩
  ·
   refine onx rfl (zb Tryz.underlying28 rfl sz3 (by decide) rfl (onx rfl (zf Tryz.underlying3 rfl rfl (HF.on E).here.2 rfl (onx rfl (qc rfl rfl (onx rfl (zy rfl (onx rfl (zb Tryz.underlying28 rfl xa (by decide) rfl (onx rfl (zf Tryz.underlying25 rfl rfl (HF.on E).here.2 rfl (onx rfl (qc rfl rfl (onx rfl (zt rfl rfl (za rfl (zh rfl rfl (mvx rfl (yr 34 rfl (fun h3 => ?_) (fun h3 => ?_))))))))))))))))))))
   ·
    refine za rfl (zc rfl (za rfl (zc rfl (za rfl (zc rfl (za rfl (zc rfl (za rfl (yq rfl rfl (za rfl (yq rfl rfl (za rfl (yq rfl rfl (za rfl (zc rfl (za rfl (zt rfl rfl (rnx (yc rfl (srx (anx rfl (zm (zg (zl (rs := [.tmp 2]) (vs := [_]) rfl ⟨rfl, trivial⟩ ?_))))))))))))))))))))))))
    exact ⟨by refine congrArg (fun z => Ending.returned (.bool z)) ?_; first | (simp_all [PV.good, gr0]; done) | (simp_all [PV.good, gr0]; omega), (LW.step E XLW).toBelow⟩
   ·
    refine onx rfl (zb Tryz.underlying28 rfl sz3 (by decide) rfl (onx rfl (zf Tryz.underlying3 rfl rfl (HF.on E).here.2 rfl (onx rfl (qc rfl rfl (onx rfl (zy rfl (za rfl (zc rfl (za rfl (zc rfl (za rfl (zc rfl (onx rfl (zh rfl rfl (za rfl (zh rfl rfl (rnx (zp rfl (zq (zk (zj (srx (za rfl (zb Tryz.underlying28 rfl sz3 (by decide) rfl (za rfl (zf Tryz.underlying3 rfl rfl (HF.on E).here.2 rfl (za rfl (qc rfl rfl (rnx (yc rfl (srx (za rfl (zb Tryz.underlying28 rfl yy (by decide) rfl (za rfl (zb Tryz.underlying24 rfl sz4 (by decide) rfl (za rfl (zf Tryz.underlying4 rfl rfl (HF.on E).here.2 rfl (za rfl (yf rfl (mvx rfl (yr 51 rfl (fun h4 => ?_) (fun h4 => ?_)))))))))))))))))))))))))))))))))))))))))))
    ·
     refine onx rfl (zb Tryz.underlying28 rfl yy (by decide) rfl (onx rfl (zb Tryz.underlying24 rfl zfk (by decide) rfl (onx rfl (zf Tryz.underlying22 rfl rfl (HF.on E).here.2 rfl (onx rfl (vq Tryz.underlying22 rfl (onx rfl (ya rfl rfl (za rfl (zt rfl rfl (mvx rfl (yr 58 rfl (fun h5 => ?_) (fun h5 => ?_))))))))))))))
     ·
      replace h5 := eq_of_beq h5;refine onx rfl (zb Tryz.underlying28 rfl sz9 (by decide) rfl (onx rfl (zf Tryz.underlying9 rfl rfl (HF.on E).here.2 rfl (onx rfl (zcv Tryz.underlying9 rfl (onx rfl (zgk rfl rfl (za rfl (zt rfl rfl (anx rfl (zm (zg (zl (rs := [.tmp 2]) (vs := [_]) rfl ⟨rfl, trivial⟩ ?_)))))))))))))
      exact ⟨by refine congrArg (fun z => Ending.returned (.bool z)) ?_; first | (simp_all [PV.good, gr0]; done) | (simp_all [PV.good, gr0]; omega), (LW.step E XLW).toBelow⟩
     ·
      replace h5 := beq_eq_false_iff_ne.1 h5;refine za rfl (zc rfl (za rfl (zc rfl (za rfl (zc rfl (za rfl (zc rfl (za rfl (zh rfl rfl (anx rfl (zm (zg (zl (rs := [.tmp 2]) (vs := [_]) rfl ⟨rfl, trivial⟩ ?_)))))))))))))
      exact ⟨by refine congrArg (fun z => Ending.returned (.bool z)) ?_; first | (simp_all [PV.good, gr0]; done) | (simp_all [PV.good, gr0]; omega), (LW.step E XLW).toBelow⟩
    ·
     refine za rfl (zc rfl (za rfl (zc rfl (za rfl (zc rfl (za rfl (zc rfl (za rfl (zc rfl (za rfl (zh rfl rfl (mvx rfl (za rfl (zc rfl (za rfl (zc rfl (za rfl (zc rfl (za rfl (zc rfl (za rfl (zh rfl rfl (anx rfl (zm (zg (zl (rs := [.tmp 2]) (vs := [_]) rfl ⟨rfl, trivial⟩ ?_))))))))))))))))))))))))))
     exact ⟨by refine congrArg (fun z => Ending.returned (.bool z)) ?_; first | (simp_all [PV.good, gr0]; done) | (simp_all [PV.good, gr0]; omega), (LW.step E XLW).toBelow⟩
theorem rgx (hk : k < 0 ∨ 4 < k) : Calls Tryz.prog 15 #[.agg #[.int .i64 k, .bool yes, .bool neg, .slice A xs.length c, .int .u64 ((bits : Nat) : Int), .string s, .slice B ni d]] w fun e w' => e = .returned (.bool (PV.good ⟨k, yes, neg, xs, bits, s, ni⟩)) ∧ Below w.heap.size w w' := by
 have _ := hx;have _ := hl;have e : PV.good ⟨k, yes, neg, xs, bits, s, ni⟩ = false := by unfold PV.good; simp only []; rw [if_neg (by omega), if_neg (by omega), if_neg (by omega), if_neg (by omega), if_neg (by omega), Bool.and_false]
 rw [e];refine zr Tryz.func15 rfl Tryz.ntmps15 rfl ?_;have HF : Per (No) w (fun _ => True) := Per.true_;have LW := erx (No) w;have XLW := grx (No) w;have E := erx (No) w;refine srx (za rfl (zx rfl ?_));intro gb1 w2 Bb1 Eb1 Gb1;have Gb1 : _ ≤ gb1 := Nat.le_trans E.size Gb1;have GLb1 := Nat.le_trans LW.size Gb1;replace E := E.trans Eb1.no;replace HF := HF.cons (zi Gb1)
 replace E := E.cons (some gb1);replace XLW := Mut.grow XLW (fun k e => Or.inr (Nat.le_trans LW.size ((zi Gb1) k e)));replace HF := HF.on E;replace LW := LW.step E XLW;have SB : ∀ q9, No q9 → Mut [(some gb1)] q9 := (Mut.skip Mut.nil_);replace HF := HF.less SB;replace XLW := fun k h => XLW k (SB k h);clear SB;replace E := erx (No) w2;replace HF := HF.and (Per.blkN Bb1 NotIn.nil)
 refine anx rfl (zj (srx (za rfl (zb Tryz.underlying28 rfl sz3 (by decide) rfl (za rfl (zf Tryz.underlying3 rfl rfl (HF.on E).here.2 rfl (za rfl (jy rfl rfl (mvx rfl ?_)))))))));by_cases q0 : k < 0
 ·
  refine zz 6 (.bool true) rfl ((by rw [decide_eq_true q0] : (.bool (decide (k < 0)) : Value) = _)) (za rfl (zc rfl (za rfl (zc rfl (za rfl (zc rfl (za rfl (zt rfl rfl (mvx rfl (za rfl (zc rfl (za rfl (zc rfl (za rfl (zc rfl (za rfl (zc rfl (za rfl (zt rfl rfl (rnx (yc rfl (srx (anx rfl (zm (zg (zl (rs := [.tmp 2]) (vs := [_]) rfl ⟨rfl, trivial⟩ ?_))))))))))))))))))))))))))
  exact ⟨rfl, (LW.step E XLW).toBelow⟩
 ·
  refine zz 6 (.bool false) rfl ((by rw [decide_eq_false q0] : (.bool (decide (k < 0)) : Value) = _)) (onx rfl (zb Tryz.underlying28 rfl sz3 (by decide) rfl (onx rfl (zf Tryz.underlying3 rfl rfl (HF.on E).here.2 rfl (onx rfl (gg rfl rfl (za rfl (zh rfl rfl (mvx rfl (zz 11 (.bool true) rfl ((by rw [decide_eq_true (by omega)] : (.bool (decide (4 < k)) : Value) = _)) (za rfl (zc rfl (za rfl (zc rfl (za rfl (zc rfl (za rfl (zc rfl (za rfl (zt rfl rfl (rnx (yc rfl (srx (anx rfl (zm (zg (zl (rs := [.tmp 2]) (vs := [_]) rfl ⟨rfl, trivial⟩ ?_)))))))))))))))))))))))))))
  exact ⟨rfl, (LW.step E XLW).toBelow⟩
theorem rpgood_any : Calls Tryz.prog 15 #[.agg #[.int .i64 k, .bool yes, .bool neg, .slice A xs.length c, .int .u64 ((bits : Nat) : Int), .string s, .slice B ni d]] w fun e w' => e = .returned (.bool (PV.good ⟨k, yes, neg, xs, bits, s, ni⟩)) ∧ Below w.heap.size w w' := by
 by_cases hk : k < 0 ∨ 4 < k
 · exact rgx w k yes neg A B xs c bits ni d s hx hl hk
 · obtain rfl | rfl | rfl | rfl | rfl : k = 0 ∨ k = 1 ∨ k = 2 ∨ k = 3 ∨ k = 4 := by omega
   · exact rg0 w yes neg A B xs c bits ni d s hx hl
   · exact rg1 w yes neg A B xs c bits ni d s hx hl
   · exact rg2 w yes neg A B xs c bits ni d s hx hl
   · exact rg3 w yes neg A B xs c bits ni d s hx hl
   · exact rg4 w yes neg A B xs c bits ni d s hx hl
end
end Go.Proofs.YtaleikoeklemmaaGreatDoor
namespace Go.Proofs.YtaleikoeklemmaaGreatDoor
open Go.RowKit
set_option maxRecDepth 100000
attribute [local irreducible] OW RS
theorem neg_twice {b : Nat} (hb : b < 18446744073709551616) : qa (yj (qa (yj b))) = qa b := by
 have e1 : isN (yj b) = isN b := xu hb;have hb2 := (zrq hb).2.2;by_cases h : isN b = true
 · have e2 : isN (yj 9221120237041090560) = true := by rw [xu (by decide)]; decide
   unfold qa;rw [if_pos (e1.trans h), if_pos e2, if_pos h]
 · have h2 : ¬ isN (yj b) = true := by rw [e1]; exact h
   have h3 : ¬ isN (yj (yj b)) = true := by rw [xu hb2]; exact h2
   unfold qa;rw [if_neg h2, if_neg h3, if_neg h];unfold yj;rw [Nat.xor_assoc, Nat.xor_self, Nat.xor_zero]
theorem rfloat_any (w : World) (b : Nat) (hb : b < 18446744073709551616) : Calls Tryz.prog 24 #[.int .u64 ((b : Nat) : Int)] w fun e w' => e = .returned (.agg #[.int .i64 3, .bool false, .bool false, .slice none 0 0, .int .u64 ((qa b : Nat) : Int), .string ⟨#[]⟩, .slice none 0 0]) ∧ Below w.heap.size w w' := by
 refine zr Tryz.func24 rfl Tryz.ntmps24 rfl (srx (za rfl (qd zr28 ?_)));rintro g2 wB B2 E2 G2;refine rnx (zj (srx (mvx rfl (za rfl (zd en16 rfl ((zxz _ b hb).mono ?_))))));rintro e w1 ⟨rfl, hb⟩;refine ⟨_, rfl, ?_⟩;have E3 := E2.trans (Ext.of_below hb No);have B3 := B2.ext (Ext.of_below hb No) (fun h => h.elim);by_cases hn : isN b = true
 ·
  refine zz 4 (.bool true) rfl ((by rw [hn] : (.bool (isN b) : Value) = _)) (rnx (yc rfl (yo (anx rfl (srx (mvx rfl (za rfl (kt (cs := #[.int .i64 3, .bool false, .bool false, .slice none 0 0, .int .u64 9221120237041090560, .string ⟨#[]⟩, .slice none 0 0]) pl28 zr28 rfl rfl (qo (vv yk rfl rfl B3 rfl rfl rfl ?_))))))))));rintro wC B2e E4
  refine rnx (zm (zl (rs := [.cell 2 28]) (vs := [_]) rfl ⟨⟨_, rfl, jc Tryz.underlying28 rfl yk B2e rfl⟩, trivial⟩ ?_));exact ⟨by unfold qa; rw [if_pos hn]; rfl, ((E3.noL w.heap.size).step E4 (fun q hq => Or.inl (show w.heap.size ≤ q by have := zaz hq; omega))).below (fun _ h => h)⟩
 ·
  have hn' : isN b = false := by cases h9 : isN b <;> simp_all
  refine zz 4 (.bool false) rfl ((by rw [hn'] : (.bool (isN b) : Value) = _)) (rnx (zp rfl (zq (zk (srx (mvx rfl (za rfl (kt (cs := #[.int .i64 3, .bool false, .bool false, .slice none 0 0, .int .u64 ((b : Nat) : Int), .string ⟨#[]⟩, .slice none 0 0]) pl28 zr28 rfl rfl (qo (vv yk rfl rfl B3 rfl rfl rfl ?_))))))))));rintro wC B2e E4
  refine rnx (zm (zl (rs := [.cell 2 28]) (vs := [_]) rfl ⟨⟨_, rfl, jc Tryz.underlying28 rfl yk B2e rfl⟩, trivial⟩ ?_));exact ⟨by unfold qa; rw [if_neg hn]; rfl, ((E3.noL w.heap.size).step E4 (fun q hq => Or.inl (show w.heap.size ≤ q by have := zaz hq; omega))).below (fun _ h => h)⟩
end Go.Proofs.YtaleikoeklemmaaGreatDoor
namespace Go.Proofs.YtaleikoeklemmaaGreatDoor
open Go.RowKit
set_option maxRecDepth 100000
theorem below_same {w w' : World} (h : w = w') : Below w.heap.size w w' := by subst h; exact Below.refl _ _
theorem mul64_b (x y : Nat) (hx : x < 18446744073709551616) (hy : y < 18446744073709551616) (w : World) :
 Calls Tryz.prog 62 #[.int .u64 x, .int .u64 y] w fun e w' => e = .returned (.tuple #[.int .u64 ((x * y / 18446744073709551616 : Nat) : Int), .int .u64 ((x * y % 18446744073709551616 : Nat) : Int)]) ∧ Below w.heap.size w w' :=
 (mul64_any x y hx hy w).mono fun _ _ ⟨h1, h2⟩ => ⟨h1, below_same h2⟩
theorem tmod31 (x : Int) : (x.tmod 31 + 31).tmod 31 = x % 31 ∧ -31 < x.tmod 31 ∧ x.tmod 31 < 31 := by
 rcases Int.lt_or_le x 0 with h | h
 · obtain ⟨y, rfl⟩ : ∃ y : Int, x = -y := ⟨-x, by omega⟩;have e : (-y).tmod 31 = -(y % 31) := by rw [Int.neg_tmod, Int.tmod_eq_emod_of_nonneg (by omega)]
   rw [e, Int.tmod_eq_emod_of_nonneg (by omega)];omega
 · rw [Int.tmod_eq_emod_of_nonneg h, Int.tmod_eq_emod_of_nonneg (by omega)];omega
def kb (a : Nat) : Int := if isN a then 0 else (if ng a then -1 else 1) * (if rg a = 9218868437227405312 then 314159 else ((zix (rg a) : Nat) : Int))
theorem hashM_zero : zix 0 = 0 := by decide
theorem hashM_lt (r : Nat) : zix r < 2147483647 := Nat.mod_lt _ (by decide)
theorem hash_prog {r : Nat} (hr : r < 9223372036854775808) (h0 : r ≠ 0) : mg (nr r) % 2147483647 * 2 ^ ((frE r - 53) % 31).toNat % 2147483647 = zix r := by
 obtain ⟨h1, _⟩ := zjv hr;have := hash_norm (a := r) (by rw [h1]; exact h0);rw [h1] at this;rw [← this, fm, h1, Nat.mul_mod, Nat.mod_mod, ← Nat.mul_mod]
theorem rh62_1 : Gives 62 #[.int .u64 0, .int .u64 512] (.tuple #[.int .u64 0, .int .u64 0]) := by
 intro w;refine zr Tryz.func62 rfl Tryz.ntmps62 rfl ?_;have LW := erx (No) w;have XLW := grx (No) w;have E := erx (No) w
 refine srx (avx rfl (anx rfl (srx (mvx rfl (za rfl (xc (z := 0) rfl rfl (by kernel_rfl) (anx rfl (srx (mvx rfl (za rfl (gm (z := 0) rfl rfl (by decide) (by kernel_rfl) (anx rfl (srx (mvx rfl (za rfl (xc (z := 512) rfl rfl (by kernel_rfl) (anx rfl (srx (mvx rfl (za rfl (gm (z := 0) rfl rfl (by decide) (by kernel_rfl) (anx rfl (srx (mvx rfl (mvx rfl (za rfl (jd (z := 0) rfl rfl (by kernel_rfl) (avx rfl ?_))))))))))))))))))))))))))))
 refine rnx (srx (mvx rfl (mvx rfl (za rfl (jd (z := 0) rfl rfl (by kernel_rfl) (mvx rfl (za rfl (gm (z := 0) rfl rfl (by decide) (by kernel_rfl) (za rfl (qp (z := 0) rfl rfl (by kernel_rfl) (anx rfl (srx (mvx rfl (za rfl (xc (z := 0) rfl rfl (by kernel_rfl) (anx rfl (srx (mvx rfl (za rfl (gm (z := 0) rfl rfl (by decide) (by kernel_rfl) (anx rfl (srx (mvx rfl (mvx rfl (mvx rfl (za rfl (jd (z := 0) rfl rfl (by kernel_rfl) (za rfl (qp (z := 0) rfl rfl (by kernel_rfl) (anx rfl (srx (mvx rfl ?_))))))))))))))))))))))))))))))))
 refine mvx rfl (za rfl (jd (z := 0) rfl rfl (by kernel_rfl) (mvx rfl (za rfl (qp (z := 0) rfl rfl (by kernel_rfl) (mvx rfl (za rfl (gm (z := 0) rfl rfl (by decide) (by kernel_rfl) (za rfl (qp (z := 0) rfl rfl (by kernel_rfl) (anx rfl (srx (mvx rfl (mvx rfl (za rfl (jd (z := 0) rfl rfl (by kernel_rfl) (anx rfl (zm (zl (rs := [.tmp 4, .tmp 5]) (vs := [.int .u64 0, .int .u64 0]) rfl ⟨rfl, rfl, trivial⟩ ?_)))))))))))))))))))
 exact ⟨rfl, (LW.step E XLW).toBelow⟩
theorem rh93_3 : Gives 93 #[.int .u64 0, .int .u64 0, .int .u64 2147483647] (.tuple #[.int .u64 0, .int .u64 0]) := by
 intro w;refine zr Tryz.func93 rfl Tryz.ntmps93 rfl ?_;have LW := erx (No) w;have XLW := grx (No) w;have E := erx (No) w
 refine srx (avx rfl (anx rfl (zj (srx (mvx rfl (za rfl (ya rfl rfl (rnx (zp rfl (zq (zk (zj (srx (mvx rfl (mvx rfl (za rfl (zgk rfl rfl (rnx (zp rfl (zq (zk (zj (srx (mvx rfl (za rfl (ya rfl rfl (rnx (yc rfl (zj ?_)))))))))))))))))))))))))))))
 have OY : ∀ q9, (Mut (outM [])) q9 → q9 < (World.drew w).heap.size → (No) q9 := fun k h _ => (Mut.none_) k h;refine jb (No) Mut.none_ [] [] (zmq [Fx.of (.int .u64 0),
  Fx.of (.int .u64 2147483647),
  Fx.of (.int .u64 0),
  Fx.of (.int .u64 0),
  Fx.of (.int .u64 2147483647),
  Fx.of (.int .u64 0),
  Fx.of (.int .u64 0),
  Fx.of (.int .u64 0)]) mixed rfl trivial (fun _ h => by cases h) ?_ ?_
 · refine ⟨?_, ?_, ?_, ?_, ?_, ?_, ?_, ?_, trivial⟩
   · intro vs X wq K;exact zy rfl ⟨Below.refl _ _, Left.of rfl⟩
   · intro vs X wq K;exact zy rfl ⟨Below.refl _ _, Left.of rfl⟩
   · intro vs X wq K;obtain ⟨_, e0, k0⟩ := K.dep 0 rfl rfl rfl;refine ze 28 (.int .u64 0) rfl e0 ?_;obtain ⟨_, e1, k1⟩ := K.dep 1 rfl rfl rfl;refine ze 29 (.int .u64 2147483647) rfl e1 ?_;exact ow_quo (z := 0) rfl rfl (by decide) (by kernel_rfl) ⟨Below.refl _ _, Left.of rfl⟩
   · intro vs X wq K;exact zy rfl ⟨Below.refl _ _, Left.of rfl⟩
   · intro vs X wq K;exact zy rfl ⟨Below.refl _ _, Left.of rfl⟩
   · intro vs X wq K;obtain ⟨_, e3, k3⟩ := K.dep 3 rfl rfl rfl;refine ze 31 (.int .u64 0) rfl e3 ?_;obtain ⟨_, e4, k4⟩ := K.dep 4 rfl rfl rfl;refine ze 32 (.int .u64 2147483647) rfl e4 ?_;exact kh (z := 0) rfl rfl (by decide) (by kernel_rfl) ⟨Below.refl _ _, Left.of rfl⟩
   · intro vs X wq K;obtain ⟨_, e2, k2⟩ := K.dep 2 rfl rfl rfl;refine ze 30 (.int .u64 0) rfl e2 ?_;exact qr rfl ⟨Below.refl _ _, Left.of rfl⟩
   · intro vs X wq K;obtain ⟨_, e5, k5⟩ := K.dep 5 rfl rfl rfl;refine ze 33 (.int .u64 0) rfl e5 ?_;exact qr rfl ⟨Below.refl _ _, Left.of rfl⟩
 intro vs w1 LE AO AL AF AA;replace E := E.drew.trans (LE.mono OY);obtain ⟨_, e6, k6⟩ := AL.2.2.2.2.2.2.1;obtain ⟨_, e7, k7⟩ := AL.2.2.2.2.2.2.2.1;refine gu (τ := [(0, _), (1, _), (2, _), (6, .int .u64 0), (7, .int .u64 0)]) ⟨rfl, rfl, rfl, congrArg some e6, congrArg some e7, trivial⟩ ?_;clear AL AF AA LE AO OY e6 e7 k6 k7
 refine zk (zm (zg (zl (rs := [.tmp 6, .tmp 7]) (vs := [.int .u64 0, .int .u64 0]) rfl ⟨rfl, rfl, trivial⟩ ?_)));exact ⟨rfl, (LW.step E XLW).toBelow⟩
theorem rh63_3 : Gives 63 #[.int .u64 0, .int .u64 0, .int .u64 2147483647] (.int .u64 0) := by
 intro w;refine zr Tryz.func63 rfl Tryz.ntmps63 rfl ?_;have LW := erx (No) w;have XLW := grx (No) w;have E := erx (No) w;refine srx (anx rfl (srx (mvx rfl (mvx rfl (za rfl (kh (z := 0) rfl rfl (by decide) (by kernel_rfl) (mvx rfl (mvx rfl (za rfl (zd en93 rfl ((rh93_3 _).mono ?_)))))))))));rintro e w1 ⟨rfl, hb⟩;refine ⟨_, rfl, ?_⟩;replace E := blx E hb
 refine mvx rfl (za rfl (zn rfl rfl (za rfl (zn rfl rfl (avx rfl (anx rfl (srx (mvx rfl (anx rfl (zm (zl (rs := [.tmp 6]) (vs := [.int .u64 0]) rfl ⟨rfl, trivial⟩ ?_)))))))))));exact ⟨rfl, (LW.step E XLW).toBelow⟩
theorem hash_zero (w : World) (a : Nat) (ha : a < 18446744073709551616) (hf : rg a < 9218868437227405312) (h0 : rg a = 0) : Calls Tryz.prog 35 #[.int .u64 ((a : Nat) : Int)] w fun e w' => e = .returned (.int .i64 (kb a)) ∧ Below w.heap.size w w' := by
 have hp : pc a = 0 := by unfold pc; split <;> omega
 have hlt : (vf a 0 == some .lt) = false := by rw [zav (ja hf) (by decide), hp]; decide
 have hF : kb a = 0 := by
  have e : (if rg a = 9218868437227405312 then 314159 else ((zix (rg a) : Nat) : Int)) = 0 := by rw [if_neg (by omega), h0, hashM_zero]; rfl
  rw [kb, if_neg (by rw [ja hf]; decide), e, Int.mul_zero]
 have hr : rg a < 18446744073709551616 := by omega
 refine zr Tryz.func35 rfl Tryz.ntmps35 rfl ?_;have LW := erx (No) w;have XLW := grx (No) w;have E := erx (No) w
 refine srx (anx rfl (srx (mvx rfl (za rfl (qf (b := a) zev rfl (anx rfl (srx (anx rfl (zj (srx (mvx rfl (za rfl (zkk rfl rfl (rnx (zu 13 (.bool false) rfl ((by rw [hlt] : (.bool (vf a 0 == some .lt) : Value) = _)) (zp rfl (zq (zk (zj (yi (srx (mvx rfl (mvx rfl (za rfl (jz rfl rfl (anx rfl (zu 14 (.bool false) rfl ((by rw [vh, ja hf] : (.bool (vf a a != some .eq) : Value) = _)) (zp rfl ?_))))))))))))))))))))))))))))
 refine srx (mvx rfl (za rfl (zd en58 rfl ((vn _ a ha).mono ?_))));rintro e w1 ⟨rfl, hb⟩;refine ⟨_, rfl, ?_⟩;replace E := blx E hb
 refine zz 20 (.bool false) rfl ((by rw [decide_eq_false (by omega)] : (.bool (decide (rg a = 9218868437227405312)) : Value) = _)) (anx rfl (zp rfl (zq (zw (zk (srx (mvx rfl (za rfl (zd en60 rfl ((zuk _ a ha).mono ?_))))))))));rintro e w2 ⟨rfl, hb⟩;refine ⟨_, rfl, ?_⟩;replace E := blx E hb
 refine za rfl (zd en59 rfl ((Frexp_zero _ (rg a) hr (by rw [rg_rg]; exact h0)).mono ?_));rintro e w3 ⟨rfl, hb⟩;refine ⟨_, rfl, ?_⟩;replace E := blx E hb;refine mvx rfl (za rfl (zn rfl rfl (za rfl (zn rfl rfl (avx rfl (anx rfl (srx (mvx rfl (za rfl (zd en61 rfl ((Ldexp_zero _ (rg a) hr (by rw [rg_rg]; exact h0) 53).mono ?_)))))))))));rintro e w4 ⟨rfl, hb⟩
 refine ⟨_, rfl, ?_⟩;replace E := blx E hb
 refine za rfl (zxx (z := 0) Tryz.underlying25 (by rw [Tryz.underlying76]; rfl) rfl (by rw [h0]; decide +kernel) (anx rfl (srx (mvx rfl (za rfl (gf (z := (-53)) rfl rfl (by kernel_rfl) (za rfl (kh (z := (-22)) rfl rfl (by decide) (by kernel_rfl) (za rfl (qp (z := 9) rfl rfl (by kernel_rfl) (za rfl (kh (z := 9) rfl rfl (by decide) (by kernel_rfl) (anx rfl (srx (mvx rfl (za rfl (kh (z := 0) rfl rfl (by decide) (by kernel_rfl) (mvx rfl (za rfl (zck (z := 512) rfl rfl (by decide) (by kernel_rfl) (za rfl (zd en62 rfl ((rh62_1 _).mono ?_)))))))))))))))))))))))
 rintro e w5 ⟨rfl, hb⟩;refine ⟨_, rfl, ?_⟩;replace E := blx E hb;refine mvx rfl (za rfl (zn rfl rfl (za rfl (zn rfl rfl (avx rfl (anx rfl (srx (mvx rfl (mvx rfl (mvx rfl (za rfl (zd en63 rfl ((rh63_3 _).mono ?_)))))))))))));rintro e w6 ⟨rfl, hb⟩;refine ⟨_, rfl, ?_⟩;replace E := blx E hb
 refine za rfl (jn (z := 0) Tryz.underlying3 Tryz.underlying25 rfl (by kernel_rfl) (za rfl (jd (z := 0) rfl rfl (by kernel_rfl) (anx rfl (zm (zl (rs := [.tmp 2]) (vs := [_]) rfl ⟨rfl, trivial⟩ ?_))))));exact ⟨by rw [hF]; rfl, (LW.step E XLW).toBelow⟩
section
variable (w : World) (a : Nat) (ha : a < 18446744073709551616)
include ha
theorem hash_nan (hn : isN a = true) : Calls Tryz.prog 35 #[.int .u64 ((a : Nat) : Int)] w fun e w' => e = .returned (.int .i64 (kb a)) ∧ Below w.heap.size w w' := by
 have _ := ha;refine zr Tryz.func35 rfl Tryz.ntmps35 rfl ?_;have LW := erx (No) w;have XLW := grx (No) w;have E := erx (No) w
 refine srx (anx rfl (srx (mvx rfl (za rfl (qf (b := a) zev rfl (anx rfl (srx (anx rfl (zj (srx (mvx rfl (za rfl (zkk rfl rfl (rnx (zu 13 (.bool false) rfl ((by rw [ford_nan_no hn] : (.bool (vf a 0 == some .lt) : Value) = _)) (zp rfl (zq (zk (zj (yi (srx (mvx rfl (mvx rfl (za rfl (jz rfl rfl (anx rfl (zu 14 (.bool true) rfl ((by rw [vh, hn] : (.bool (vf a a != some .eq) : Value) = _)) (yc rfl ?_))))))))))))))))))))))))))))
 refine srx (anx rfl (zm (zv (zg (zl (rs := [.tmp 2]) (vs := [_]) rfl ⟨rfl, trivial⟩ ?_)))));exact ⟨by rw [kb, if_pos hn]; rfl, (LW.step E XLW).toBelow⟩
theorem hash_inf (hi : rg a = 9218868437227405312) : Calls Tryz.prog 35 #[.int .u64 ((a : Nat) : Int)] w fun e w' => e = .returned (.int .i64 (kb a)) ∧ Below w.heap.size w w' := by
 have hn : isN a = false := decide_eq_false (by omega);refine zr Tryz.func35 rfl Tryz.ntmps35 rfl ?_;have LW := erx (No) w;have XLW := grx (No) w;have E := erx (No) w
 refine srx (anx rfl (srx (mvx rfl (za rfl (qf (b := a) zev rfl (anx rfl (srx (anx rfl (zj (srx (mvx rfl (za rfl (zkk rfl rfl (rnx (zu 13 (.bool (ng a)) rfl ((by rw [ford_neg hn (by omega)] : (.bool (vf a 0 == some .lt) : Value) = _)) (yx rfl (fun h => ?_) (fun h => ?_)))))))))))))))))
 ·
  refine yo (anx rfl (zj (yi (srx (mvx rfl (mvx rfl (za rfl (jz rfl rfl (anx rfl (zu 14 (.bool false) rfl ((by rw [vh, hn] : (.bool (vf a a != some .eq) : Value) = _)) (zp rfl (srx (mvx rfl (za rfl (zd en58 rfl ((vn _ a ha).mono ?_))))))))))))))));rintro e w1 ⟨rfl, hb⟩;refine ⟨_, rfl, ?_⟩;replace E := blx E hb
  refine zz 20 (.bool true) rfl ((by rw [decide_eq_true hi] : (.bool (decide (rg a = 9218868437227405312)) : Value) = _)) (anx rfl (yc rfl (srx (mvx rfl (za rfl (jd (z := (-314159)) rfl rfl (by kernel_rfl) (anx rfl (zm (zv (zg (zl (rs := [.tmp 2]) (vs := [_]) rfl ⟨rfl, trivial⟩ ?_)))))))))))
  exact ⟨by rw [kb, if_neg (by rw [hn]; decide), h, if_pos hi]; rfl, (LW.step E XLW).toBelow⟩
 ·
  refine zq (zk (zj (yi (srx (mvx rfl (mvx rfl (za rfl (jz rfl rfl (anx rfl (zu 14 (.bool false) rfl ((by rw [vh, hn] : (.bool (vf a a != some .eq) : Value) = _)) (zp rfl (srx (mvx rfl (za rfl (zd en58 rfl ((vn _ a ha).mono ?_))))))))))))))));rintro e w2 ⟨rfl, hb⟩;refine ⟨_, rfl, ?_⟩;replace E := blx E hb
  refine zz 20 (.bool true) rfl ((by rw [decide_eq_true hi] : (.bool (decide (rg a = 9218868437227405312)) : Value) = _)) (anx rfl (yc rfl (srx (mvx rfl (za rfl (jd (z := 314159) rfl rfl (by kernel_rfl) (anx rfl (zm (zv (zg (zl (rs := [.tmp 2]) (vs := [_]) rfl ⟨rfl, trivial⟩ ?_)))))))))))
  exact ⟨by rw [kb, if_neg (by rw [hn]; decide), h, if_pos hi]; rfl, (LW.step E XLW).toBelow⟩
section
variable (hf : rg a < 9218868437227405312)
include hf
section
variable (h0 : rg a ≠ 0)
include h0
theorem hash_num : Calls Tryz.prog 35 #[.int .u64 ((a : Nat) : Int)] w fun e w' => e = .returned (.int .i64 (kb a)) ∧ Below w.heap.size w w' := by
 have hr : rg a < 18446744073709551616 := by omega
 obtain ⟨f1, f2, f3⟩ := frF_parts hf h0;have f0 := (zjv (r := frF (rg a)) (by omega)).1;have f00 := (zjv (r := frF (rg a)) (by omega)).2;obtain ⟨fq1, fq2⟩ := fullQ (r := rg a) h0;have fq3 : vl (1074 * 4503599627370496 + mg (nr (rg a))) = vl (frF (rg a)) * 2 ^ 53 := by rewrite [fq1, f3]; exact zwq (p := 1074) (q := 1021) (s := 53) (by decide) _
 have hmg := (mg_nr h0).2;have fw := je (ng (frF (rg a))) (1074 * 4503599627370496 + mg (nr (rg a))) (by omega);have fz : floatToIntVal .f64 (Ieee.double.word (ng (frF (rg a))) (1074 * 4503599627370496 + mg (nr (rg a)))) .u64 = some ((mg (nr (rg a)) : Nat) : Int) := by
  have h1 := zfz (ng (frF (rg a))) fq2 fq1;have h2 := f2i_u64 (a := Ieee.double.word (ng (frF (rg a))) (1074 * 4503599627370496 + mg (nr (rg a)))) (by rw [fw.1]; exact fq2) (by rw [fw.2.1]; exact f00) (by rw [h1]; omega);rw [h1] at h2;exact h2
 obtain ⟨b1, b2⟩ := frE_bound hf;obtain ⟨t1, t2, t3⟩ := tmod31 (frE (rg a) - 53);obtain ⟨k, hk⟩ : ∃ k : Nat, (frE (rg a) - 53) % 31 = (k : Int) := ⟨((frE (rg a) - 53) % 31).toNat, by omega⟩;have hk31 : k < 31 := by omega
 have hpr := hash_prog (r := rg a) (rg_lt a) h0;have hkt : ((frE (rg a) - 53) % 31).toNat = k := by omega
 rw [hkt] at hpr;have hp2 : 2 ^ k ≤ 1073741824 := (Nat.pow_le_pow_right (by decide) (show k ≤ 30 by omega) : 2 ^ k ≤ 2 ^ 30);have hprod : mg (nr (rg a)) % 2147483647 * 2 ^ k ≤ 2147483647 * 1073741824 := Nat.mul_le_mul (Nat.le_of_lt (Nat.mod_lt _ (by decide))) hp2;have hml := hashM_lt (rg a);have hni : ¬ rg a = 9218868437227405312 := by omega
 refine zr Tryz.func35 rfl Tryz.ntmps35 rfl ?_;have LW := erx (No) w;have XLW := grx (No) w;have E := erx (No) w
 refine srx (anx rfl (srx (mvx rfl (za rfl (qf (b := a) zev rfl (anx rfl (srx (anx rfl (zj (srx (mvx rfl (za rfl (zkk rfl rfl (rnx (zu 13 (.bool (ng a)) rfl ((by rw [ford_neg (ja hf) h0] : (.bool (vf a 0 == some .lt) : Value) = _)) (yx rfl (fun h => ?_) (fun h => ?_)))))))))))))))))
 ·
  refine yo (anx rfl (zj (yi (srx (mvx rfl (mvx rfl (za rfl (jz rfl rfl (anx rfl (zu 14 (.bool false) rfl ((by rw [vh, ja hf] : (.bool (vf a a != some .eq) : Value) = _)) (zp rfl (srx (mvx rfl (za rfl (zd en58 rfl ((vn _ a ha).mono ?_))))))))))))))));rintro e w1 ⟨rfl, hb⟩;refine ⟨_, rfl, ?_⟩;replace E := blx E hb
  refine zz 20 (.bool false) rfl ((by rw [decide_eq_false (by omega)] : (.bool (decide (rg a = 9218868437227405312)) : Value) = _)) (anx rfl (zp rfl (zq (zw (zk (srx (mvx rfl (za rfl (zd en60 rfl ((zuk _ a ha).mono ?_))))))))));rintro e w2 ⟨rfl, hb⟩;refine ⟨_, rfl, ?_⟩;replace E := blx E hb
  refine za rfl (zd en59 rfl ((zzx _ (rg a) hr (by rw [rg_rg]; exact h0) (by rw [rg_rg]; exact hf)).mono ?_));rintro e w3 ⟨rfl, hb⟩;refine ⟨_, rfl, ?_⟩;replace E := blx E hb
  refine mvx rfl (za rfl (zn rfl rfl (za rfl (zn rfl rfl (avx rfl (anx rfl (srx (mvx rfl (za rfl (zd en61 rfl ((zyv _ (frF (rg a)) (by omega) (by rw [f0]; exact f2) (by rw [f0]; exact f1) 53 (1074 * 4503599627370496 + mg (nr (rg a))) (by decide) fq2 (by rw [f0]; exact fq3)).mono ?_)))))))))));rintro e w4 ⟨rfl, hb⟩;refine ⟨_, rfl, ?_⟩;replace E := blx E hb
  refine za rfl (zxx (z := ((mg (nr (rg a)) : Nat) : Int)) Tryz.underlying25 (by rw [Tryz.underlying76]; rfl) rfl fz (anx rfl (srx (mvx rfl (za rfl (gf rfl rfl (yg (by omega)) (za rfl (kh (z := (frE (rg a) - 53).tmod 31) rfl rfl (by decide) rfl (za rfl (qp rfl rfl (yg (by omega)) (za rfl (kh (z := ((k : Nat) : Int)) rfl rfl (by decide) (by rw [t1, hk]) (anx rfl (srx (mvx rfl (za rfl (kh (z := ((mg (nr (rg a)) % 2147483647 : Nat) : Int)) rfl rfl (by decide) (zpz _ 2147483647) (mvx rfl (za rfl (zck rfl rfl (by omega) (ycz 1 k (by omega)) (zz 41 (.int .u64 ((2 ^ k : Nat) : Int)) rfl ((by rw [Nat.one_mul, Nat.mod_eq_of_lt (by omega)] : (.int .u64 ((1 * 2 ^ k % 18446744073709551616 : Nat) : Int) : Value) = _)) (za rfl (zd en62 rfl ((mul64_b (mg (nr (rg a)) % 2147483647) (2 ^ k) (by omega) (by omega) _).mono ?_))))))))))))))))))))))))
  rintro e w5 ⟨rfl, hb⟩;refine ⟨_, rfl, ?_⟩;replace E := blx E hb
  refine mvx rfl (za rfl (zn rfl rfl (za rfl (zn rfl rfl (avx rfl (anx rfl (srx (mvx rfl (mvx rfl (mvx rfl (za rfl (zd en63 rfl ((zwz _ (mg (nr (rg a)) % 2147483647 * 2 ^ k / 18446744073709551616) (mg (nr (rg a)) % 2147483647 * 2 ^ k % 18446744073709551616) (by omega) (Nat.mod_lt _ (by decide))).mono ?_)))))))))))));rintro e w6 ⟨rfl, hb⟩;refine ⟨_, rfl, ?_⟩
  replace E := blx E hb
  refine zz 48 (.int .u64 ((zix (rg a) : Nat) : Int)) rfl ((by rw [jr rfl rfl, ← hpr] : (.int .u64 (((mg (nr (rg a)) % 2147483647 * 2 ^ k / 18446744073709551616 * 18446744073709551616 + mg (nr (rg a)) % 2147483647 * 2 ^ k % 18446744073709551616) % 2147483647 : Nat) : Int) : Value) = _)) (za rfl (jn Tryz.underlying3 Tryz.underlying25 rfl (yg (by omega)) (za rfl (jd rfl rfl (yg (by omega)) (anx rfl (zm (zl (rs := [.tmp 2]) (vs := [_]) rfl ⟨rfl, trivial⟩ ?_)))))))
  exact ⟨by rw [kb, if_neg (by rw [ja hf]; decide), h, if_neg hni]; rfl, (LW.step E XLW).toBelow⟩
 ·
  refine zq (zk (zj (yi (srx (mvx rfl (mvx rfl (za rfl (jz rfl rfl (anx rfl (zu 14 (.bool false) rfl ((by rw [vh, ja hf] : (.bool (vf a a != some .eq) : Value) = _)) (zp rfl (srx (mvx rfl (za rfl (zd en58 rfl ((vn _ a ha).mono ?_))))))))))))))));rintro e w7 ⟨rfl, hb⟩;refine ⟨_, rfl, ?_⟩;replace E := blx E hb
  refine zz 20 (.bool false) rfl ((by rw [decide_eq_false (by omega)] : (.bool (decide (rg a = 9218868437227405312)) : Value) = _)) (anx rfl (zp rfl (zq (zw (zk (srx (mvx rfl (za rfl (zd en60 rfl ((zuk _ a ha).mono ?_))))))))));rintro e w8 ⟨rfl, hb⟩;refine ⟨_, rfl, ?_⟩;replace E := blx E hb
  refine za rfl (zd en59 rfl ((zzx _ (rg a) hr (by rw [rg_rg]; exact h0) (by rw [rg_rg]; exact hf)).mono ?_));rintro e w9 ⟨rfl, hb⟩;refine ⟨_, rfl, ?_⟩;replace E := blx E hb
  refine mvx rfl (za rfl (zn rfl rfl (za rfl (zn rfl rfl (avx rfl (anx rfl (srx (mvx rfl (za rfl (zd en61 rfl ((zyv _ (frF (rg a)) (by omega) (by rw [f0]; exact f2) (by rw [f0]; exact f1) 53 (1074 * 4503599627370496 + mg (nr (rg a))) (by decide) fq2 (by rw [f0]; exact fq3)).mono ?_)))))))))));rintro e w10 ⟨rfl, hb⟩;refine ⟨_, rfl, ?_⟩;replace E := blx E hb
  refine za rfl (zxx (z := ((mg (nr (rg a)) : Nat) : Int)) Tryz.underlying25 (by rw [Tryz.underlying76]; rfl) rfl fz (anx rfl (srx (mvx rfl (za rfl (gf rfl rfl (yg (by omega)) (za rfl (kh (z := (frE (rg a) - 53).tmod 31) rfl rfl (by decide) rfl (za rfl (qp rfl rfl (yg (by omega)) (za rfl (kh (z := ((k : Nat) : Int)) rfl rfl (by decide) (by rw [t1, hk]) (anx rfl (srx (mvx rfl (za rfl (kh (z := ((mg (nr (rg a)) % 2147483647 : Nat) : Int)) rfl rfl (by decide) (zpz _ 2147483647) (mvx rfl (za rfl (zck rfl rfl (by omega) (ycz 1 k (by omega)) (zz 41 (.int .u64 ((2 ^ k : Nat) : Int)) rfl ((by rw [Nat.one_mul, Nat.mod_eq_of_lt (by omega)] : (.int .u64 ((1 * 2 ^ k % 18446744073709551616 : Nat) : Int) : Value) = _)) (za rfl (zd en62 rfl ((mul64_b (mg (nr (rg a)) % 2147483647) (2 ^ k) (by omega) (by omega) _).mono ?_))))))))))))))))))))))))
  rintro e w11 ⟨rfl, hb⟩;refine ⟨_, rfl, ?_⟩;replace E := blx E hb
  refine mvx rfl (za rfl (zn rfl rfl (za rfl (zn rfl rfl (avx rfl (anx rfl (srx (mvx rfl (mvx rfl (mvx rfl (za rfl (zd en63 rfl ((zwz _ (mg (nr (rg a)) % 2147483647 * 2 ^ k / 18446744073709551616) (mg (nr (rg a)) % 2147483647 * 2 ^ k % 18446744073709551616) (by omega) (Nat.mod_lt _ (by decide))).mono ?_)))))))))))));rintro e w12 ⟨rfl, hb⟩;refine ⟨_, rfl, ?_⟩
  replace E := blx E hb
  refine zz 48 (.int .u64 ((zix (rg a) : Nat) : Int)) rfl ((by rw [jr rfl rfl, ← hpr] : (.int .u64 (((mg (nr (rg a)) % 2147483647 * 2 ^ k / 18446744073709551616 * 18446744073709551616 + mg (nr (rg a)) % 2147483647 * 2 ^ k % 18446744073709551616) % 2147483647 : Nat) : Int) : Value) = _)) (za rfl (jn Tryz.underlying3 Tryz.underlying25 rfl (yg (by omega)) (za rfl (jd rfl rfl (yg (by omega)) (anx rfl (zm (zl (rs := [.tmp 2]) (vs := [_]) rfl ⟨rfl, trivial⟩ ?_)))))))
  exact ⟨by rw [kb, if_neg (by rw [ja hf]; decide), h, if_neg hni]; rfl, (LW.step E XLW).toBelow⟩
end
end
theorem hash_any : Calls Tryz.prog 35 #[.int .u64 ((a : Nat) : Int)] w fun e w' => e = .returned (.int .i64 (kb a)) ∧ Below w.heap.size w w' := by
 cases hn : isN a with
 | true => exact hash_nan w a ha hn
 | false =>
  have h1 := of_decide_eq_false hn;by_cases hi : rg a = 9218868437227405312
  · exact hash_inf w a ha hi
  · by_cases h0 : rg a = 0
    · exact hash_zero w a ha (by omega) h0
    · exact hash_num w a ha (by omega) h0
end
theorem lim_posR {j : Int} (h0 : j ≠ 0) : 0 < (limbs j).length := by rw [qq]; exact zbq qm (by omega)
theorem val_dropL {b : Nat} (L : List Nat) (j : Nat) (h : j < L.length) : val b (L.drop j) = L.getD j 0 + b * val b (L.drop (j + 1)) := by
 rw [List.drop_eq_getElem_cons h, val, List.getD_eq_getElem?_getD, List.getElem?_eq_getElem h, Option.getD_some]
def upM (b : Nat) (L : List Nat) (k : Nat) : Nat := val b (L.drop (L.length - k)) % 2147483647
theorem upM_zero (b : Nat) (L : List Nat) : upM b L 0 = 0 := by rw [upM, Nat.sub_zero, List.drop_length]; rfl
theorem upM_lt (b : Nat) (L : List Nat) (k : Nat) : upM b L k < 2147483647 := Nat.mod_lt _ (by decide)
theorem upM_succ {b : Nat} {L : List Nat} {k : Nat} (h : k < L.length) : upM b L (k + 1) = (upM b L k * b + L.getD (L.length - 1 - k) 0) % 2147483647 := by
 have key : ∀ V l : Nat, (V % 2147483647 * b + l) % 2147483647 = (V * b + l) % 2147483647 := fun V l => by rw [← Nat.mod_add_mod, Nat.mod_mul_mod, Nat.mod_add_mod]
 unfold upM;rw [val_dropL L (L.length - (k + 1)) (by omega), show L.length - (k + 1) + 1 = L.length - k by omega, show L.length - (k + 1) = L.length - 1 - k by omega, Nat.add_comm, Nat.mul_comm b];exact (key _ _).symm
theorem upM_limbs (i : Int) : upM B18 (limbs i) (limbs i).length = i.natAbs % 2147483647 := by rw [upM, Nat.sub_self, List.drop_zero, qq, ji qm]
def ybx (i : Int) : Int := if i < 0 then 0 - ((i.natAbs % 2147483647 : Nat) : Int) else ((i.natAbs % 2147483647 : Nat) : Int)
theorem ex_add64 : Ext_ Tryz.prog 64 add64Entry := ⟨_, Tryz.func64, by kernel_rfl, by kernel_rfl, by kernel_rfl, by kernel_rfl⟩
theorem run_add64N (x y : Nat) (w : World) : (add64Entry #[.int .u64 ((x : Nat) : Int), .int .u64 ((y : Nat) : Int), .int .u64 0]).run Tryz.prog w =
 .ok (.tuple #[.int .u64 (((x + y) % 18446744073709551616 : Nat) : Int), .int .u64 (((x + y) / 18446744073709551616 : Nat) : Int)]) w := by
 rw [run_add64 _ _ 0 (by omega) (by omega) (by omega) (by omega), Int.add_zero, ← Int.natCast_add];rfl
theorem hash_round {h l hi lo c s : Nat} (h1 : hi * 18446744073709551616 + lo = h * B18) (h2 : c * 18446744073709551616 + s = lo + l) : ((hi + c) * 18446744073709551616 + s) % 2147483647 = (h * B18 + l) % 2147483647 := by
 have e : (hi + c) * 18446744073709551616 + s = h * B18 + l := by rw [Nat.add_mul, Nat.add_assoc, h2, ← Nat.add_assoc, h1]
 rw [e]
section
variable (i : Int) (A : Option Addr) (c : Nat) (w : World) (hi : i.natAbs < B18 ^ 30) (hx : Nums w A (limbs i))
include hi hx
theorem hashbig_zero (h0 : i = 0) : Calls Tryz.prog 36 #[.agg #[.bool (decide (i < 0)), .slice A (limbs i).length c]] w fun e w' => e = .returned (.int .i64 (ybx i)) ∧ Below w.heap.size w w' := by
 have hl : ((limbs i).length : Int) = 0 := by rw [h0, va]; rfl
 refine zr Tryz.func36 rfl Tryz.ntmps36 rfl ?_;have HF : Per (No) w (fun _ => True) := Per.true_;have LW := erx (No) w;have XLW := grx (No) w;have E := erx (No) w;replace HF := HF.on E;replace LW := LW.step E XLW;replace E := erx (No) w;replace HF := HF.and (Per.nums0 hx);refine srx (za rfl (zx rfl ?_));intro gb1 w2 Bb1 Eb1 Gb1;have Gb1 : _ ≤ gb1 := Nat.le_trans E.size Gb1
 have GLb1 := Nat.le_trans LW.size Gb1;replace E := E.trans Eb1.no;replace HF := HF.cons (zi Gb1);replace E := E.cons (some gb1);replace XLW := Mut.grow XLW (fun k e => Or.inr (Nat.le_trans LW.size ((zi Gb1) k e)));replace HF := HF.on E;replace LW := LW.step E XLW;have SB : ∀ q9, No q9 → Mut [(some gb1)] q9 := (Mut.skip Mut.nil_);replace HF := HF.less SB
 replace XLW := fun k h => XLW k (SB k h);clear SB;replace E := erx (No) w2;replace HF := HF.and (Per.blkN Bb1 NotIn.nil);refine anx rfl (zj (srx (za rfl (zo Tryz.underlying24 rfl yy rfl (HF.on E).here.2 rfl (za rfl (zd en47 rfl ((ybq A c _ hi (HF.on E).here.1.2).mono ?_)))))));rintro e w3 ⟨rfl, hb⟩;refine ⟨_, rfl, ?_⟩;replace E := blx E hb
 refine za rfl (yf rfl (rnx (zp rfl (zq (zk (srx (anx rfl (zj (srx (za rfl (zb Tryz.underlying24 rfl zfk (by decide) rfl (za rfl (zf Tryz.underlying22 rfl rfl (HF.on E).here.2 rfl (za rfl (vq Tryz.underlying22 rfl (za rfl (gf rfl rfl (yg (by omega)) (anx rfl (yi (zxv (zj (srx (mvx rfl (za rfl (og rfl rfl (rnx (zu 16 (.bool false) rfl ((by rw [hl]; rfl : (.bool (decide (0 ≤ (((((limbs i).length : Nat)) : Int) - 1))) : Value) = _)) (zp rfl (oe (qg (qg (vu (zk (zj (srx ?_)))))))))))))))))))))))))))))))))))
 refine za rfl (zb Tryz.underlying24 rfl sz4 (by decide) rfl (za rfl (zf Tryz.underlying4 rfl rfl (HF.on E).here.2 rfl (rnx (zu 40 (.bool false) rfl ((by rw [h0]; rfl : (.bool (decide (i < 0)) : Value) = _)) (zp rfl (zq (zk (srx (mvx rfl (za rfl (jn (z := 0) Tryz.underlying3 Tryz.underlying25 rfl (by kernel_rfl) (anx rfl (zm (zl (rs := [.tmp 2]) (vs := [_]) rfl ⟨rfl, trivial⟩ ?_)))))))))))))))
 exact ⟨by rw [h0]; rfl, (LW.step E XLW).toBelow⟩
theorem hashbig_num (h0 : i ≠ 0) : Calls Tryz.prog 36 #[.agg #[.bool (decide (i < 0)), .slice A (limbs i).length c]] w fun e w' => e = .returned (.int .i64 (ybx i)) ∧ Below w.heap.size w w' := by
 have hl2 := jp hi;obtain ⟨bx, ox, rfl, hbx, hcx⟩ := hx.2 (lim_posR h0);have hsm := zhk i;refine zr Tryz.func36 rfl Tryz.ntmps36 rfl ?_;have HF : Per (No) w (fun _ => True) := Per.true_;have LW := erx (No) w;have XLW := grx (No) w;have E := erx (No) w;replace HF := HF.on E;replace LW := LW.step E XLW;replace E := erx (No) w;replace HF := HF.and (Per.nums0 hx)
 refine srx (za rfl (zx rfl ?_));intro gb1 w2 Bb1 Eb1 Gb1;have Gb1 : _ ≤ gb1 := Nat.le_trans E.size Gb1;have GLb1 := Nat.le_trans LW.size Gb1;replace E := E.trans Eb1.no;replace HF := HF.cons (zi Gb1);replace E := E.cons (some gb1);replace XLW := Mut.grow XLW (fun k e => Or.inr (Nat.le_trans LW.size ((zi Gb1) k e)));replace HF := HF.on E;replace LW := LW.step E XLW
 have SB : ∀ q9, No q9 → Mut [(some gb1)] q9 := (Mut.skip Mut.nil_);replace HF := HF.less SB;replace XLW := fun k h => XLW k (SB k h);clear SB;replace E := erx (No) w2;replace HF := HF.and (Per.blkN Bb1 NotIn.nil)
 refine anx rfl (zj (srx (za rfl (zo Tryz.underlying24 rfl yy rfl (HF.on E).here.2 rfl (za rfl (zd en47 rfl ((ybq (some ⟨bx, ox, none⟩) c _ hi (HF.on E).here.1.2).mono ?_)))))));rintro e w3 ⟨rfl, hb⟩;refine ⟨_, rfl, ?_⟩;replace E := blx E hb
 refine za rfl (yf rfl (rnx (zp rfl (zq (zk (srx (anx rfl (zj (srx (za rfl (zb Tryz.underlying24 rfl zfk (by decide) rfl (za rfl (zf Tryz.underlying22 rfl rfl (HF.on E).here.2 rfl (za rfl (vq Tryz.underlying22 rfl (za rfl (gf rfl rfl (yg (by omega)) (anx rfl (yi ?_)))))))))))))))))));replace HF := HF.on E
 replace LW := LW.step E XLW;replace E := erx (No) w3
 refine ztk (ι := Nat) (fun k => [(1, .pointer (some ⟨gb1, 0, none⟩)), (3, .int .u64 ((upM B18 (limbs i) k : Nat) : Int)), (4, .int .i64 (((limbs i).length : Int) - 1 - ((k : Nat) : Int)))]) (fun k w' => Ext (No) w3 w' ∧ (k ≤ (limbs i).length)) (fun k => (limbs i).length - k) 0 ⟨rfl, congrArg (fun z : Nat => some (Value.int .u64 (z : Int))) (upM_zero _ _).symm, congrArg (fun z : Int => some (Value.int .i64 z)) (by omega), trivial⟩ ⟨Ext.refl _ _, Nat.zero_le _⟩ ?_
 rintro k w5 ⟨M4, hk⟩;have XM4 := grx (No) w3;replace E := E.trans M4;replace HF := HF.on E;replace LW := LW.step E XLW;replace E := erx (No) w5;refine zj (srx (mvx rfl (za rfl (og rfl rfl (rnx (zu 16 (.bool (decide (k < (limbs i).length))) rfl (bool_dec (by omega)) ?_))))));have hup := upM_lt B18 (limbs i) k;refine yx rfl (fun hl => ?_) (fun hl => ?_)
 ·
  have hl := of_decide_eq_true hl;obtain ⟨h, hh⟩ : ∃ h, h = upM B18 (limbs i) k := ⟨_, rfl⟩;obtain ⟨l, hll⟩ : ∃ l, l = (limbs i).getD ((limbs i).length - 1 - k) 0 := ⟨_, rfl⟩;have hlb : l < 1000000000000000000 := by rw [hll]; exact znv (by decide) hsm _
  have hnx : upM B18 (limbs i) (k + 1) = (h * B18 + l) % 2147483647 := by rw [upM_succ hl, ← hh, ← hll]
  rw [← hh] at hup;refine zu 3 (.int .u64 ((h : Nat) : Int)) rfl ((by rw [hh] : (.int .u64 ((upM B18 (limbs i) k : Nat) : Int) : Value) = _)) ?_;obtain ⟨p, hp⟩ : ∃ p, p = h * 1000000000000000000 / 18446744073709551616 := ⟨_, rfl⟩;obtain ⟨q, hq⟩ : ∃ q, q = h * 1000000000000000000 % 18446744073709551616 := ⟨_, rfl⟩;have hpq : p * 18446744073709551616 + q = h * B18 := jr hp hq
  have hpb : p < 2147483647 := by rw [hp]; exact Nat.div_lt_of_lt_mul (Nat.lt_of_lt_of_le (Nat.mul_lt_mul_of_pos_right hup (by decide)) (by decide))
  have hqb : q < 18446744073709551616 := ka (by decide) hq;obtain ⟨t, ht⟩ : ∃ t, t = (q + l) / 18446744073709551616 := ⟨_, rfl⟩;obtain ⟨s, hs⟩ : ∃ s, s = (q + l) % 18446744073709551616 := ⟨_, rfl⟩;have hts : t * 18446744073709551616 + s = q + l := jr ht hs;have hsb : s < 18446744073709551616 := ka (by decide) hs
  have htb : t < 2 := by rw [ht]; exact Nat.div_lt_of_lt_mul (by omega)
  refine zq (zk (zj (yi (srx (mvx rfl (za rfl (zd en62 rfl ((mul64_b h 1000000000000000000 (by omega) (by decide) _).mono ?_))))))));rintro e w6 ⟨rfl, hb⟩;refine ⟨_, rfl, ?_⟩;replace E := blx E hb
  refine zz 21 (.tuple #[.int .u64 ((p : Nat) : Int), .int .u64 ((q : Nat) : Int)]) rfl ((by rw [hp, hq] : (.tuple #[.int .u64 ((h * 1000000000000000000 / 18446744073709551616 : Nat) : Int), .int .u64 ((h * 1000000000000000000 % 18446744073709551616 : Nat) : Int)] : Value) = _)) (mvx rfl (za rfl (zn rfl rfl (za rfl (zn rfl rfl (avx rfl (anx rfl (srx (mvx rfl (za rfl (zb Tryz.underlying24 rfl zfk (by decide) rfl (za rfl (zf Tryz.underlying22 rfl rfl (HF.on E).here.2 rfl (mvx rfl (za rfl (jt (j := (limbs i).length - 1 - k) Tryz.underlying22 xa rfl rfl (by omega) (by omega) ?_))))))))))))))))
  obtain ⟨b9, o9, hA9, _, hc9⟩ := ((HF.on E).here.1.2).2 (lim_posR h0);obtain ⟨rfl, rfl⟩ : b9 = bx ∧ o9 = ox := by simpa using hA9.symm
  refine za rfl (xr Tryz.underlying25 rfl rfl (hc9 ((limbs i).length - 1 - k) (by omega)) (zz 30 (.int .u64 ((l : Nat) : Int)) rfl ((by rw [nth_nat, hll] : (.int .u64 (nth (limbs i) ((limbs i).length - 1 - k)) : Value) = _)) (za rfl (ow_ext (args := [.int .u64 ((q : Nat) : Int), .int .u64 ((l : Nat) : Int), .int .u64 0]) ex_add64 rfl (run_add64N q l _) (zz 31 (.tuple #[.int .u64 ((s : Nat) : Int), .int .u64 ((t : Nat) : Int)]) rfl ((by rw [hs, ht] : (.tuple #[.int .u64 (((q + l) % 18446744073709551616 : Nat) : Int), .int .u64 (((q + l) / 18446744073709551616 : Nat) : Int)] : Value) = _)) (mvx rfl (za rfl (zn rfl rfl (za rfl (zn rfl rfl (avx rfl (anx rfl (yo (mvx rfl (mvx rfl (za rfl (qp rfl rfl (wrap_u64 (by omega)) (mvx rfl (zz 36 (.int .u64 ((p + t : Nat) : Int)) rfl ((by rw [Int.natCast_add] : (.int .u64 (((p : Nat) : Int) + ((t : Nat) : Int)) : Value) = _)) (za rfl (zd en63 rfl ((zwz _ (p + t) s (by omega) hsb).mono ?_))))))))))))))))))))))
  rintro e w7 ⟨rfl, hb⟩;refine ⟨_, rfl, ?_⟩;replace E := blx E hb
  refine zz 38 (.int .u64 ((upM B18 (limbs i) (k + 1) : Nat) : Int)) rfl ((by rw [hash_round hpq hts, ← hnx] : (.int .u64 ((((p + t) * 18446744073709551616 + s) % 2147483647 : Nat) : Int) : Value) = _)) (avx rfl (qz (zw (zk (yo (mvx rfl (za rfl (gf rfl rfl (yg (by omega)) (avx rfl (qz ?_))))))))))
  exact gp (k + 1) (by omega) ⟨rfl, rfl, congrArg (fun z : Int => some (Value.int .i64 z)) (by omega), trivial⟩ ⟨M4.step E XM4, by omega⟩
 ·
  have hl := of_decide_eq_false hl;have hke : k = (limbs i).length := by omega
  have hend : upM B18 (limbs i) k = i.natAbs % 2147483647 := by rw [hke, upM_limbs]
  refine zu 3 (.int .u64 ((i.natAbs % 2147483647 : Nat) : Int)) rfl ((by rw [hend] : (.int .u64 ((upM B18 (limbs i) k : Nat) : Int) : Value) = _)) (oe (qg (qg (vu (zk (zj (srx (za rfl (zb Tryz.underlying24 rfl sz4 (by decide) rfl (za rfl (zf Tryz.underlying4 rfl rfl (HF.on E).here.2 rfl (rnx (yx rfl (fun hn => ?_) (fun hn => ?_))))))))))))))
  ·
   refine srx (mvx rfl (za rfl (jn Tryz.underlying3 Tryz.underlying25 rfl (yg (by omega)) (za rfl (zwv rfl (yg (by omega)) (anx rfl (zm (zg (zl (rs := [.tmp 2]) (vs := [_]) rfl ⟨rfl, trivial⟩ ?_)))))))));exact ⟨by rw [ybx, if_pos (of_decide_eq_true hn)]; rfl, (LW.step E XLW).toBelow⟩
  ·
   refine zq (zk (srx (mvx rfl (za rfl (jn Tryz.underlying3 Tryz.underlying25 rfl (yg (by omega)) (anx rfl (zm (zl (rs := [.tmp 2]) (vs := [_]) rfl ⟨rfl, trivial⟩ ?_))))))));exact ⟨by rw [ybx, if_neg (of_decide_eq_false hn)]; rfl, (LW.step E XLW).toBelow⟩
theorem hashbigI : Calls Tryz.prog 36 #[.agg #[.bool (decide (i < 0)), .slice A (limbs i).length c]] w fun e w' => e = .returned (.int .i64 (ybx i)) ∧ Below w.heap.size w w' := by
 by_cases h0 : i = 0
 · exact hashbig_zero i A c w hi hx h0
 · exact hashbig_num i A c w hi hx h0
/-! ### the document's -/
end
/-! ### numbers that are not in form -/
section
variable (n1 : Bool) (A : Option Addr) (c : Nat) (xs : List Nat) (w : World) (hx : Nums w A xs) (hl : xs.length ≤ 9223372036854775807) (hg : yb n1 xs = false)
include hx hl hg
theorem hashbig_bad : Calls Tryz.prog 36 #[.agg #[.bool n1, .slice A xs.length c]] w fun e w' => e = .returned (.int .i64 0) ∧ Below w.heap.size w w' := by
 refine zr Tryz.func36 rfl Tryz.ntmps36 rfl ?_;have HF : Per (No) w (fun _ => True) := Per.true_;have LW := erx (No) w;have XLW := grx (No) w;have E := erx (No) w;replace HF := HF.on E;replace LW := LW.step E XLW;replace E := erx (No) w;replace HF := HF.and (Per.nums0 hx);refine srx (za rfl (zx rfl ?_));intro gb1 w2 Bb1 Eb1 Gb1;have Gb1 : _ ≤ gb1 := Nat.le_trans E.size Gb1
 have GLb1 := Nat.le_trans LW.size Gb1;replace E := E.trans Eb1.no;replace HF := HF.cons (zi Gb1);replace E := E.cons (some gb1);replace XLW := Mut.grow XLW (fun k e => Or.inr (Nat.le_trans LW.size ((zi Gb1) k e)));replace HF := HF.on E;replace LW := LW.step E XLW;have SB : ∀ q9, No q9 → Mut [(some gb1)] q9 := (Mut.skip Mut.nil_);replace HF := HF.less SB
 replace XLW := fun k h => XLW k (SB k h);clear SB;replace E := erx (No) w2;replace HF := HF.and (Per.blkN Bb1 NotIn.nil);refine anx rfl (zj (srx (za rfl (zo Tryz.underlying24 rfl yy rfl (HF.on E).here.2 rfl (za rfl (zd en47 rfl ((yv n1 c _ A xs hl (HF.on E).here.1.2).mono ?_)))))));rintro e w3 ⟨rfl, hb⟩;refine ⟨_, rfl, ?_⟩;replace E := blx E hb
 refine zz 9 (.bool false) rfl ((by rw [hg] : (.bool (yb n1 xs) : Value) = _)) (za rfl (yf rfl (rnx (yc rfl (srx (anx rfl (zm (zg (zl (rs := [.tmp 2]) (vs := [_]) rfl ⟨rfl, trivial⟩ ?_)))))))));exact ⟨rfl, (LW.step E XLW).toBelow⟩
end
noncomputable def yav (n1 : Bool) (xs : List Nat) : Int := if yb n1 xs then ybx (num n1 xs) else 0
section
variable (n1 : Bool) (A : Option Addr) (c : Nat) (xs : List Nat) (w : World) (hx : Nums w A xs) (hl : xs.length ≤ 9223372036854775807)
include hx hl
theorem hashbig_any : Calls Tryz.prog 36 #[.agg #[.bool n1, .slice A xs.length c]] w fun e w' => e = .returned (.int .i64 (yav n1 xs)) ∧ Below w.heap.size w w' := by
 cases hg : yb n1 xs with
 | false =>
  rw [yav, if_neg (by rw [hg]; decide)];exact hashbig_bad n1 A c xs w hx hl hg
 | true =>
  rw [yav, if_pos hg];obtain ⟨i, rfl, rfl, hi⟩ := good_is hg;rw [jj];exact hashbigI i A c w hi hx
end
theorem hash_gen {m e W k : Nat} {v : Nat} (hv : m * 2 ^ e = v) (hW : v = W * 2 ^ k) (hk : (k + 11) % 31 = 0) {t : Nat} (ht : (e + 11) % 31 = t % 31) : (m * 2 ^ t) % 2147483647 = W % 2147483647 := by
 have h1 : m * 2 ^ (e + 11) = W * 2 ^ (k + 11) := by rw [Nat.pow_add, Nat.pow_add, ← Nat.mul_assoc, ← Nat.mul_assoc, hv, hW]
 have h2 := pow31_of (m := m) ht;have h3 := pow31_of (m := W) (j := k + 11) (k := 0) (by omega);rw [← h2, h1, h3, Nat.pow_zero, Nat.mul_one]
theorem hash_whole {a : Nat} (hw : isWh (rg a)) : zix (rg a) = qk a % 2147483647 := by
 unfold zix;exact hash_gen (v := vl (rg a)) (k := 1074) rfl (Nat.div_mul_cancel hw).symm (by decide) (by omega)
theorem zyx {i j : Int} (h : ky i j = 0) : i = j := by
 unfold ky at h;split at h
 · cases h
 · split at h
   · cases h
   · omega
theorem agree_big {a : Nat} {i : Int} (hf : rg a < 9218868437227405312) (hc : cmpB a i = 0) : kb a = ybx i := by
 unfold cmpB at hc;by_cases h0 : ky (jh a) i = 0
 · rw [if_neg (fun h => h h0)] at hc;have hi := zyx h0;cases hl : zrk a with
   | true => rw [hl, if_pos rfl] at hc; split at hc <;> cases hc
   | false =>
    have hw : isWh (rg a) := by
     unfold zrk at hl;exact Classical.byContradiction fun h => @of_decide_eq_false _ (Classical.propDecidable _) hl h
    have hne : ¬ rg a = 9218868437227405312 := by omega
    unfold kb ybx;rw [ja hf, if_neg Bool.false_ne_true, if_neg hne, hash_whole hw, ← hi];unfold jh;cases ng a with
    | true =>
     rw [if_pos rfl, if_pos rfl];rcases Nat.eq_zero_or_pos (qk a) with h | h
     · rw [h]; rfl
     · rw [if_pos (by omega), Int.natAbs_neg, Int.natAbs_natCast]; omega
    | false =>
     rw [if_neg Bool.false_ne_true, if_neg Bool.false_ne_true, if_neg (show ¬ ((qk a : Nat) : Int) < 0 by omega), Int.natAbs_natCast]; omega
 · rw [if_pos h0] at hc; exact absurd hc h0
theorem agree_cmp {a b : Nat} (ho : vr a b = true) (hc : zeq a b = 0) : kb a = kb b := by
 unfold zeq at hc;rw [if_pos ho] at hc;have hp : pc a = pc b := by
  unfold ordI at hc;split at hc
  · cases hc
  · split at hc
    · cases hc
    · omega
 unfold vr at ho;cases ha : isN a with
 | true => rw [ha] at ho; cases ho
 | false =>
  cases hb : isN b with
  | true => rw [ha, hb] at ho; cases ho
  | false =>
   unfold kb;rw [ha, hb];unfold pc at hp;have hr : rg a = rg b := by split at hp <;> split at hp <;> omega
   rw [hr];by_cases hz : rg b = 0
   · rw [hz, hashM_zero]; simp
   · have hn : ng a = ng b := by
      cases h1 : ng a <;> cases h2 : ng b <;> rw [h1, h2] at hp
      · rw [if_neg Bool.false_ne_true, if_pos rfl] at hp; omega
      · rw [if_pos rfl, if_neg Bool.false_ne_true] at hp; omega
     rw [hn]
theorem infV_ne (a : Nat) : infV a ≠ 0 := by unfold infV; split <;> decide
theorem agree_any {a : Nat} {n1 : Bool} {xs : List Nat} (ho : jf a n1 xs = true) (hz : kl a n1 xs = 0) : kb a = yav n1 xs := by
 unfold kl at hz;rw [if_pos ho] at hz;unfold jf at ho;cases hn : isN a with
 | true => rw [hn] at ho; cases ho
 | false =>
  cases hg : yb n1 xs with
  | false => rw [hg, Bool.and_false] at ho; cases ho
  | true =>
   by_cases hi : rg a = 9218868437227405312
   · rw [if_pos hi] at hz; exact absurd hz (infV_ne a)
   · rw [if_neg hi] at hz;have h1 := of_decide_eq_false hn;unfold yav;rw [if_pos hg];exact agree_big (by omega) hz
end Go.Proofs.YtaleikoeklemmaaGreatDoor
