/- The walks of math/bits: Mul64; LeadingZeros64 and Div64 at the limbs' base. -/
import Derived.WalkKit
import Derived.Lib.Mul64
import Derived.Laws.Bits64b
import Derived.BigQuiet
import Derived.Deep.QuietTactic
import Derived.Lib.Hide
import Derived.Laws.Externs
import Derived.Deep.DeepCutAuto
import Derived.Deep.CutBlock
import Derived.Test.YteggjfmcpodepaaDoorRows
namespace Go.Proofs.YteggjfmcpodepaaDoor
open Go.RowKit Go.Lib
namespace M64
theorem maskN (a : Nat) (ha : a < 18446744073709551616) : bits .and .u64 (a : Int) 4294967295 = ((a % 4294967296 : Nat) : Int) := by
  have h := bits_and_u64_nat a 4294967295 ha (by omega)
  have e : a &&& 4294967295 = a % 4294967296 := Nat.and_two_pow_sub_one_eq_mod a 32
  rw [e] at h
  exact h
theorem divN (a : Nat) : (a : Int) / 4294967296 = ((a / 4294967296 : Nat) : Int) := by omega
theorem mulN (a b : Nat) : (a : Int) * (b : Int) = ((a * b : Nat) : Int) := (Int.natCast_mul a b).symm
theorem addN (a b : Nat) : (a : Int) + (b : Int) = ((a + b : Nat) : Int) := (Int.natCast_add a b).symm
theorem wrapN (a : Nat) (ha : a < 18446744073709551616) : IntKind.u64.wrap (a : Int) = (a : Int) := by rw [IntKind.wrap_u64]; omega
theorem wrapM (a : Nat) : IntKind.u64.wrap (a : Int) = ((a % 18446744073709551616 : Nat) : Int) := by rw [IntKind.wrap_u64]; omega
end M64
set_option maxHeartbeats 1000000 in
theorem mul64_any (x y : Nat) (hx : x < 18446744073709551616) (hy : y < 18446744073709551616) (w : World) :
    Calls Tryd.prog 60 #[.int .u64 x, .int .u64 y] w fun e w' => e = .returned (.tuple #[.int .u64 ((x * y / 18446744073709551616 : Nat) : Int), .int .u64 ((x * y % 18446744073709551616 : Nat) : Int)]) ∧ w = w' := by
  obtain ⟨bd, bt, bw, hhi⟩ := Lib.mul64_hi x y hx hy
  have ba := Lib.half_mul_le (a := x / 4294967296) (b := y / 4294967296) (by omega) (by omega)
  have bb := Lib.half_mul_le (a := x / 4294967296) (b := y % 4294967296) (by omega) (by omega)
  have bc := Lib.half_mul_le (a := x % 4294967296) (b := y / 4294967296) (by omega) (by omega)
  have ba' : x / 4294967296 * (y / 4294967296) < 18446744073709551616 := by omega
  have bb' : x / 4294967296 * (y % 4294967296) < 18446744073709551616 := by omega
  have bc' : x % 4294967296 * (y / 4294967296) < 18446744073709551616 := by omega
  have bh1 : x / 4294967296 * (y / 4294967296) + (x / 4294967296 * (y % 4294967296) + x % 4294967296 * (y % 4294967296) / 4294967296) / 4294967296 < 18446744073709551616 := by omega
  have bh : x / 4294967296 * (y / 4294967296) + (x / 4294967296 * (y % 4294967296) + x % 4294967296 * (y % 4294967296) / 4294967296) / 4294967296 + ((x / 4294967296 * (y % 4294967296) + x % 4294967296 * (y % 4294967296) / 4294967296) % 4294967296 + x % 4294967296 * (y / 4294967296)) / 4294967296 < 18446744073709551616 := by omega
  go_enter Tryd.func60, Tryd.ntmps60
  go_wp2
  simp only [M64.maskN x hx, M64.maskN y hy, M64.divN, M64.mulN, M64.addN, M64.wrapN _ bd, M64.wrapN _ bb', M64.wrapN _ bt, M64.maskN _ bt, M64.wrapN _ bc', M64.wrapN _ bw, M64.wrapN _ ba', M64.wrapN _ bh1, M64.wrapN _ bh, M64.wrapM (x * y)]
  rw [hhi]
  go_ret2
  exact ⟨rfl, rfl⟩
set_option maxRecDepth 100000
theorem lead_base (w : World) : Calls Tryd.prog 70 #[.int .u64 1000000000000000000] w fun e w' => e = .returned (.int .i64 4) ∧ w = w' := by
  go_enter Tryd.func70, Tryd.ntmps70
  go_wp2
  go_ret
  exact ⟨by kernel_rfl, rfl⟩
theorem add64_run (x y : Int) (hx : 0 ≤ x) (hy : 0 ≤ y) (w : World) :
    (callFunc 61 #[.int .u64 x, .int .u64 y, .int .u64 0]).run Tryd.prog w =
      .ok (.value (.tuple #[.int .u64 ((x + y) % 18446744073709551616), .int .u64 ((x + y) / 18446744073709551616)])) w := by
  rw [run_callFunc_extern Tryd.func61 (by kernel_rfl) (by kernel_rfl) (by kernel_rfl) (e := add64Entry) (by kernel_rfl), run_add64 x y 0 hx hy (by omega) (by omega)]
  simp only [Result.andThen, Int.add_zero]
theorem or_low (hi lo : Int) (h0 : 0 ≤ hi) (h1 : hi < 1000000000000000000) (l0 : 0 ≤ lo) (l1 : lo < 18446744073709551616) :
    bits .or .u64 (hi * 16) (lo / 1152921504606846976) = hi * 16 + lo / 1152921504606846976 := by
  obtain ⟨a, rfl⟩ := Int.eq_ofNat_of_zero_le h0
  obtain ⟨b, hb⟩ := Int.eq_ofNat_of_zero_le (show 0 ≤ lo / 1152921504606846976 by omega)
  rw [hb]
  have h := bits_or_u64_nat (a * 16) b (by omega) (by omega)
  have e : a * 16 ||| b = a * 16 + b := by
    have := Nat.shiftLeft_add_eq_or_of_lt (show b < 2 ^ 4 by omega) a
    rw [Nat.shiftLeft_eq] at this
    exact this.symm
  rw [e] at h
  rw [show ((a : Int) * 16) = ((a * 16 : Nat) : Int) by omega, h]
  omega
theorem mask_low (V : Int) (h0 : 0 ≤ V) (h1 : V < 18446744073709551616) : bits .and .u64 V 4294967295 = V % 4294967296 := by
  obtain ⟨a, rfl⟩ := Int.eq_ofNat_of_zero_le h0
  rw [M64.maskN a (by omega)]
  omega
/-- The loop that mends the guess of one half of the quotient: what holds at its head; where it ends. -/
theorem guess_end {U V q r : Int} (h0 : 0 ≤ U) (h1 : U < 16000000000000000000) (v0 : 0 ≤ V) (v1 : V < 4294967296) (hq : q * 3725290298 + r = U) (hr : 0 ≤ r)
    (hQ : (U * 4294967296 + V) / 16000000000000000000 ≤ q) (ht : q * 1983905792 ≤ 4294967296 * r + V) : q = (U * 4294967296 + V) / 16000000000000000000 := by omega
theorem guess_down {U V q r : Int} (h0 : 0 ≤ U) (h1 : U < 16000000000000000000) (v0 : 0 ≤ V) (v1 : V < 4294967296) (hq : q * 3725290298 + r = U)
    (ht : 4294967296 ≤ q ∨ 4294967296 * r + V < q * 1983905792) : (U * 4294967296 + V) / 16000000000000000000 ≤ q - 1 := by omega
set_option maxRecDepth 100000
set_option maxHeartbeats 2000000 in
theorem div64_base (hi lo : Int) (h0 : 0 ≤ hi) (h1 : hi < 1000000000000000000) (l0 : 0 ≤ lo) (l1 : lo < 18446744073709551616) (w : World) :
    Calls Tryd.prog 62 #[.int .u64 hi, .int .u64 lo, .int .u64 1000000000000000000] w fun e w' => e = .returned (.tuple #[.int .u64 ((hi * 18446744073709551616 + lo) / 1000000000000000000), .int .u64 ((hi * 18446744073709551616 + lo) % 1000000000000000000)]) ∧ ∃ n, w' = w.drewN n := by
  by_cases hz : hi = 0
  · subst hz
    have e1 : (0 : Int) * 18446744073709551616 + lo = lo := by omega
    rw [e1]
    have hq0 : 0 ≤ lo / 1000000000000000000 := by omega
    have hr0 : 0 ≤ lo % 1000000000000000000 := by omega
    go_enter Tryd.func62, Tryd.ntmps62
    go_wp2
    go_quiet (fail)
    go_wp2
    go_ret2
    exact ⟨by simp, _, rfl⟩
  · have hz2 : (hi == 0) = false := by simpa using hz
    have hle : ¬ 1000000000000000000 ≤ hi := by omega
    clear hz
    obtain ⟨U, hU⟩ : ∃ U, U = hi * 16 + lo / 1152921504606846976 := ⟨_, rfl⟩
    obtain ⟨V, hV⟩ : ∃ V, V = lo * 16 % 18446744073709551616 := ⟨_, rfl⟩
    obtain ⟨V1, hV1⟩ : ∃ V1, V1 = V / 4294967296 := ⟨_, rfl⟩
    obtain ⟨V0, hV0⟩ : ∃ V0, V0 = V % 4294967296 := ⟨_, rfl⟩
    obtain ⟨Q, hQ⟩ : ∃ Q, Q = U / 3725290298 := ⟨_, rfl⟩
    have eor : bits .or .u64 (hi * 16) (lo / 1152921504606846976) = U := by rw [or_low hi lo h0 h1 l0 l1, hU]
    have ew : IntKind.u64.wrap (lo * 16) = V := by rw [IntKind.wrap_u64, hV]
    have bU0 : 0 ≤ U := by omega
    have bU1 : U < 16000000000000000000 := by omega
    have bV0 : 0 ≤ V := by omega
    have bV1 : V < 18446744073709551616 := by omega
    have b10 : 0 ≤ V1 := by omega
    have b11 : V1 < 4294967296 := by omega
    have b00 : 0 ≤ V0 := by omega
    have b01 : V0 < 4294967296 := by omega
    have bQ0 : 0 ≤ Q := by omega
    have bQ1 : Q ≤ 4294967297 := by omega
    have em : bits .and .u64 V 4294967295 = V0 := by rw [mask_low V bV0 bV1, hV0]
    have ed : V / 4294967296 = V1 := hV1.symm
    have ec : bits .and .u64 16000000000000000000 4294967295 = 1983905792 := by rw [mask_low _ (by omega) (by omega)]; rfl
    have eq : U / 3725290298 = Q := hQ.symm
    have HU := Lib.hid hU; have HV := Lib.hid hV; have HV1 := Lib.hid hV1; have HV0 := Lib.hid hV0; have HQ := Lib.hid hQ
    have bR0 : 0 ≤ U - Q * 3725290298 := by omega
    have bR1 : U - Q * 3725290298 < 3725290298 := by omega
    clear hU hV hV1 hV0 hQ
    go_enter Tryd.func62, Tryd.ntmps62
    go_upto_block 0 with (go_at_call 70; refine (lead_base _).mono ?_; rintro e w' ⟨rfl, rfl⟩)
    clear eq eor ew em ed ec
    go_cut [15] (fun v wx => v = .int .u64 ((U * 4294967296 + V1) / 16000000000000000000) ∧ w = wx)
    case first =>
      go_wp2_with fail
      go_loop [15, 16] (fun qv rv => ∃ q r : Int, qv = .int .u64 q ∧ rv = .int .u64 r ∧ 0 ≤ q ∧ q ≤ 4294967297 ∧ 0 ≤ r ∧ r < 4294967296 ∧ Hid (q * 3725290298 + r = U) ∧ Hid ((U * 4294967296 + V1) / 16000000000000000000 ≤ q)) (fun qv _ => (intOf qv).toNat)
      case atStart => exact ⟨Q, U - Q * 3725290298, by rw [HQ.out], rfl, bQ0, bQ1, bR0, by omega, by show _ = _; omega, by have := HQ.out; show _ ≤ _; omega⟩
      case round =>
        obtain ⟨q, r, rfl, rfl, hq0, hq1, hr0, hr1, HQR, HLE⟩ := hrel
        by_cases hA : 4294967296 ≤ q
        · have hdn := guess_down bU0 bU1 b10 b11 HQR.out (Or.inl hA)
          have hqp : 1 ≤ q := by omega
          have HDN := Lib.hid hdn
          have HQ2 : Hid ((q - 1) * 3725290298 + (r + 3725290298) = U) := by have := HQR.out; show _ = _; omega
          clear hdn
          by_cases hB : 4294967296 ≤ r + 3725290298
          · have hend := guess_end bU0 bU1 b10 b11 HQ2.out (by omega) HDN.out (by omega)
            have HEND := Lib.hid hend
            clear hend
            go_wp2
            go_meet
            exact ⟨by rw [HEND.out], rfl⟩
          · go_wp2
            go_round
            case rel => exact ⟨q - 1, r + 3725290298, rfl, rfl, by omega, by omega, by omega, by omega, HQ2, HDN⟩
            case measure => simp [intOf]; omega
        · by_cases hT : 4294967296 * r + V1 < q * 1983905792
          · have hdn := guess_down bU0 bU1 b10 b11 HQR.out (Or.inr hT)
            have hqp : 1 ≤ q := by omega
            have HDN := Lib.hid hdn
            have HQ2 : Hid ((q - 1) * 3725290298 + (r + 3725290298) = U) := by have := HQR.out; show _ = _; omega
            clear hdn
            by_cases hB : 4294967296 ≤ r + 3725290298
            · have hend := guess_end bU0 bU1 b10 b11 HQ2.out (by omega) HDN.out (by omega)
              have HEND := Lib.hid hend
              clear hend
              go_wp2
              go_meet
              exact ⟨by rw [HEND.out], rfl⟩
            · go_wp2
              go_round
              case rel => exact ⟨q - 1, r + 3725290298, rfl, rfl, by omega, by omega, by omega, by omega, HQ2, HDN⟩
              case measure => simp [intOf]; omega
          · have hend := guess_end bU0 bU1 b10 b11 HQR.out hr0 HLE.out (by omega)
            have HEND := Lib.hid hend
            clear hend
            go_wp2
            go_meet
            exact ⟨by rw [HEND.out], rfl⟩
    case rest =>
      obtain ⟨rfl, rfl⟩ := hcut
      obtain ⟨P, hP⟩ : ∃ P, P = (U * 4294967296 + V1) / 16000000000000000000 := ⟨_, rfl⟩
      obtain ⟨T, hT⟩ : ∃ T, T = (U * 4294967296 + V1) % 16000000000000000000 := ⟨_, rfl⟩
      rw [← hP]
      have bP0 : 0 ≤ P := by omega
      have bP1 : P < 4294967296 := by omega
      have bT0 : 0 ≤ T := by omega
      have bT1 : T < 16000000000000000000 := by omega
      obtain ⟨Q2, hQ2⟩ : ∃ Q2, Q2 = T / 3725290298 := ⟨_, rfl⟩
      have cQ0 : 0 ≤ Q2 := by omega
      have cQ1 : Q2 ≤ 4294967297 := by omega
      have cR0 : 0 ≤ T - Q2 * 3725290298 := by omega
      have cR1 : T - Q2 * 3725290298 < 3725290298 := by omega
      obtain ⟨X1, hX1⟩ : ∃ X, X = IntKind.u64.wrap (U * 4294967296) := ⟨_, rfl⟩
      obtain ⟨X2, hX2⟩ : ∃ X, X = IntKind.u64.wrap (X1 + V1) := ⟨_, rfl⟩
      obtain ⟨X3, hX3⟩ : ∃ X, X = IntKind.u64.wrap (P * 16000000000000000000) := ⟨_, rfl⟩
      have e4 : IntKind.u64.wrap (X2 - X3) = T := by rw [hX2, hX3, hX1]; simp only [IntKind.wrap_u64]; omega
      have e1 := hX1.symm; have e2 := hX2.symm; have e3 := hX3.symm
      have hX1b : 0 ≤ X1 ∧ X1 < 18446744073709551616 := by rw [hX1]; simp only [IntKind.wrap_u64]; omega
      have hX2b : 0 ≤ X2 ∧ X2 < 18446744073709551616 := by rw [hX2]; simp only [IntKind.wrap_u64]; omega
      have hX3b : 0 ≤ X3 ∧ X3 < 18446744073709551616 := by rw [hX3]; simp only [IntKind.wrap_u64]; omega
      have HP := Lib.hid hP; have HT := Lib.hid hT; have HQ2e := Lib.hid hQ2
      clear hP hT hQ2 hX1 hX2 hX3
      go_upto_block 2 with fail
      clear e1 e2 e3 e4 hX1b hX2b hX3b
      go_cut [18] (fun v wx => v = .int .u64 ((T * 4294967296 + V0) / 16000000000000000000) ∧ w = wx)
      case first =>
        go_wp2_with fail
        go_loop [18, 16] (fun qv rv => ∃ q r : Int, qv = .int .u64 q ∧ rv = .int .u64 r ∧ 0 ≤ q ∧ q ≤ 4294967297 ∧ 0 ≤ r ∧ r < 4294967296 ∧ Hid (q * 3725290298 + r = T) ∧ Hid ((T * 4294967296 + V0) / 16000000000000000000 ≤ q)) (fun qv _ => (intOf qv).toNat)
        case atStart => exact ⟨Q2, T - Q2 * 3725290298, by rw [HQ2e.out], by rw [HQ2e.out], cQ0, cQ1, cR0, by omega, by show _ = _; omega, by have := HQ2e.out; show _ ≤ _; omega⟩
        case round =>
          obtain ⟨q, r, rfl, rfl, hq0, hq1, hr0, hr1, HQR, HLE⟩ := hrel
          by_cases hA : 4294967296 ≤ q
          · have hdn := guess_down bT0 bT1 b00 b01 HQR.out (Or.inl hA)
            have hqp : 1 ≤ q := by omega
            have HDN := Lib.hid hdn
            have HQ2 : Hid ((q - 1) * 3725290298 + (r + 3725290298) = T) := by have := HQR.out; show _ = _; omega
            clear hdn
            by_cases hB : 4294967296 ≤ r + 3725290298
            · have hend := guess_end bT0 bT1 b00 b01 HQ2.out (by omega) HDN.out (by omega)
              have HEND := Lib.hid hend
              clear hend
              go_wp2
              go_meet
              exact ⟨by rw [HEND.out], rfl⟩
            · go_wp2
              go_round
              case rel => exact ⟨q - 1, r + 3725290298, rfl, rfl, by omega, by omega, by omega, by omega, HQ2, HDN⟩
              case measure => simp [intOf]; omega
          · by_cases hT : 4294967296 * r + V0 < q * 1983905792
            · have hdn := guess_down bT0 bT1 b00 b01 HQR.out (Or.inr hT)
              have hqp : 1 ≤ q := by omega
              have HDN := Lib.hid hdn
              have HQ2 : Hid ((q - 1) * 3725290298 + (r + 3725290298) = T) := by have := HQR.out; show _ = _; omega
              clear hdn
              by_cases hB : 4294967296 ≤ r + 3725290298
              · have hend := guess_end bT0 bT1 b00 b01 HQ2.out (by omega) HDN.out (by omega)
                have HEND := Lib.hid hend
                clear hend
                go_wp2
                go_meet
                exact ⟨by rw [HEND.out], rfl⟩
              · go_wp2
                go_round
                case rel => exact ⟨q - 1, r + 3725290298, rfl, rfl, by omega, by omega, by omega, by omega, HQ2, HDN⟩
                case measure => simp [intOf]; omega
            · have hend := guess_end bT0 bT1 b00 b01 HQR.out hr0 HLE.out (by omega)
              have HEND := Lib.hid hend
              clear hend
              go_wp2
              go_meet
              exact ⟨by rw [HEND.out], rfl⟩
      case rest =>
        obtain ⟨rfl, rfl⟩ := hcut
        obtain ⟨P2, hP2⟩ : ∃ P, P = (T * 4294967296 + V0) / 16000000000000000000 := ⟨_, rfl⟩
        obtain ⟨T2, hT2⟩ : ∃ T2, T2 = (T * 4294967296 + V0) % 16000000000000000000 := ⟨_, rfl⟩
        rw [← hP2]
        have cP0 : 0 ≤ P2 := by omega
        have cP1 : P2 < 4294967296 := by omega
        have cT0 : 0 ≤ T2 := by omega
        have cT1 : T2 < 16000000000000000000 := by omega
        obtain ⟨X1, hX1⟩ : ∃ X, X = IntKind.u64.wrap (T * 4294967296) := ⟨_, rfl⟩
        obtain ⟨X2, hX2⟩ : ∃ X, X = IntKind.u64.wrap (X1 + V0) := ⟨_, rfl⟩
        obtain ⟨X3, hX3⟩ : ∃ X, X = IntKind.u64.wrap (P2 * 16000000000000000000) := ⟨_, rfl⟩
        have e4 : IntKind.u64.wrap (X2 - X3) = T2 := by rw [hX2, hX3, hX1]; simp only [IntKind.wrap_u64]; omega
        have e1 := hX1.symm; have e2 := hX2.symm; have e3 := hX3.symm
        have hX1b : 0 ≤ X1 ∧ X1 < 18446744073709551616 := by rw [hX1]; simp only [IntKind.wrap_u64]; omega
        have hX2b : 0 ≤ X2 ∧ X2 < 18446744073709551616 := by rw [hX2]; simp only [IntKind.wrap_u64]; omega
        have hX3b : 0 ≤ X3 ∧ X3 < 18446744073709551616 := by rw [hX3]; simp only [IntKind.wrap_u64]; omega
        have hfin : P * 4294967296 + P2 = (hi * 18446744073709551616 + lo) / 1000000000000000000 ∧ T2 / 16 = (hi * 18446744073709551616 + lo) % 1000000000000000000 := by
          have a1 := HU.out; have a2 := HV.out; have a3 := HV1.out; have a4 := HV0.out; have a5 := HP.out; have a6 := HT.out
          omega
        obtain ⟨f1, f2⟩ := hfin
        have F1 := Lib.hid f1; have F2 := Lib.hid f2
        have bF : P * 4294967296 + P2 < 18446744073709551616 := by omega
        clear hP2 hT2 hX1 hX2 hX3 f1 f2
        go_wp2
        go_ret2
        exact ⟨by rw [F1.out, F2.out]; rfl, 0, rfl⟩
end Go.Proofs.YteggjfmcpodepaaDoor
