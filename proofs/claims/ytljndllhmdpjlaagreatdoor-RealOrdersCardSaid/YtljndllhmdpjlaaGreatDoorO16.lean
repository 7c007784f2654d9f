/- The walks of math/bits: Mul64; LeadingZeros64 and Div64 at the limbs' base. The walk of whole.Mul. Numbers in limbs that are in form, by the whole number that they are: the contracts of package whole in that wording. The walk of whole.Pow. -/
import Derived.Test.YtljndllhmdpjlaaGreatDoorO15
import Derived.WalkKit
import Derived.Lib.Mul64
import Derived.Laws.Bits64b
import Derived.BigQuiet
import Derived.Deep.QuietTactic
import Derived.Lib.Hide
import Derived.Laws.Externs
import Derived.Deep.DeepCutAuto
import Derived.Deep.CutBlock
import Derived.Test.YtljndllhmdpjlaaGreatDoorRows
namespace Go.Proofs.YtljndllhmdpjlaaGreatDoor
open Go.RowKit Go.Lib
namespace M64
theorem maskN (a : Nat) (ha : a < 18446744073709551616) : bits .and .u64 (a : Int) 4294967295 = ((a % 4294967296 : Nat) : Int) := by
  have h := bits_and_u64_nat a 4294967295 ha (by omega)
  have e : a &&& 4294967295 = a % 4294967296 := Nat.and_two_pow_sub_one_eq_mod a 32
  rw [e] at h
  exact h
theorem divN (a : Nat) : (a : Int) / 4294967296 = ((a / 4294967296 : Nat) : Int) := by omega
theorem mulN (a b : Nat) : (a : Int) * (b : Int) = ((a * b : Nat) : Int) := (Int.natCast_mul a b).symm
theorem addN (a b : Nat) : (a : Int) + (b : Int) = ((a + b : Nat) : Int) := (Int.natCast_add a b).symm
theorem wrapN (a : Nat) (ha : a < 18446744073709551616) : IntKind.u64.wrap (a : Int) = (a : Int) := by rw [IntKind.wrap_u64]; omega
theorem wrapM (a : Nat) : IntKind.u64.wrap (a : Int) = ((a % 18446744073709551616 : Nat) : Int) := by rw [IntKind.wrap_u64]; omega
end M64
set_option maxHeartbeats 1000000 in
theorem mul64_any (x y : Nat) (hx : x < 18446744073709551616) (hy : y < 18446744073709551616) (w : World) :
    Calls Tryz.prog 73 #[.int .u64 x, .int .u64 y] w fun e w' => e = .returned (.tuple #[.int .u64 ((x * y / 18446744073709551616 : Nat) : Int), .int .u64 ((x * y % 18446744073709551616 : Nat) : Int)]) ∧ w = w' := by
  obtain ⟨bd, bt, bw, hhi⟩ := Lib.mul64_hi x y hx hy
  have ba := Lib.half_mul_le (a := x / 4294967296) (b := y / 4294967296) (by omega) (by omega)
  have bb := Lib.half_mul_le (a := x / 4294967296) (b := y % 4294967296) (by omega) (by omega)
  have bc := Lib.half_mul_le (a := x % 4294967296) (b := y / 4294967296) (by omega) (by omega)
  have ba' : x / 4294967296 * (y / 4294967296) < 18446744073709551616 := by omega
  have bb' : x / 4294967296 * (y % 4294967296) < 18446744073709551616 := by omega
  have bc' : x % 4294967296 * (y / 4294967296) < 18446744073709551616 := by omega
  have bh1 : x / 4294967296 * (y / 4294967296) + (x / 4294967296 * (y % 4294967296) + x % 4294967296 * (y % 4294967296) / 4294967296) / 4294967296 < 18446744073709551616 := by omega
  have bh : x / 4294967296 * (y / 4294967296) + (x / 4294967296 * (y % 4294967296) + x % 4294967296 * (y % 4294967296) / 4294967296) / 4294967296 + ((x / 4294967296 * (y % 4294967296) + x % 4294967296 * (y % 4294967296) / 4294967296) % 4294967296 + x % 4294967296 * (y / 4294967296)) / 4294967296 < 18446744073709551616 := by omega
  go_enter Tryz.func73, Tryz.ntmps73
  go_wp2
  simp only [M64.maskN x hx, M64.maskN y hy, M64.divN, M64.mulN, M64.addN, M64.wrapN _ bd, M64.wrapN _ bb', M64.wrapN _ bt, M64.maskN _ bt, M64.wrapN _ bc', M64.wrapN _ bw, M64.wrapN _ ba', M64.wrapN _ bh1, M64.wrapN _ bh, M64.wrapM (x * y)]
  rw [hhi]
  go_ret2
  exact ⟨rfl, rfl⟩
set_option maxRecDepth 100000
theorem lead_base (w : World) : Calls Tryz.prog 140 #[.int .u64 1000000000000000000] w fun e w' => e = .returned (.int .i64 4) ∧ w = w' := by
  go_enter Tryz.func140, Tryz.ntmps140
  go_wp2
  go_ret
  exact ⟨by kernel_rfl, rfl⟩
theorem add64_run (x y : Int) (hx : 0 ≤ x) (hy : 0 ≤ y) (w : World) :
    (callFunc 77 #[.int .u64 x, .int .u64 y, .int .u64 0]).run Tryz.prog w =
      .ok (.value (.tuple #[.int .u64 ((x + y) % 18446744073709551616), .int .u64 ((x + y) / 18446744073709551616)])) w := by
  rw [run_callFunc_extern Tryz.func77 (by kernel_rfl) (by kernel_rfl) (by kernel_rfl) (e := add64Entry) (by kernel_rfl), run_add64 x y 0 hx hy (by omega) (by omega)]
  simp only [Result.andThen, Int.add_zero]
theorem or_low (hi lo : Int) (h0 : 0 ≤ hi) (h1 : hi < 1000000000000000000) (l0 : 0 ≤ lo) (l1 : lo < 18446744073709551616) :
    bits .or .u64 (hi * 16) (lo / 1152921504606846976) = hi * 16 + lo / 1152921504606846976 := by
  obtain ⟨a, rfl⟩ := Int.eq_ofNat_of_zero_le h0
  obtain ⟨b, hb⟩ := Int.eq_ofNat_of_zero_le (show 0 ≤ lo / 1152921504606846976 by omega)
  rw [hb]
  have h := bits_or_u64_nat (a * 16) b (by omega) (by omega)
  have e : a * 16 ||| b = a * 16 + b := by
    have := Nat.shiftLeft_add_eq_or_of_lt (show b < 2 ^ 4 by omega) a
    rw [Nat.shiftLeft_eq] at this
    exact this.symm
  rw [e] at h
  rw [show ((a : Int) * 16) = ((a * 16 : Nat) : Int) by omega, h]
  omega
theorem mask_low (V : Int) (h0 : 0 ≤ V) (h1 : V < 18446744073709551616) : bits .and .u64 V 4294967295 = V % 4294967296 := by
  obtain ⟨a, rfl⟩ := Int.eq_ofNat_of_zero_le h0
  rw [M64.maskN a (by omega)]
  omega
/-- The loop that mends the guess of one half of the quotient: what holds at its head; where it ends. -/
theorem guess_end {U V q r : Int} (h0 : 0 ≤ U) (h1 : U < 16000000000000000000) (v0 : 0 ≤ V) (v1 : V < 4294967296) (hq : q * 3725290298 + r = U) (hr : 0 ≤ r)
    (hQ : (U * 4294967296 + V) / 16000000000000000000 ≤ q) (ht : q * 1983905792 ≤ 4294967296 * r + V) : q = (U * 4294967296 + V) / 16000000000000000000 := by omega
theorem guess_down {U V q r : Int} (h0 : 0 ≤ U) (h1 : U < 16000000000000000000) (v0 : 0 ≤ V) (v1 : V < 4294967296) (hq : q * 3725290298 + r = U)
    (ht : 4294967296 ≤ q ∨ 4294967296 * r + V < q * 1983905792) : (U * 4294967296 + V) / 16000000000000000000 ≤ q - 1 := by omega
set_option maxRecDepth 100000
set_option maxHeartbeats 2000000 in
theorem div64_base (hi lo : Int) (h0 : 0 ≤ hi) (h1 : hi < 1000000000000000000) (l0 : 0 ≤ lo) (l1 : lo < 18446744073709551616) (w : World) :
    Calls Tryz.prog 109 #[.int .u64 hi, .int .u64 lo, .int .u64 1000000000000000000] w fun e w' => e = .returned (.tuple #[.int .u64 ((hi * 18446744073709551616 + lo) / 1000000000000000000), .int .u64 ((hi * 18446744073709551616 + lo) % 1000000000000000000)]) ∧ ∃ n, w' = w.drewN n := by
  by_cases hz : hi = 0
  · subst hz
    have e1 : (0 : Int) * 18446744073709551616 + lo = lo := by omega
    rw [e1]
    have hq0 : 0 ≤ lo / 1000000000000000000 := by omega
    have hr0 : 0 ≤ lo % 1000000000000000000 := by omega
    go_enter Tryz.func109, Tryz.ntmps109
    go_wp2
    go_quiet (fail)
    go_wp2
    go_ret2
    exact ⟨by simp, _, rfl⟩
  · have hz2 : (hi == 0) = false := by simpa using hz
    have hle : ¬ 1000000000000000000 ≤ hi := by omega
    clear hz
    obtain ⟨U, hU⟩ : ∃ U, U = hi * 16 + lo / 1152921504606846976 := ⟨_, rfl⟩
    obtain ⟨V, hV⟩ : ∃ V, V = lo * 16 % 18446744073709551616 := ⟨_, rfl⟩
    obtain ⟨V1, hV1⟩ : ∃ V1, V1 = V / 4294967296 := ⟨_, rfl⟩
    obtain ⟨V0, hV0⟩ : ∃ V0, V0 = V % 4294967296 := ⟨_, rfl⟩
    obtain ⟨Q, hQ⟩ : ∃ Q, Q = U / 3725290298 := ⟨_, rfl⟩
    have eor : bits .or .u64 (hi * 16) (lo / 1152921504606846976) = U := by rw [or_low hi lo h0 h1 l0 l1, hU]
    have ew : IntKind.u64.wrap (lo * 16) = V := by rw [IntKind.wrap_u64, hV]
    have bU0 : 0 ≤ U := by omega
    have bU1 : U < 16000000000000000000 := by omega
    have bV0 : 0 ≤ V := by omega
    have bV1 : V < 18446744073709551616 := by omega
    have b10 : 0 ≤ V1 := by omega
    have b11 : V1 < 4294967296 := by omega
    have b00 : 0 ≤ V0 := by omega
    have b01 : V0 < 4294967296 := by omega
    have bQ0 : 0 ≤ Q := by omega
    have bQ1 : Q ≤ 4294967297 := by omega
    have em : bits .and .u64 V 4294967295 = V0 := by rw [mask_low V bV0 bV1, hV0]
    have ed : V / 4294967296 = V1 := hV1.symm
    have ec : bits .and .u64 16000000000000000000 4294967295 = 1983905792 := by rw [mask_low _ (by omega) (by omega)]; rfl
    have eq : U / 3725290298 = Q := hQ.symm
    have HU := Lib.hid hU; have HV := Lib.hid hV; have HV1 := Lib.hid hV1; have HV0 := Lib.hid hV0; have HQ := Lib.hid hQ
    have bR0 : 0 ≤ U - Q * 3725290298 := by omega
    have bR1 : U - Q * 3725290298 < 3725290298 := by omega
    clear hU hV hV1 hV0 hQ
    go_enter Tryz.func109, Tryz.ntmps109
    go_upto_block 0 with (go_at_call 140; refine (lead_base _).mono ?_; rintro e w' ⟨rfl, rfl⟩)
    clear eq eor ew em ed ec
    go_cut [15] (fun v wx => v = .int .u64 ((U * 4294967296 + V1) / 16000000000000000000) ∧ w = wx)
    case first =>
      go_wp2_with fail
      go_loop [15, 16] (fun qv rv => ∃ q r : Int, qv = .int .u64 q ∧ rv = .int .u64 r ∧ 0 ≤ q ∧ q ≤ 4294967297 ∧ 0 ≤ r ∧ r < 4294967296 ∧ Hid (q * 3725290298 + r = U) ∧ Hid ((U * 4294967296 + V1) / 16000000000000000000 ≤ q)) (fun qv _ => (RowKit.intOf qv).toNat)
      case atStart => exact ⟨Q, U - Q * 3725290298, by rw [HQ.out], rfl, bQ0, bQ1, bR0, by omega, by show _ = _; omega, by have := HQ.out; show _ ≤ _; omega⟩
      case round =>
        obtain ⟨q, r, rfl, rfl, hq0, hq1, hr0, hr1, HQR, HLE⟩ := hrel
        by_cases hA : 4294967296 ≤ q
        · have hdn := guess_down bU0 bU1 b10 b11 HQR.out (Or.inl hA)
          have hqp : 1 ≤ q := by omega
          have HDN := Lib.hid hdn
          have HQ2 : Hid ((q - 1) * 3725290298 + (r + 3725290298) = U) := by have := HQR.out; show _ = _; omega
          clear hdn
          by_cases hB : 4294967296 ≤ r + 3725290298
          · have hend := guess_end bU0 bU1 b10 b11 HQ2.out (by omega) HDN.out (by omega)
            have HEND := Lib.hid hend
            clear hend
            go_wp2
            go_meet
            exact ⟨by rw [HEND.out], rfl⟩
          · go_wp2
            go_round
            case rel => exact ⟨q - 1, r + 3725290298, rfl, rfl, by omega, by omega, by omega, by omega, HQ2, HDN⟩
            case measure => simp [RowKit.intOf]; omega
        · by_cases hT : 4294967296 * r + V1 < q * 1983905792
          · have hdn := guess_down bU0 bU1 b10 b11 HQR.out (Or.inr hT)
            have hqp : 1 ≤ q := by omega
            have HDN := Lib.hid hdn
            have HQ2 : Hid ((q - 1) * 3725290298 + (r + 3725290298) = U) := by have := HQR.out; show _ = _; omega
            clear hdn
            by_cases hB : 4294967296 ≤ r + 3725290298
            · have hend := guess_end bU0 bU1 b10 b11 HQ2.out (by omega) HDN.out (by omega)
              have HEND := Lib.hid hend
              clear hend
              go_wp2
              go_meet
              exact ⟨by rw [HEND.out], rfl⟩
            · go_wp2
              go_round
              case rel => exact ⟨q - 1, r + 3725290298, rfl, rfl, by omega, by omega, by omega, by omega, HQ2, HDN⟩
              case measure => simp [RowKit.intOf]; omega
          · have hend := guess_end bU0 bU1 b10 b11 HQR.out hr0 HLE.out (by omega)
            have HEND := Lib.hid hend
            clear hend
            go_wp2
            go_meet
            exact ⟨by rw [HEND.out], rfl⟩
    case rest =>
      obtain ⟨rfl, rfl⟩ := hcut
      obtain ⟨P, hP⟩ : ∃ P, P = (U * 4294967296 + V1) / 16000000000000000000 := ⟨_, rfl⟩
      obtain ⟨T, hT⟩ : ∃ T, T = (U * 4294967296 + V1) % 16000000000000000000 := ⟨_, rfl⟩
      rw [← hP]
      have bP0 : 0 ≤ P := by omega
      have bP1 : P < 4294967296 := by omega
      have bT0 : 0 ≤ T := by omega
      have bT1 : T < 16000000000000000000 := by omega
      obtain ⟨Q2, hQ2⟩ : ∃ Q2, Q2 = T / 3725290298 := ⟨_, rfl⟩
      have cQ0 : 0 ≤ Q2 := by omega
      have cQ1 : Q2 ≤ 4294967297 := by omega
      have cR0 : 0 ≤ T - Q2 * 3725290298 := by omega
      have cR1 : T - Q2 * 3725290298 < 3725290298 := by omega
      obtain ⟨X1, hX1⟩ : ∃ X, X = IntKind.u64.wrap (U * 4294967296) := ⟨_, rfl⟩
      obtain ⟨X2, hX2⟩ : ∃ X, X = IntKind.u64.wrap (X1 + V1) := ⟨_, rfl⟩
      obtain ⟨X3, hX3⟩ : ∃ X, X = IntKind.u64.wrap (P * 16000000000000000000) := ⟨_, rfl⟩
      have e4 : IntKind.u64.wrap (X2 - X3) = T := by rw [hX2, hX3, hX1]; simp only [IntKind.wrap_u64]; omega
      have e1 := hX1.symm; have e2 := hX2.symm; have e3 := hX3.symm
      have hX1b : 0 ≤ X1 ∧ X1 < 18446744073709551616 := by rw [hX1]; simp only [IntKind.wrap_u64]; omega
      have hX2b : 0 ≤ X2 ∧ X2 < 18446744073709551616 := by rw [hX2]; simp only [IntKind.wrap_u64]; omega
      have hX3b : 0 ≤ X3 ∧ X3 < 18446744073709551616 := by rw [hX3]; simp only [IntKind.wrap_u64]; omega
      have HP := Lib.hid hP; have HT := Lib.hid hT; have HQ2e := Lib.hid hQ2
      clear hP hT hQ2 hX1 hX2 hX3
      go_upto_block 2 with fail
      clear e1 e2 e3 e4 hX1b hX2b hX3b
      go_cut [18] (fun v wx => v = .int .u64 ((T * 4294967296 + V0) / 16000000000000000000) ∧ w = wx)
      case first =>
        go_wp2_with fail
        go_loop [18, 16] (fun qv rv => ∃ q r : Int, qv = .int .u64 q ∧ rv = .int .u64 r ∧ 0 ≤ q ∧ q ≤ 4294967297 ∧ 0 ≤ r ∧ r < 4294967296 ∧ Hid (q * 3725290298 + r = T) ∧ Hid ((T * 4294967296 + V0) / 16000000000000000000 ≤ q)) (fun qv _ => (RowKit.intOf qv).toNat)
        case atStart => exact ⟨Q2, T - Q2 * 3725290298, by rw [HQ2e.out], by rw [HQ2e.out], cQ0, cQ1, cR0, by omega, by show _ = _; omega, by have := HQ2e.out; show _ ≤ _; omega⟩
        case round =>
          obtain ⟨q, r, rfl, rfl, hq0, hq1, hr0, hr1, HQR, HLE⟩ := hrel
          by_cases hA : 4294967296 ≤ q
          · have hdn := guess_down bT0 bT1 b00 b01 HQR.out (Or.inl hA)
            have hqp : 1 ≤ q := by omega
            have HDN := Lib.hid hdn
            have HQ2 : Hid ((q - 1) * 3725290298 + (r + 3725290298) = T) := by have := HQR.out; show _ = _; omega
            clear hdn
            by_cases hB : 4294967296 ≤ r + 3725290298
            · have hend := guess_end bT0 bT1 b00 b01 HQ2.out (by omega) HDN.out (by omega)
              have HEND := Lib.hid hend
              clear hend
              go_wp2
              go_meet
              exact ⟨by rw [HEND.out], rfl⟩
            · go_wp2
              go_round
              case rel => exact ⟨q - 1, r + 3725290298, rfl, rfl, by omega, by omega, by omega, by omega, HQ2, HDN⟩
              case measure => simp [RowKit.intOf]; omega
          · by_cases hT : 4294967296 * r + V0 < q * 1983905792
            · have hdn := guess_down bT0 bT1 b00 b01 HQR.out (Or.inr hT)
              have hqp : 1 ≤ q := by omega
              have HDN := Lib.hid hdn
              have HQ2 : Hid ((q - 1) * 3725290298 + (r + 3725290298) = T) := by have := HQR.out; show _ = _; omega
              clear hdn
              by_cases hB : 4294967296 ≤ r + 3725290298
              · have hend := guess_end bT0 bT1 b00 b01 HQ2.out (by omega) HDN.out (by omega)
                have HEND := Lib.hid hend
                clear hend
                go_wp2
                go_meet
                exact ⟨by rw [HEND.out], rfl⟩
              · go_wp2
                go_round
                case rel => exact ⟨q - 1, r + 3725290298, rfl, rfl, by omega, by omega, by omega, by omega, HQ2, HDN⟩
                case measure => simp [RowKit.intOf]; omega
            · have hend := guess_end bT0 bT1 b00 b01 HQR.out hr0 HLE.out (by omega)
              have HEND := Lib.hid hend
              clear hend
              go_wp2
              go_meet
              exact ⟨by rw [HEND.out], rfl⟩
      case rest =>
        obtain ⟨rfl, rfl⟩ := hcut
        obtain ⟨P2, hP2⟩ : ∃ P, P = (T * 4294967296 + V0) / 16000000000000000000 := ⟨_, rfl⟩
        obtain ⟨T2, hT2⟩ : ∃ T2, T2 = (T * 4294967296 + V0) % 16000000000000000000 := ⟨_, rfl⟩
        rw [← hP2]
        have cP0 : 0 ≤ P2 := by omega
        have cP1 : P2 < 4294967296 := by omega
        have cT0 : 0 ≤ T2 := by omega
        have cT1 : T2 < 16000000000000000000 := by omega
        obtain ⟨X1, hX1⟩ : ∃ X, X = IntKind.u64.wrap (T * 4294967296) := ⟨_, rfl⟩
        obtain ⟨X2, hX2⟩ : ∃ X, X = IntKind.u64.wrap (X1 + V0) := ⟨_, rfl⟩
        obtain ⟨X3, hX3⟩ : ∃ X, X = IntKind.u64.wrap (P2 * 16000000000000000000) := ⟨_, rfl⟩
        have e4 : IntKind.u64.wrap (X2 - X3) = T2 := by rw [hX2, hX3, hX1]; simp only [IntKind.wrap_u64]; omega
        have e1 := hX1.symm; have e2 := hX2.symm; have e3 := hX3.symm
        have hX1b : 0 ≤ X1 ∧ X1 < 18446744073709551616 := by rw [hX1]; simp only [IntKind.wrap_u64]; omega
        have hX2b : 0 ≤ X2 ∧ X2 < 18446744073709551616 := by rw [hX2]; simp only [IntKind.wrap_u64]; omega
        have hX3b : 0 ≤ X3 ∧ X3 < 18446744073709551616 := by rw [hX3]; simp only [IntKind.wrap_u64]; omega
        have hfin : P * 4294967296 + P2 = (hi * 18446744073709551616 + lo) / 1000000000000000000 ∧ T2 / 16 = (hi * 18446744073709551616 + lo) % 1000000000000000000 := by
          have a1 := HU.out; have a2 := HV.out; have a3 := HV1.out; have a4 := HV0.out; have a5 := HP.out; have a6 := HT.out
          omega
        obtain ⟨f1, f2⟩ := hfin
        have F1 := Lib.hid f1; have F2 := Lib.hid f2
        have bF : P * 4294967296 + P2 < 18446744073709551616 := by omega
        clear hP2 hT2 hX1 hX2 hX3 f1 f2
        go_wp2
        go_ret2
        exact ⟨by rw [F1.out, F2.out]; rfl, 0, rfl⟩
end Go.Proofs.YtljndllhmdpjlaaGreatDoor
namespace Go.Proofs.YtljndllhmdpjlaaGreatDoor
open Go.RowKit

theorem fits_out (neg : Bool) (A : Option Addr) (c : Nat) (xs : List Nat) (w : World) (hx : Nums w A xs) (hs : small B18 xs) (hl : xs.length ≤ 1048576) :
    Calls Tryz.prog 115 #[.bool neg, .slice A xs.length c] w (RetBigErr w (outV true (sgn neg (val B18 xs))) (outE true (sgn neg (val B18 xs)))) := by
  rcases Nat.lt_or_ge (val B18 xs) (B18 ^ 30) with h | h
  · rw [outV_ok (by rw [sgn_natAbs]; exact h), outE_ok (by rw [sgn_natAbs]; exact h)]; exact fits_yes neg A c xs w hx hs hl h
  · rw [outV_big (by rw [sgn_natAbs]; exact h), outE_big (by rw [sgn_natAbs]; exact h)]; exact fits_no neg A c xs w hx hs hl h
theorem mul_step {ys zs : List Nat} {k j u t C X : Nat} (hz : k + j < zs.length) (h : val B18 zs + B18 ^ (k + j) * u = C + B18 ^ k * (X * val B18 (ys.take j))) (ht : t = X * ys.getD j 0 + zs.getD (k + j) 0 + u) :
    val B18 (zs.set (k + j) (t % B18)) + B18 ^ (k + (j + 1)) * (t / B18) = C + B18 ^ k * (X * val B18 (ys.take (j + 1))) := by
  have h1 := val_set (b := B18) zs (k + j) (t % B18) hz
  have h2 : B18 ^ (k + (j + 1)) * (t / B18) = B18 ^ (k + j) * (B18 * (t / B18)) := by rw [← Nat.add_assoc, Nat.pow_succ, Nat.mul_assoc]
  have h3 : B18 ^ (k + j) * (t % B18) + B18 ^ (k + j) * (B18 * (t / B18)) = B18 ^ (k + j) * t := by rw [← Nat.mul_add, Nat.mod_add_div]
  have h4 : B18 ^ (k + j) * t = B18 ^ (k + j) * (X * ys.getD j 0) + B18 ^ (k + j) * zs.getD (k + j) 0 + B18 ^ (k + j) * u := by rw [ht, Nat.mul_add, Nat.mul_add]
  have h5 : B18 ^ k * (X * val B18 (ys.take (j + 1))) = B18 ^ k * (X * val B18 (ys.take j)) + B18 ^ (k + j) * (X * ys.getD j 0) := by
    rw [val_take_succ, Nat.mul_add, Nat.mul_add, Nat.pow_add, Nat.mul_left_comm X, Nat.mul_assoc (B18 ^ k)]
  omega
theorem mul_close {xs ys zs : List Nat} {k u : Nat} (hz : k + ys.length < zs.length) (h0 : zs.getD (k + ys.length) 0 = 0)
    (h : val B18 zs + B18 ^ (k + ys.length) * u = val B18 (xs.take k) * val B18 ys + B18 ^ k * (xs.getD k 0 * val B18 (ys.take ys.length))) :
    val B18 (zs.set (k + ys.length) u) = val B18 (xs.take (k + 1)) * val B18 ys := by
  have h1 := val_set (b := B18) zs (k + ys.length) u hz
  rw [h0, Nat.mul_zero, Nat.add_zero] at h1
  rw [h1, h, List.take_length, val_take_succ, Nat.add_mul, Nat.mul_assoc]

def ThreeB (w : World) (n1 n2 : Bool) (A B : Option Addr) (c d : Nat) (xs ys : List Nat) (b : World) : Prop :=
  Two w n1 n2 A B c d xs ys b ∧ (b.cell? ⟨w.heap.size + 1 + 1, 0, none⟩ = some (.bool false) ∧ b.cell? ⟨w.heap.size + 1 + 1, 1, none⟩ = some (.slice none 0 0) ∧ b.frozen? ⟨w.heap.size + 1 + 1, 0, none⟩ = false ∧ b.frozen? ⟨w.heap.size + 1 + 1, 1, none⟩ = false)
def threeB (w : World) (n1 n2 : Bool) (A B : Option Addr) (c d : Nat) (xs ys : List Nat) : World := (two w n1 n2 A B c d xs ys).alloc (.cells #[.bool false, .slice none 0 0] 41)
theorem threeB_below (w : World) (n1 n2 : Bool) (A B : Option Addr) (c d : Nat) (xs ys : List Nat) : Below w.heap.size w (threeB w n1 n2 A B c d xs ys) :=
  (two_below w n1 n2 A B c d xs ys).alloc (two_below w n1 n2 A B c d xs ys).size _
theorem threeB_size (w : World) (n1 n2 : Bool) (A B : Option Addr) (c d : Nat) (xs ys : List Nat) : (threeB w n1 n2 A B c d xs ys).heap.size = w.heap.size + 3 := by simp [threeB, two]
theorem threeB_since {w b : World} {n1 n2 : Bool} {A B : Option Addr} {c d : Nat} {xs ys : List Nat} (hx : Nums w A xs) (hy : Nums w B ys) (hb : Below (threeB w n1 n2 A B c d xs ys).heap.size (threeB w n1 n2 A B c d xs ys) b) : ThreeB w n1 n2 A B c d xs ys b := by
  have k : Below (two w n1 n2 A B c d xs ys).heap.size (two w n1 n2 A B c d xs ys) (threeB w n1 n2 A B c d xs ys) := (Below.refl _ _).alloc (Nat.le_refl _) _
  have Z : Blk (threeB w n1 n2 A B c d xs ys) (w.heap.size + 1 + 1) 41 #[.bool false, .slice none 0 0] := Blk.newAt (by simp [two])
  exact ⟨two_since hx hy (below_on k hb), (Z.below hb Z.lt).two⟩

section
variable (n1 n2 : Bool) (A B : Option Addr) (c d : Nat) (xs ys : List Nat) (w : World)
set_option maxRecDepth 100000
set_option maxHeartbeats 1000000 in
theorem mul_bad (hx : Nums w A xs) (hy : Nums w B ys) (hl : xs.length ≤ 9223372036854775807) (hl' : ys.length ≤ 9223372036854775807) (hok : (goodB n1 xs && goodB n2 ys) = false) :
    Calls Tryz.prog 84 #[.agg #[.bool n1, .slice A xs.length c], .agg #[.bool n2, .slice B ys.length d]] w (RetBigErr w 0 3) := by
  obtain ⟨W0, hW0⟩ : ∃ W0, W0 = threeB w n1 n2 A B c d xs ys := ⟨_, rfl⟩
  have LW : Below w.heap.size w W0 := by rw [hW0]; exact threeB_below ..
  have HWs : Hid (W0.heap.size = w.heap.size + 3) := by rw [hW0]; exact threeB_size ..
  have HF : Hid (∀ b1, Below W0.heap.size W0 b1 → ThreeB w n1 n2 A B c d xs ys b1) := fun b1 hb => by rw [hW0] at hb; exact threeB_since hx hy hb
  have hg1 := fun w hx => good_any n1 c w A xs hl hx
  have hg2 := fun w hy => good_any n2 d w B ys hl' hy
  clear hx hy
  unfold threeB two at hW0
  have L : Below W0.heap.size W0 W0 := Below.refl _ _
  obtain ⟨⟨⟨x0, x1, y0, y1⟩, hx, hy⟩, r0, r1, r2, r3⟩ := HF.out _ L
  go_enter Tryz.func84, Tryz.ntmps84
  cases h1 : goodB n1 xs
  · rw [h1] at hg1
    clear hok h1
    go_upto_region 1 with fail
    rw [← hW0]
    clear hW0
    go_wp2_with (go_at_call 76; refine (hg1 _ hx).mono ?_; rintro e w1 ⟨rfl, hb⟩; have L := below_on L hb; clear x0 x1 y0 y1 hx hy r0 r1 r2 r3 hb; obtain ⟨⟨⟨x0, x1, y0, y1⟩, hx, hy⟩, r0, r1, r2, r3⟩ := HF.out _ L)
    refine bodyPost_ret (v := .tuple #[.agg #[.bool false, .slice none 0 0], .int .i64 3]) (by simp [results, Tryz.results84, go_sem, r0, r1]) rfl ?_
    exact fin_zero (LW.trans (L.mono LW.size)) (by omega) _ _
  · rw [h1, Bool.true_and] at hok
    rw [h1] at hg1
    rw [hok] at hg2
    clear hok h1
    go_upto_region 1 with fail
    rw [← hW0]
    clear hW0
    go_wp2_with (go_at_call 76; refine (hg1 _ hx).mono ?_; rintro e w1 ⟨rfl, hb⟩; have L := below_on L hb; clear x0 x1 y0 y1 hx hy r0 r1 r2 r3 hb; obtain ⟨⟨⟨x0, x1, y0, y1⟩, hx, hy⟩, r0, r1, r2, r3⟩ := HF.out _ L; refine Hid.out ?_)
    refine Lib.hid ?_
    go_wp2_with (go_at_call 76; refine (hg2 _ hy).mono ?_; rintro e w1 ⟨rfl, hb⟩; have L := below_on L hb; clear x0 x1 y0 y1 hx hy r0 r1 r2 r3 hb; obtain ⟨⟨⟨x0, x1, y0, y1⟩, hx, hy⟩, r0, r1, r2, r3⟩ := HF.out _ L)
    refine bodyPost_ret (v := .tuple #[.agg #[.bool false, .slice none 0 0], .int .i64 3]) (by simp [results, Tryz.results84, go_sem, r0, r1]) rfl ?_
    exact fin_zero (LW.trans (L.mono LW.size)) (by omega) _ _

theorem mul_bound {p z u : Int} (p0 : 0 ≤ p) (p1 : p ≤ 999999999999999999 * 999999999999999999) (z0 : 0 ≤ z) (z1 : z < 1000000000000000000) (u0 : 0 ≤ u) (u1 : u < 1000000000000000000) :
    0 ≤ p / 18446744073709551616 ∧ p / 18446744073709551616 < 1000000000000000000 ∧
    (p / 18446744073709551616 + (p % 18446744073709551616 + z) / 18446744073709551616 + ((p % 18446744073709551616 + z) % 18446744073709551616 + u) / 18446744073709551616) * 18446744073709551616 + ((p % 18446744073709551616 + z) % 18446744073709551616 + u) % 18446744073709551616 = p + z + u ∧
    (p + z + u) / 1000000000000000000 < 1000000000000000000 ∧
    p / 18446744073709551616 + (p % 18446744073709551616 + z) / 18446744073709551616 + ((p % 18446744073709551616 + z) % 18446744073709551616 + u) / 18446744073709551616 < 1000000000000000000 := by
  refine ⟨by omega, by omega, by omega, by omega, by omega⟩
theorem val_rep (b n : Nat) : val b (List.replicate n 0) = 0 := by
  induction n with
  | zero => rfl
  | succ n ih => rw [List.replicate_succ, val, ih]; simp
theorem mul64_int (x y : Int) (h0 : 0 ≤ x) (h1 : x < 18446744073709551616) (k0 : 0 ≤ y) (k1 : y < 18446744073709551616) (w : World) :
    Calls Tryz.prog 73 #[.int .u64 x, .int .u64 y] w fun e w' => e = .returned (.tuple #[.int .u64 (x * y / 18446744073709551616), .int .u64 (x * y % 18446744073709551616)]) ∧ w' = w := by
  obtain ⟨a, rfl⟩ := Int.eq_ofNat_of_zero_le h0
  obtain ⟨b, rfl⟩ := Int.eq_ofNat_of_zero_le k0
  refine (mul64_any a b (by omega) (by omega) w).mono fun e w' h => ?_
  obtain ⟨rfl, rfl⟩ := h
  rw [← Int.natCast_mul]
  exact ⟨by congr 1, rfl⟩
theorem nth_mul_le {xs ys : List Nat} (hs : small B18 xs) (ht : small B18 ys) (k j : Nat) : 0 ≤ nth xs k * nth ys j ∧ nth xs k * nth ys j ≤ 999999999999999999 * 999999999999999999 := by
  have a0 := nth_nonneg xs k; have b0 := nth_nonneg ys j
  have a1 := nth_lt (by unfold B18; omega) hs k; have b1 := nth_lt (by unfold B18; omega) ht j
  rw [B18_eq] at a1 b1
  refine ⟨Int.mul_nonneg a0 b0, Int.mul_le_mul (by omega) (by omega) b0 (by omega)⟩
set_option maxHeartbeats 2000000 in
theorem mul_good (hx : Nums w A xs) (hy : Nums w B ys) (hg : goodB n1 xs = true) (hk : goodB n2 ys = true) :
    Calls Tryz.prog 84 #[.agg #[.bool n1, .slice A xs.length c], .agg #[.bool n2, .slice B ys.length d]] w (RetBigErr w (outV true (num n1 xs * num n2 ys)) (outE true (num n1 xs * num n2 ys))) := by
  obtain ⟨hs, _, hl, _⟩ := good_parts hg
  obtain ⟨ht, _, hl', _⟩ := good_parts hk
  have hprod : ∀ v, v = val B18 xs * val B18 ys → sgn (n1 != n2) v = num n1 xs * num n2 ys := fun v hv => by
    rw [hv, num_eq, num_eq]; unfold sgn; cases n1 <;> cases n2 <;> simp [Int.natCast_mul, Int.neg_mul, Int.mul_neg]
  have HP := Lib.hid hprod; have HS := Lib.hid hs; have HT := Lib.hid ht
  obtain ⟨q, hq⟩ : ∃ q, q = num n1 xs * num n2 ys := ⟨_, rfl⟩
  rw [← hq] at HP ⊢
  obtain ⟨W0, hW0⟩ : ∃ W0, W0 = threeB w n1 n2 A B c d xs ys := ⟨_, rfl⟩
  have LW : Below w.heap.size w W0 := by rw [hW0]; exact threeB_below ..
  have HWs : Hid (W0.heap.size = w.heap.size + 3) := by rw [hW0]; exact threeB_size ..
  have HF : Hid (∀ b1, Below W0.heap.size W0 b1 → ThreeB w n1 n2 A B c d xs ys b1) := fun b1 hb => by rw [hW0] at hb; exact threeB_since hx hy hb
  have hg1 := fun w hx => good_any n1 c w A xs (by omega) hx
  have hg2 := fun w hy => good_any n2 d w B ys (by omega) hy
  rw [hg] at hg1
  rw [hk] at hg2
  clear hx hy hq hprod hs ht hg hk
  unfold threeB two at hW0
  have L : Below W0.heap.size W0 W0 := Below.refl _ _
  obtain ⟨⟨⟨x0, x1, y0, y1⟩, hx, hy⟩, r0, r1, r2, r3⟩ := HF.out _ L
  go_enter Tryz.func84, Tryz.ntmps84
  go_upto_region 1 with fail
  rw [← hW0]
  clear hW0
  go_wp2_with (go_at_call 76; refine (hg1 _ hx).mono ?_; rintro e w1 ⟨rfl, hb⟩; have L := below_on L hb; clear x0 x1 y0 y1 hx hy r0 r1 r2 r3 hb; obtain ⟨⟨⟨x0, x1, y0, y1⟩, hx, hy⟩, r0, r1, r2, r3⟩ := HF.out _ L; refine Hid.out ?_)
  refine Lib.hid ?_
  go_wp2_with (go_at_call 76; refine (hg2 _ hy).mono ?_; rintro e w1 ⟨rfl, hb⟩; have L := below_on L hb; clear x0 x1 y0 y1 hx hy r0 r1 r2 r3 hb; obtain ⟨⟨⟨x0, x1, y0, y1⟩, hx, hy⟩, r0, r1, r2, r3⟩ := HF.out _ L; refine Hid.out ?_)
  refine Lib.hid ?_
  clear hg1 hg2
  obtain ⟨N, hN⟩ : ∃ N : Nat, N = xs.length + ys.length + 1 := ⟨_, rfl⟩
  have hmk := make64 N (by omega)
  have hNi : ((xs.length : Int) + (ys.length : Int) + 1) = (N : Int) := by omega
  have HN := Lib.hid hN
  have hNb : N ≤ 61 := by omega
  clear hN
  go_upto_region 4 with fail
  obtain ⟨g, hg⟩ : ∃ g, g = w1.heap.size := ⟨_, rfl⟩
  obtain ⟨W1, hW1⟩ : ∃ W1, W1 = w1.alloc (.cells (madeCells #[.int .u64 0] N) 22) := ⟨_, rfl⟩
  have k1 : Below w1.heap.size w1 W1 := by rw [hW1]; exact (Below.refl _ _).alloc (Nat.le_refl _) _
  have hrow : Row W1 g N (List.replicate N 0) := by
    have h := (Row.made w1 N).fill
    rw [← hW1, ← hg] at h
    simpa using h
  have hWg : W1.heap.size = g + 1 := by rw [hW1, hg]; simp
  have hgW : W0.heap.size ≤ g := by rw [hg]; exact L.size
  have L := below_on L k1
  rw [← hg, ← hW1]
  clear x0 x1 y0 y1 hx hy r0 r1 r2 r3 hmk hNi hg hW1 k1
  obtain ⟨⟨⟨x0, x1, y0, y1⟩, hx, hy⟩, r0, r1, r2, r3⟩ := HF.out _ L
  go_wp2_with fail
  clear x0 x1 y0 y1 hx hy r0 r1 r2 r3
  go_loopw [34] (fun iv wr => ∃ (k : Nat) (zs : List Nat), k ≤ xs.length ∧ iv = .int .i64 k ∧ Row wr g N zs ∧ zs.length = N ∧ small B18 zs ∧ Hid (val B18 zs = val B18 (xs.take k) * val B18 ys) ∧ Hid (∀ p, k + ys.length ≤ p → nth zs p = 0) ∧ Below W0.heap.size W0 wr) (fun iv _ => xs.length - (intOf iv).toNat)
  case atStart => exact ⟨0, List.replicate N 0, by omega, rfl, hrow, by simp, by intro x hx; rw [List.eq_of_mem_replicate hx]; unfold B18; omega, by show _ = _; rw [val_rep, List.take_zero]; simp [val], fun p _ => nth_replicate _ _, L⟩
  case round =>
    obtain ⟨k, zs, hk, rfl, hrw, hzl, hzs, HV, HZ, hbel⟩ := hrel
    obtain ⟨⟨⟨x0, x1, y0, y1⟩, hx, hy⟩, r0, r1, r2, r3⟩ := HF.out _ hbel
    by_cases hkn : k < xs.length
    · obtain ⟨wo, rfl⟩ : ∃ wo : World, wo = wr := ⟨_, rfl⟩
      have hm1 : (k : Int) < (xs.length : Int) := by omega
      have HX0 : Hid (val B18 zs + B18 ^ (k + 0) * (0 : Int).toNat = val B18 (xs.take k) * val B18 ys + B18 ^ k * (xs.getD k 0 * val B18 (ys.take 0))) := by
        show _ = _; rw [HV.out]; simp [val]
      go_wp2_with fail
      clear x0 x1 y0 y1 hx hy r0 r1 r2 r3
      go_loopw [8, 40] (fun cv jv wi => ∃ (j : Nat) (u : Int) (qs : List Nat), j ≤ ys.length ∧ jv = .int .i64 j ∧ cv = .int .u64 u ∧ 0 ≤ u ∧ u < 1000000000000000000 ∧ Row wi g N qs ∧ qs.length = N ∧ small B18 qs ∧
          Hid (val B18 qs + B18 ^ (k + j) * u.toNat = val B18 (xs.take k) * val B18 ys + B18 ^ k * (xs.getD k 0 * val B18 (ys.take j))) ∧ Hid (∀ p, k + ys.length ≤ p → nth qs p = 0) ∧ Below W0.heap.size W0 wi) (fun _ jv _ => ys.length - (intOf jv).toNat)
      case atStart => exact ⟨0, 0, zs, by omega, rfl, rfl, by omega, by omega, hrw, hzl, hzs, HX0, HZ, hbel⟩
      case round =>
        obtain ⟨j, u, qs, hj, rfl, rfl, hu0, hu1, hrq, hql, hqs, HQ, HZ2, hbel2⟩ := hrel
        obtain ⟨⟨⟨x0, x1, y0, y1⟩, hx, hy⟩, r0, r1, r2, r3⟩ := HF.out _ hbel2
        by_cases hjn : j < ys.length
        · have hN1 := HN.out
          obtain ⟨b, o, rfl, hb, hc⟩ := hx.2 (by omega)
          obtain ⟨b', o', rfl, hb', hc'⟩ := hy.2 (by omega)
          have hcx := hc k hkn
          have hcy := hc' j hjn
          have hcz := hrq.cell (j := k + j) (by omega)
          have hm2 : (j : Int) < (ys.length : Int) := by omega
          have hk0 : (0 : Int) ≤ (k : Int) := by omega
          have hj0 : (0 : Int) ≤ (j : Int) := by omega
          have hnx := nth_nonneg xs k; have hny := nth_nonneg ys j; have hnz := nth_nonneg qs (k + j)
          have hlx := nth_lt (by unfold B18; omega) HS.out k; have hly := nth_lt (by unfold B18; omega) HT.out j; have hlz := nth_lt (by unfold B18; omega) hqs (k + j)
          rw [B18_eq] at hlx hly hlz
          obtain ⟨p0, p1⟩ := nth_mul_le HS.out HT.out k j
          obtain ⟨P, hP⟩ : ∃ P, P = nth xs k * nth ys j := ⟨_, rfl⟩
          rw [← hP] at p0 p1
          obtain ⟨m1, m2, m3, m4, m5⟩ := mul_bound p0 p1 hnz hlz hu0 hu1
          have hmul := fun w => mul64_int (nth xs k) (nth ys j) hnx (by omega) hny (by omega) w
          rw [← hP] at hmul
          obtain ⟨h0, hh0⟩ : ∃ h0, h0 = P / 18446744073709551616 := ⟨_, rfl⟩
          obtain ⟨l0, hl0⟩ : ∃ l0, l0 = P % 18446744073709551616 := ⟨_, rfl⟩
          rw [← hh0, ← hl0] at hmul
          obtain ⟨l1, hl1⟩ : ∃ l1, l1 = (l0 + nth qs (k + j)) % 18446744073709551616 := ⟨_, rfl⟩
          obtain ⟨c1, hc1⟩ : ∃ c1, c1 = (l0 + nth qs (k + j)) / 18446744073709551616 := ⟨_, rfl⟩
          obtain ⟨l2, hl2⟩ : ∃ l2, l2 = (l1 + u) % 18446744073709551616 := ⟨_, rfl⟩
          obtain ⟨c2, hc2⟩ : ∃ c2, c2 = (l1 + u) / 18446744073709551616 := ⟨_, rfl⟩
          have b1 : 0 ≤ l0 := by omega
          have b2 : 0 ≤ l1 := by omega
          have b3 : 0 ≤ l2 ∧ l2 < 18446744073709551616 := by omega
          have b4 : 0 ≤ c1 := by omega
          have b5 : 0 ≤ c2 := by omega
          have ha1 : ∀ w, (callFunc 77 #[.int .u64 l0, .int .u64 (nth qs (k + j)), .int .u64 0]).run Tryz.prog w = .ok (.value (.tuple #[.int .u64 l1, .int .u64 c1])) w := fun w => by rw [add64_run l0 _ b1 hnz, hl1, hc1]
          have ha2 : ∀ w, (callFunc 77 #[.int .u64 l1, .int .u64 u, .int .u64 0]).run Tryz.prog w = .ok (.value (.tuple #[.int .u64 l2, .int .u64 c2])) w := fun w => by rw [add64_run l1 _ b2 hu0, hl2, hc2]
          rw [← hh0, ← hl0, ← hl1, ← hc1, ← hl2, ← hc2] at m3
          rw [← hh0, ← hl0, ← hl1, ← hc1, ← hc2] at m5
          rw [← hh0] at m1 m2
          have hdv := fun w => div64_base (h0 + c1 + c2) l2 (by omega) m5 b3.1 b3.2 w
          rw [m3] at hdv
          obtain ⟨T, hT⟩ : ∃ T, T = P + nth qs (k + j) + u := ⟨_, rfl⟩
          rw [← hT] at hdv m4
          obtain ⟨Q, hQ⟩ : ∃ Q, Q = T / 1000000000000000000 := ⟨_, rfl⟩
          obtain ⟨R, hR⟩ : ∃ R, R = T % 1000000000000000000 := ⟨_, rfl⟩
          rw [← hQ, ← hR] at hdv
          rw [← hQ] at m4
          have hQ0 : 0 ≤ Q := by omega
          have hR0 : 0 ≤ R := by omega
          have hR1 : R < 1000000000000000000 := by omega
          have HST : Hid (val B18 (qs.set (k + j) R.toNat) + B18 ^ (k + (j + 1)) * Q.toNat = val B18 (xs.take k) * val B18 ys + B18 ^ k * (xs.getD k 0 * val B18 (ys.take (j + 1)))) := by
            have hTn : T.toNat = xs.getD k 0 * ys.getD j 0 + qs.getD (k + j) 0 + u.toNat := by
              have e1 : P = ((xs.getD k 0 * ys.getD j 0 : Nat) : Int) := by rw [hP]; unfold nth; rw [← Int.natCast_mul]
              have e2 : nth qs (k + j) = ((qs.getD (k + j) 0 : Nat) : Int) := by unfold nth; rfl
              rw [hT, e1, e2]; omega
            have h := mul_step (zs := qs) (k := k) (j := j) (ys := ys) (by omega) HQ.out hTn
            have e3 : R.toNat = T.toNat % B18 := by rw [hR]; unfold B18; omega
            have e4 : Q.toNat = T.toNat / B18 := by rw [hQ]; unfold B18; omega
            show _ = _; rw [e3, e4]; exact h
          have hfz := hrq.frozen (k + j)
          have hkj : (k : Int) + (j : Int) < (N : Int) := by omega
          have hkj0 : (0 : Int) ≤ (k : Int) + (j : Int) := by omega
          have hw64 : IntKind.i64.wrap ((k : Int) + (j : Int)) = (k : Int) + (j : Int) := IntWalk.i64_in _ (by omega)
          clear hc hc' hP hh0 hl0 hl1 hc1 hl2 hc2 hT hQ hR m3 hN1 p0 p1
          go_wp2_with fail
          go_quiet ((go_at_call 73; exact Calls.quiet_of_same (hmul _)))
          go_wp2_with (go_at_call 109; refine (hdv _).mono ?_; rintro e w' ⟨rfl, nd, rfl⟩)
          go_roundw
          case rel => exact ⟨j + 1, Q, qs.set (k + j) R.toNat, by omega, by go_num, rfl, hQ0, m4, by first | exact (hrq.drewN _).setInt R hR0 (by omega) | exact ((hrq.drewN _).drewN _).setInt R hR0 (by omega), by rw [List.length_set]; exact hql, small_set hqs _ _ (by unfold B18; omega), HST,
            fun p hp => by rw [nth_set _ _ _ (by omega), if_neg (by omega)]; exact HZ2.out p hp, by first | exact (below_drewN hbel2 _).setCell hgW _ | exact (below_drewN (below_drewN hbel2 _) _).setCell hgW _⟩
          case measure => simp [intOf]; omega
        · obtain rfl : j = ys.length := by omega
          have hN1 := HN.out
          have hcz := hrq.cell (j := k + ys.length) (by omega)
          have hz0 : nth qs (k + ys.length) = 0 := HZ2.out _ (Nat.le_refl _)
          rw [hz0] at hcz
          have hfz := hrq.frozen (k + ys.length)
          have hm2 : ¬ (ys.length : Int) < (ys.length : Int) := by omega
          have hkj : (k : Int) + (ys.length : Int) < (N : Int) := by omega
          have hkj0 : (0 : Int) ≤ (k : Int) + (ys.length : Int) := by omega
          have hw64 : IntKind.i64.wrap ((k : Int) + (ys.length : Int)) = (k : Int) + (ys.length : Int) := IntWalk.i64_in _ (by omega)
          have hlq : k + ys.length < qs.length := by omega
          have HCL : Hid (val B18 (qs.set (k + ys.length) u.toNat) = val B18 (xs.take (k + 1)) * val B18 ys) := mul_close hlq (by unfold nth at hz0; omega) HQ.out
          clear hz0 hN1
          go_wp2_with fail
          go_roundw
          case rel => exact ⟨k + 1, qs.set (k + ys.length) u.toNat, by omega, by go_num, hrq.setInt u hu0 hlq, by rw [List.length_set]; exact hql, small_set hqs _ _ (by unfold B18; omega), HCL,
            fun p hp => by rw [nth_set _ _ _ hlq, if_neg (by omega)]; exact HZ2.out p (by omega), hbel2.setCell hgW _⟩
          case measure => simp [intOf]; omega
    · obtain rfl : k = xs.length := by omega
      have hm1 : ¬ (xs.length : Int) < (xs.length : Int) := by omega
      have hnum := hrw.nums hzl (small64 hzs)
      have hfit := fun w h => fits_out (n1 != n2) (some ⟨g, 0, none⟩) N zs w h hzs (by omega)
      have hval : sgn (n1 != n2) (val B18 zs) = q := HP.out _ (by rw [HV.out, List.take_length])
      rw [hval, hzl] at hfit
      clear hval
      go_wp2_with (go_at_call 115; refine (hfit _ hnum).mono ?_; rintro e w4 ⟨A4, c4, rfl, hown4, hb4⟩; have LB := hbel.trans (hb4.mono hbel.size); clear x0 x1 y0 y1 hx hy r0 r1 r2 r3; obtain ⟨⟨⟨x0, x1, y0, y1⟩, hx, hy⟩, r0, r1, r2, r3⟩ := HF.out _ LB)
      refine bodyPost_ret (v := .tuple #[.agg #[.bool (decide (outV true q < 0)), .slice A4 (limbs (outV true q)).length c4], .int .i64 (outE true q)]) (by simp [results, Tryz.results84, go_sem, r0, r1]) rfl ?_
      exact fin_big hown4 (LW.trans (LB.mono LW.size)) (by omega) (by have := HWs.out; have := hbel.size; omega) _ _
theorem mul_any (hx : Nums w A xs) (hy : Nums w B ys) (hl : xs.length ≤ 9223372036854775807) (hl' : ys.length ≤ 9223372036854775807) :
    Calls Tryz.prog 84 #[.agg #[.bool n1, .slice A xs.length c], .agg #[.bool n2, .slice B ys.length d]] w
      (RetBigErr w (outV (goodB n1 xs && goodB n2 ys) (num n1 xs * num n2 ys)) (outE (goodB n1 xs && goodB n2 ys) (num n1 xs * num n2 ys))) := by
  cases h : (goodB n1 xs && goodB n2 ys)
  · rw [outV_bad, outE_bad]; exact mul_bad n1 n2 A B c d xs ys w hx hy hl hl' h
  · obtain ⟨hg, hk⟩ := Bool.and_eq_true_iff.1 h
    exact mul_good n1 n2 A B c d xs ys w hx hy hg hk
end
end Go.Proofs.YtljndllhmdpjlaaGreatDoor
namespace Go.Proofs.YtljndllhmdpjlaaGreatDoor
open Go.RowKit
section
variable {i j : Int} (A B : Option Addr) (c d : Nat) (w : World) (hi : i.natAbs < B18 ^ 30) (hj : j.natAbs < B18 ^ 30) (hx : Nums w A (limbs i)) (hy : Nums w B (limbs j))
include hi
include hx
include hj hy
theorem mulI : Calls Tryz.prog 84 #[.agg #[.bool (decide (i < 0)), .slice A (limbs i).length c], .agg #[.bool (decide (j < 0)), .slice B (limbs j).length d]] w (RetBigErr w (outV true (i * j)) (outE true (i * j))) := by
  have h := mul_any (decide (i < 0)) (decide (j < 0)) A B c d (limbs i) (limbs j) w hx hy (by have := limbs_length hi; omega) (by have := limbs_length hj; omega)
  rwa [good_limbs hi, good_limbs hj, num_limbs, num_limbs] at h
theorem cmpI_ : Calls Tryz.prog 90 #[.agg #[.bool (decide (i < 0)), .slice A (limbs i).length c], .agg #[.bool (decide (j < 0)), .slice B (limbs j).length d]] w fun e w' => e = .returned (.int .i64 (cmpI i j)) ∧ Below w.heap.size w w' := by
  have h := cmp_any A B c d (limbs i) (limbs j) w (decide (i < 0)) (decide (j < 0)) hx hy (by have := limbs_length hi; omega) (by have := limbs_length hj; omega)
  rw [good_limbs hi, good_limbs hj, num_limbs, num_limbs] at h
  unfold cmpO at h
  exact h
end
theorem outE_zero {i : Int} (h : outE true i = 0) : i.natAbs < B18 ^ 30 := by
  unfold outE at h
  rw [if_pos rfl] at h
  split at h
  · assumption
  · cases h
end Go.Proofs.YtljndllhmdpjlaaGreatDoor
namespace Go.Proofs.YtljndllhmdpjlaaGreatDoor
open Go.RowKit
set_option maxRecDepth 100000
theorem retErr_zero {W w' : World} {f : Int} (hb : Below W.heap.size W w') : RetBigErr W 0 f (.returned (.tuple #[.agg #[.bool false, .slice none 0 0], .int .i64 f])) w' :=
  ⟨none, 0, by rw [limbs_zero]; rfl, by rw [limbs_zero]; exact Own.nil _ _, hb⟩
theorem own_apart {w : World} {base c g : Nat} {A : Option Addr} {xs : List Nat} {t : TypeId} {cs : Array Value} (h : Own w base A c xs) (hb : Blk w g t cs) (ht : 22 ≠ t) : Apart (Value.slice A xs.length c).ownBlock (some g) :=
  fun k e f => own_blk_ne h.1 hb ht (e.trans f.symm)
theorem Per.ownN {l : List (Option Nat)} {w : World} {base c : Nat} {A : Option Addr} {xs : List Nat} (h : Own w base A c xs) (hn : NotIn (Value.slice A xs.length c).ownBlock l) : Per (Mut l) w (fun b => Own b base A c xs) :=
  fun _ hb => ⟨owns_extN h.1 hb hn, h.2⟩
theorem Per.ownX {X : Nat → Prop} {w : World} {base c : Nat} {A : Option Addr} {xs : List Nat} (h : Own w base A c xs) (hx : ∀ k, X k → k < base) : Per X w (fun b => Own b base A c xs) := fun b hb => by
  have hb' : Ext (Mut [none]) w b ∨ True := Or.inr trivial
  refine ⟨?_, h.2⟩
  refine ⟨h.1.1, ?_⟩
  rcases h.1.2 with h2 | ⟨g, cap, cur, hv, hg, hh, r⟩
  · exact Or.inl h2
  · exact Or.inr ⟨g, cap, cur, hv, hg, (hb.block g (Array.getElem?_eq_some_iff.1 hh).1 (fun e => by have := hx g e; omega)).trans hh, r⟩
theorem cellAt_lt {w : World} {b o : Nat} {v : Value} (h : w.cell? ⟨b, o, none⟩ = some v) : b < w.heap.size := by
  unfold World.cell? at h
  simp only [] at h
  split at h
  · rename_i c t fr hh; exact (Array.getElem?_eq_some_iff.1 hh).1
  · cases h
theorem Per.cell0 {w : World} {g o : Nat} {v : Value} (h : w.cell? ⟨g, o, none⟩ = some v) : Per No w (fun b => b.cell? ⟨g, o, none⟩ = some v) := fun b hb => by
  have hlt : g < w.heap.size := cellAt_lt h
  show b.cell? ⟨g, o, none⟩ = some v
  rw [hb.cell (p := ⟨g, o, none⟩) hlt (fun e => e.elim)]; exact h
section
variable (n1 n2 : Bool) (A B : Option Addr) (c d : Nat) (xs ys : List Nat) (w : World)
end
section
variable (i j : Int) (A B : Option Addr) (c d : Nat) (w : World) (hi : i.natAbs < B18 ^ 30) (hj : j.natAbs < B18 ^ 30) (hx : Nums w A (limbs i)) (hy : Nums w B (limbs j))
include hi hj hx hy
theorem pow_zero (h0 : j = 0) : Calls Tryz.prog 83 #[.agg #[.bool (decide (i < 0)), .slice A (limbs i).length c], .agg #[.bool (decide (j < 0)), .slice B (limbs j).length d]] w (RetBigErr w 1 0) := by
  have hd : decide (j < 0) = false := by rw [h0]; rfl
  have hlen : (limbs j).length = 0 := by rw [h0, limbs_zero]; rfl
  refine calls_cw Tryz.func83 rfl Tryz.ntmps83 rfl ?_
  have HF : Per (No) w (fun _ => True) := Per.true_
  have LW := Ext.refl (No) w
  have XLW : ∀ q9, (No) q9 → (No) q9 ∨ w.heap.size ≤ q9 := fun _ h => Or.inl h
  have E := Ext.refl (No) w
  replace HF := HF.on E
  replace LW := LW.step E XLW
  replace E := Ext.refl (No) w
  replace HF := HF.and (Per.nums0 hx)
  replace HF := HF.on E
  replace LW := LW.step E XLW
  replace E := Ext.refl (No) w
  replace HF := HF.and (Per.nums0 hy)
  refine cw_seq ?_
  refine cw_region ?_
  refine rs_op rfl (ow_boxB rfl ?_)
  intro gb1 w2 Bb1 Eb1 Gb1
  have Gb1 : _ ≤ gb1 := Nat.le_trans E.size Gb1
  have GLb1 := Nat.le_trans LW.size Gb1
  replace E := E.trans Eb1.no
  clear Eb1
  replace HF := HF.cons (some_ge Gb1)
  replace E := E.cons (some gb1)
  replace XLW := Mut.grow XLW (fun k e => Or.inr (Nat.le_trans LW.size ((some_ge Gb1) k e)))
  replace HF := HF.on E
  replace LW := LW.step E XLW
  have SB : ∀ q9, No q9 → Mut [(some gb1)] q9 := (Mut.skip Mut.nil_)
  replace HF := HF.less SB
  replace XLW := fun k h => XLW k (SB k h)
  clear SB
  replace E := Ext.refl (No) w2
  replace HF := HF.and (Per.blkN Bb1 NotIn.nil)
  clear Bb1
  refine rs_op rfl (ow_boxB rfl ?_)
  intro gb3 w4 Bb3 Eb3 Gb3
  have Gb3 : _ ≤ gb3 := Nat.le_trans E.size Gb3
  have GLb3 := Nat.le_trans LW.size Gb3
  replace E := E.trans Eb3.no
  clear Eb3
  replace HF := HF.cons (some_ge Gb3)
  replace E := E.cons (some gb3)
  replace XLW := Mut.grow XLW (fun k e => Or.inr (Nat.le_trans LW.size ((some_ge Gb3) k e)))
  replace HF := HF.on E
  replace LW := LW.step E XLW
  have SB : ∀ q9, No q9 → Mut [(some gb3)] q9 := (Mut.skip Mut.nil_)
  replace HF := HF.less SB
  replace XLW := fun k h => XLW k (SB k h)
  clear SB
  replace E := Ext.refl (No) w4
  replace HF := HF.and (Per.blkN Bb3 NotIn.nil)
  clear Bb3
  refine rs_op rfl (ow_allocB zr41 ?_)
  intro gb5 w6 Bb5 Eb5 Gb5
  have Gb5 : _ ≤ gb5 := Nat.le_trans E.size Gb5
  have GLb5 := Nat.le_trans LW.size Gb5
  replace E := E.trans Eb5.no
  clear Eb5
  replace HF := HF.cons (some_ge Gb5)
  replace E := E.cons (some gb5)
  replace XLW := Mut.grow XLW (fun k e => Or.inr (Nat.le_trans LW.size ((some_ge Gb5) k e)))
  refine rs_op rfl (ow_assign rfl ?_)
  refine rs_nil ?_
  refine ew_next ?_
  refine cw_seq ?_
  refine cw_seq ?_
  refine cw_region ?_
  refine rs_op rfl (ow_loadB Tryz.underlying41 rfl sz41 rfl (HF.on E).here.1.2 rfl ?_)
  refine rs_op rfl (ow_enter en76 rfl ((goodI A c _ hi (HF.on E).here.1.1.1.2).mono ?_))
  rintro e w7 ⟨rfl, hb⟩
  refine ⟨_, rfl, ?_⟩
  have Ec := Ext.of_below hb No
  replace Bb5 := Bb5.extN Ec NotIn.nil
  replace E := E.trans Ec.no
  clear hb Ec
  refine rs_op rfl (ow_not rfl ?_)
  refine rs_op rfl (ow_move rfl ?_)
  refine rs_op rfl (ow_on rfl (ow_loadB Tryz.underlying41 rfl sz41 rfl (HF.on E).here.2 rfl ?_))
  refine rs_op rfl (ow_on rfl (ow_enter en76 rfl ((goodI B d _ hj (HF.on E).here.1.1.2).mono ?_)))
  rintro e w8 ⟨rfl, hb⟩
  refine ⟨_, rfl, ?_⟩
  have Ec := Ext.of_below hb No
  replace Bb5 := Bb5.extN Ec NotIn.nil
  replace E := E.trans Ec.no
  clear hb Ec
  refine rs_op rfl (ow_on rfl (ow_not rfl ?_))
  refine rs_op rfl (ow_pickF rfl rfl ?_)
  refine rs_nil ?_
  refine ew_next ?_
  refine cw_else rfl ?_
  refine cw_skip ?_
  refine ew_next ?_
  refine cw_seq ?_
  refine cw_seq ?_
  refine cw_region ?_
  refine rs_op rfl (ow_fieldAddr Tryz.underlying41 rfl sz4 (by decide) rfl ?_)
  refine rs_op rfl (ow_loadF Tryz.underlying4 rfl rfl (HF.on E).here.2 rfl ?_)
  refine rs_nil ?_
  refine ew_next ?_
  refine cw_set 19 (.bool false) rfl ((by rw [hd] : (.bool (decide (j < 0)) : Value) = _)) ?_
  refine cw_else rfl ?_
  refine cw_skip ?_
  refine ew_next ?_
  refine cw_seq ?_
  refine cw_region ?_
  refine rs_op rfl (ow_enter en82 rfl ((of_any 1 _ (by decide) (by decide)).mono ?_))
  rintro e w9 ⟨A1, c1, rfl, o1, hb⟩
  refine ⟨_, rfl, ?_⟩
  have XC : ∀ q9, (Mut [(some gb5)]) q9 → q9 < w8.heap.size := (Mut.grow Mut.none_ (some_lt Bb5.lt))
  have SC := Nat.le_trans LW.size E.size
  have Ec := Ext.of_below hb No
  replace Bb5 := Bb5.extN Ec NotIn.nil
  replace E := E.trans Ec.no
  clear hb Ec
  have S1 := SC
  replace HF := HF.on E
  replace LW := LW.step E XLW
  replace E := Ext.refl (Mut [(some gb5)]) w9
  replace HF := HF.and (Per.ownX o1 XC)
  refine rs_op rfl (ow_allocB zr41 ?_)
  intro gb10 w11 Bb10 Eb10 Gb10
  have Db10_b5 : Apart (some gb10) (some gb5) := Apart.of_lt (some_lt Bb5.lt) Gb10
  have Db5_b10 := Db10_b5.symm
  have Gb10 : _ ≤ gb10 := Nat.le_trans E.size Gb10
  have GLb10 := Nat.le_trans LW.size Gb10
  replace Bb5 := Bb5.extN Eb10 NotIn.nil
  replace E := E.trans Eb10.no
  clear Eb10
  replace HF := HF.cons (some_ge Gb10)
  replace E := E.cons (some gb10)
  replace XLW := Mut.grow XLW (fun k e => Or.inr (Nat.le_trans LW.size ((some_ge Gb10) k e)))
  refine rs_op0 (ow_storeM sz41 rfl rfl Bb10 rfl rfl (Nat.le_of_ble_eq_true rfl) ?_)
  intro w12 Bx Eb10
  replace Bb10 := Bx
  clear Bx
  replace Bb5 := Bb5.extN Eb10 (NotIn.cons Db5_b10 NotIn.nil)
  replace E := E.step1 Eb10 Mut.head
  clear Eb10
  refine rs_nil ?_
  refine ew_next ?_
  refine cw_seq ?_
  refine cw_seq ?_
  refine cw_region ?_
  refine rs_op rfl (ow_fieldAddr Tryz.underlying41 rfl sz39 (by decide) rfl ?_)
  refine rs_op rfl (ow_loadF Tryz.underlying39 rfl rfl (HF.on E).here.1.2 rfl ?_)
  refine rs_op rfl (ow_len Tryz.underlying39 rfl ?_)
  refine rs_op rfl (ow_eql rfl rfl ?_)
  refine rs_nil ?_
  refine ew_next ?_
  refine cw_set 25 (.bool true) rfl ((by rw [hlen]; rfl : (.bool (((((limbs j).length : Nat)) : Int) == 0) : Value) = _)) ?_
  refine cw_then rfl ?_
  refine cw_seq ?_
  refine cw_region ?_
  refine rs_op rfl (ow_loadB Tryz.underlying41 rfl sz41 rfl Bb10 rfl ?_)
  refine rs_op0 (ow_storeM sz41 rfl rfl Bb5 rfl rfl (Nat.le_of_ble_eq_true rfl) ?_)
  intro w13 Bx Eb5
  replace Bb5 := Bx
  clear Bx
  replace Bb10 := Bb10.extN Eb5 (NotIn.cons Db10_b5 NotIn.nil)
  replace E := E.step1 Eb5 (Mut.tail Mut.head)
  clear Eb5
  refine rs_op rfl (ow_assign rfl ?_)
  refine rs_nil ?_
  refine ew_next ?_
  refine cw_ret ?_
  refine ew_then_ret ?_
  refine ew_ret (rs := [.cell 4 41, .tmp 5]) (vs := [_, _]) rfl ⟨⟨_, rfl, res_box Tryz.underlying41 rfl sz41 Bb5 rfl⟩, rfl, trivial⟩ ?_
  exact ⟨A1, c1, rfl, ((HF.on E).here.2).mono S1, (LW.step E XLW).toBelow⟩
end
/-! ### what stands in the limbs -/
theorem nth_lim0 {j : Int} (h0 : j ≠ 0) : nth (limbs j) 0 = ((j.natAbs % B18 : Nat) : Int) := by
  unfold nth
  rw [limbs_eq, digs_step B18_two (by omega)]
  rfl
theorem lim_len1 {j : Int} (h0 : j ≠ 0) (h : j.natAbs < B18) : (limbs j).length = 1 := by
  rw [limbs_eq, digs_step B18_two (by omega), Nat.div_eq_of_lt h]; rfl
theorem lim_len2 {j : Int} (h : B18 ≤ j.natAbs) : 1 < (limbs j).length := by
  rcases Nat.lt_or_ge 1 (limbs j).length with h1 | h1
  · exact h1
  · have := (digs_length_le B18_two j.natAbs 1).1 (by rw [← limbs_eq]; exact h1)
    rw [Nat.pow_one] at this
    omega
theorem lim_pos {j : Int} (h0 : j ≠ 0) : 0 < (limbs j).length := by rw [limbs_eq]; exact digs_pos B18_two (by omega)
theorem pow_abs (i : Int) (n : Nat) : (i ^ n).natAbs = i.natAbs ^ n := Int.natAbs_pow i n
theorem pow_one_abs {i : Int} (h : i.natAbs = 1) (n : Nat) : i ^ n = if decide (i < 0) && decide (n % 2 = 1) then -1 else 1 := by
  rcases (by omega : i = 1 ∨ i = -1) with rfl | rfl
  · rw [Int.one_pow]; simp
  · have key : ∀ n : Nat, ((-1 : Int)) ^ n = if n % 2 = 1 then -1 else 1 := by
      intro n
      induction n with
      | zero => rfl
      | succ n ih => rw [Int.pow_succ, ih]; split <;> split <;> omega
    rw [key]; simp
theorem two_big {n : Nat} (hn : 1800 ≤ n) : B18 ^ 30 ≤ 2 ^ n := by
  have h1 : ∀ a b, a = 200 → b = 9 → B18 ^ 30 ≤ (2 ^ a) ^ b := by rintro _ _ rfl rfl; unfold B18; decide +kernel
  obtain ⟨a, b, ha, hb, hab⟩ : ∃ a b, a = 200 ∧ b = 9 ∧ a * b ≤ n := ⟨200, 9, rfl, rfl, hn⟩
  have h2 := h1 a b ha hb
  rw [← Nat.pow_mul] at h2
  exact Nat.le_trans h2 (Nat.pow_le_pow_right (by decide) hab)
theorem pow_range {i : Int} (h : 2 ≤ i.natAbs) {n : Nat} (hn : 1800 ≤ n) : B18 ^ 30 ≤ (i ^ n).natAbs := by
  rw [pow_abs]
  exact Nat.le_trans (two_big hn) (Nat.pow_le_pow_left h n)
theorem pow_mono {i : Int} (h : 1 ≤ i.natAbs) {k n : Nat} (hk : k ≤ n) : (i ^ k).natAbs ≤ (i ^ n).natAbs := by
  rw [pow_abs, pow_abs]; exact Nat.pow_le_pow_right h hk
theorem unit_val {i : Int} (hi1 : i.natAbs = 1) (n : Nat) (b : Bool) (hb : b = (decide (i < 0) && decide (n % 2 = 1))) : sgn b (val B18 (limbs i)) = i ^ n := by
  have hli : limbs i = [1] := by rw [limbs_eq, hi1]; rfl
  rw [pow_one_abs hi1, hli, ← hb]
  cases b <;> rfl
theorem unit_par {j : Int} (h0 : 0 < j) : (((j.natAbs % B18 : Nat) : Int).tmod 2 == 1) = decide (j.toNat % 2 = 1) := by
  have hpar : ((j.natAbs % B18 : Nat) : Int).tmod 2 = ((j.toNat % 2 : Nat) : Int) := by
    rw [Int.tmod_eq_emod_of_nonneg (by omega)]
    have e1 : (j.natAbs % B18) % 2 = j.natAbs % 2 := Nat.mod_mod_of_dvd _ (by unfold B18; decide)
    have e2 : j.natAbs = j.toNat := by omega
    rw [← e2, ← e1]
    omega
  rw [hpar, Bool.eq_iff_iff]
  simp
  omega
section
variable (i j : Int) (A B : Option Addr) (c d : Nat) (w : World) (hi : i.natAbs < B18 ^ 30) (hj : j.natAbs < B18 ^ 30) (hx : Nums w A (limbs i)) (hy : Nums w B (limbs j))
include hi hj hx hy
theorem pow_nought (h0 : 0 < j) (hi0 : i = 0) : Calls Tryz.prog 83 #[.agg #[.bool (decide (i < 0)), .slice A (limbs i).length c], .agg #[.bool (decide (j < 0)), .slice B (limbs j).length d]] w (RetBigErr w 0 0) := by
  have hd : decide (j < 0) = false := decide_eq_false (by omega)
  have hlen : ((limbs j).length : Int) ≠ 0 := by have := lim_pos (j := j) (by omega); omega
  have hdi : decide (i < 0) = false := by rw [hi0]; rfl
  have hli : limbs i = [] := by rw [hi0, limbs_zero]
  have hlz : ((limbs i).length : Int) = 0 := by rw [hli]; rfl
  refine calls_cw Tryz.func83 rfl Tryz.ntmps83 rfl ?_
  have HF : Per (No) w (fun _ => True) := Per.true_
  have LW := Ext.refl (No) w
  have XLW : ∀ q9, (No) q9 → (No) q9 ∨ w.heap.size ≤ q9 := fun _ h => Or.inl h
  have E := Ext.refl (No) w
  replace HF := HF.on E
  replace LW := LW.step E XLW
  replace E := Ext.refl (No) w
  replace HF := HF.and (Per.nums0 hx)
  replace HF := HF.on E
  replace LW := LW.step E XLW
  replace E := Ext.refl (No) w
  replace HF := HF.and (Per.nums0 hy)
  refine cw_seq ?_
  refine cw_region ?_
  refine rs_op rfl (ow_boxB rfl ?_)
  intro gb1 w2 Bb1 Eb1 Gb1
  have Gb1 : _ ≤ gb1 := Nat.le_trans E.size Gb1
  have GLb1 := Nat.le_trans LW.size Gb1
  replace E := E.trans Eb1.no
  clear Eb1
  replace HF := HF.cons (some_ge Gb1)
  replace E := E.cons (some gb1)
  replace XLW := Mut.grow XLW (fun k e => Or.inr (Nat.le_trans LW.size ((some_ge Gb1) k e)))
  replace HF := HF.on E
  replace LW := LW.step E XLW
  have SB : ∀ q9, No q9 → Mut [(some gb1)] q9 := (Mut.skip Mut.nil_)
  replace HF := HF.less SB
  replace XLW := fun k h => XLW k (SB k h)
  clear SB
  replace E := Ext.refl (No) w2
  replace HF := HF.and (Per.blkN Bb1 NotIn.nil)
  clear Bb1
  refine rs_op rfl (ow_boxB rfl ?_)
  intro gb3 w4 Bb3 Eb3 Gb3
  have Gb3 : _ ≤ gb3 := Nat.le_trans E.size Gb3
  have GLb3 := Nat.le_trans LW.size Gb3
  replace E := E.trans Eb3.no
  clear Eb3
  replace HF := HF.cons (some_ge Gb3)
  replace E := E.cons (some gb3)
  replace XLW := Mut.grow XLW (fun k e => Or.inr (Nat.le_trans LW.size ((some_ge Gb3) k e)))
  replace HF := HF.on E
  replace LW := LW.step E XLW
  have SB : ∀ q9, No q9 → Mut [(some gb3)] q9 := (Mut.skip Mut.nil_)
  replace HF := HF.less SB
  replace XLW := fun k h => XLW k (SB k h)
  clear SB
  replace E := Ext.refl (No) w4
  replace HF := HF.and (Per.blkN Bb3 NotIn.nil)
  clear Bb3
  refine rs_op rfl (ow_allocB zr41 ?_)
  intro gb5 w6 Bb5 Eb5 Gb5
  have Gb5 : _ ≤ gb5 := Nat.le_trans E.size Gb5
  have GLb5 := Nat.le_trans LW.size Gb5
  replace E := E.trans Eb5.no
  clear Eb5
  replace HF := HF.cons (some_ge Gb5)
  replace E := E.cons (some gb5)
  replace XLW := Mut.grow XLW (fun k e => Or.inr (Nat.le_trans LW.size ((some_ge Gb5) k e)))
  refine rs_op rfl (ow_assign rfl ?_)
  refine rs_nil ?_
  refine ew_next ?_
  refine cw_seq ?_
  refine cw_seq ?_
  refine cw_region ?_
  refine rs_op rfl (ow_loadB Tryz.underlying41 rfl sz41 rfl (HF.on E).here.1.2 rfl ?_)
  refine rs_op rfl (ow_enter en76 rfl ((goodI A c _ hi (HF.on E).here.1.1.1.2).mono ?_))
  rintro e w7 ⟨rfl, hb⟩
  refine ⟨_, rfl, ?_⟩
  have Ec := Ext.of_below hb No
  replace Bb5 := Bb5.extN Ec NotIn.nil
  replace E := E.trans Ec.no
  clear hb Ec
  refine rs_op rfl (ow_not rfl ?_)
  refine rs_op rfl (ow_move rfl ?_)
  refine rs_op rfl (ow_on rfl (ow_loadB Tryz.underlying41 rfl sz41 rfl (HF.on E).here.2 rfl ?_))
  refine rs_op rfl (ow_on rfl (ow_enter en76 rfl ((goodI B d _ hj (HF.on E).here.1.1.2).mono ?_)))
  rintro e w8 ⟨rfl, hb⟩
  refine ⟨_, rfl, ?_⟩
  have Ec := Ext.of_below hb No
  replace Bb5 := Bb5.extN Ec NotIn.nil
  replace E := E.trans Ec.no
  clear hb Ec
  refine rs_op rfl (ow_on rfl (ow_not rfl ?_))
  refine rs_op rfl (ow_pickF rfl rfl ?_)
  refine rs_nil ?_
  refine ew_next ?_
  refine cw_else rfl ?_
  refine cw_skip ?_
  refine ew_next ?_
  refine cw_seq ?_
  refine cw_seq ?_
  refine cw_region ?_
  refine rs_op rfl (ow_fieldAddr Tryz.underlying41 rfl sz4 (by decide) rfl ?_)
  refine rs_op rfl (ow_loadF Tryz.underlying4 rfl rfl (HF.on E).here.2 rfl ?_)
  refine rs_nil ?_
  refine ew_next ?_
  refine cw_set 19 (.bool false) rfl ((by rw [hd] : (.bool (decide (j < 0)) : Value) = _)) ?_
  refine cw_else rfl ?_
  refine cw_skip ?_
  refine ew_next ?_
  refine cw_seq ?_
  refine cw_region ?_
  refine rs_op rfl (ow_enter en82 rfl ((of_any 1 _ (by decide) (by decide)).mono ?_))
  rintro e w9 ⟨A1, c1, rfl, o1, hb⟩
  refine ⟨_, rfl, ?_⟩
  have Ec := Ext.of_below hb No
  replace Bb5 := Bb5.extN Ec NotIn.nil
  replace E := E.trans Ec.no
  clear hb Ec
  refine rs_op rfl (ow_allocB zr41 ?_)
  intro gb10 w11 Bb10 Eb10 Gb10
  have Db10_b5 : Apart (some gb10) (some gb5) := Apart.of_lt (some_lt Bb5.lt) Gb10
  have Db5_b10 := Db10_b5.symm
  have Gb10 : _ ≤ gb10 := Nat.le_trans E.size Gb10
  have GLb10 := Nat.le_trans LW.size Gb10
  replace Bb5 := Bb5.extN Eb10 NotIn.nil
  replace E := E.trans Eb10.no
  clear Eb10
  replace HF := HF.cons (some_ge Gb10)
  replace E := E.cons (some gb10)
  replace XLW := Mut.grow XLW (fun k e => Or.inr (Nat.le_trans LW.size ((some_ge Gb10) k e)))
  refine rs_op0 (ow_storeM sz41 rfl rfl Bb10 rfl rfl (Nat.le_of_ble_eq_true rfl) ?_)
  intro w12 Bx Eb10
  replace Bb10 := Bx
  clear Bx
  replace Bb5 := Bb5.extN Eb10 (NotIn.cons Db5_b10 NotIn.nil)
  replace E := E.step1 Eb10 Mut.head
  clear Eb10
  refine rs_nil ?_
  refine ew_next ?_
  refine cw_seq ?_
  refine cw_seq ?_
  refine cw_region ?_
  refine rs_op rfl (ow_fieldAddr Tryz.underlying41 rfl sz39 (by decide) rfl ?_)
  refine rs_op rfl (ow_loadF Tryz.underlying39 rfl rfl (HF.on E).here.2 rfl ?_)
  refine rs_op rfl (ow_len Tryz.underlying39 rfl ?_)
  refine rs_op rfl (ow_eql rfl rfl ?_)
  refine rs_nil ?_
  refine ew_next ?_
  refine cw_set 25 (.bool false) rfl ((by rw [beq_eq_false_iff_ne.2 hlen] : (.bool (((((limbs j).length : Nat)) : Int) == 0) : Value) = _)) ?_
  refine cw_else rfl ?_
  refine cw_skip ?_
  refine ew_next ?_
  refine cw_seq ?_
  refine cw_seq ?_
  refine cw_region ?_
  refine rs_op rfl (ow_fieldAddr Tryz.underlying41 rfl sz39 (by decide) rfl ?_)
  refine rs_op rfl (ow_loadF Tryz.underlying39 rfl rfl (HF.on E).here.1.2 rfl ?_)
  refine rs_op rfl (ow_len Tryz.underlying39 rfl ?_)
  refine rs_op rfl (ow_eql rfl rfl ?_)
  refine rs_op rfl (ow_move rfl ?_)
  refine rs_set 31 (.bool true) rfl ((by rw [hlz]; rfl : (.bool (((((limbs i).length : Nat)) : Int) == 0) : Value) = _)) ?_
  refine rs_op rfl (ow_off rfl ?_)
  refine rs_op rfl (ow_off rfl ?_)
  refine rs_op rfl (ow_off rfl ?_)
  refine rs_op rfl (ow_off rfl ?_)
  refine rs_op rfl (ow_off rfl ?_)
  refine rs_op rfl (ow_offU rfl rfl ?_)
  refine rs_op rfl (ow_offU rfl rfl ?_)
  refine rs_op rfl (ow_offU rfl rfl ?_)
  refine rs_op rfl (ow_offU rfl rfl ?_)
  refine rs_op rfl (ow_offU rfl rfl ?_)
  refine rs_op rfl (ow_off rfl ?_)
  refine rs_op rfl (ow_pickT rfl rfl ?_)
  refine rs_nil ?_
  refine ew_next ?_
  refine cw_then rfl ?_
  refine cw_seq ?_
  have OY : ∀ q9, (Mut (outM [⟨13, gb5, 41, #[.bool false, .slice none 0 0]⟩])) q9 → q9 < (World.drew w12).heap.size → (Mut [(some gb10), (some gb5)]) q9 := fun k h _ => ((Mut.grow Mut.none_ (Mut.tail Mut.head))) k h
  refine cw_drawn (Mut [(some gb10), (some gb5)]) (Mut.grow (Mut.grow Mut.none_ (some_lt Bb5.lt)) (some_lt Bb10.lt)) [] [⟨13, gb5, 41, #[.bool false, .slice none 0 0]⟩] (fxAt [Fx.of (.pointer (some ⟨gb1, 0, none⟩)),
      Fx.of (.bool false),
      Fx.of (.bool false),
      Fx.of undef,
      Fx.of undef,
      Fx.of undef,
      Fx.of undef,
      Fx.of undef,
      Fx.of undef,
      Fx.of (.bool false),
      Fx.of (.pointer (some ⟨gb1, 1, none⟩)),
      Fx.of (.slice A (limbs i).length c),
      ⟨(Option Addr × Nat), fun (A2, c2) => .agg #[.bool (decide (sgn false (val B18 (limbs i)) < 0)), .slice A2 (limbs (sgn false (val B18 (limbs i)))).length c2], fun (A2, c2) b => (Own b w.heap.size A2 c2 (limbs (sgn false (val B18 (limbs i)))))⟩,
      Fx.of undef,
      Fx.of (.int .i64 0)]) mixed rfl ⟨⟨(Mut.tail Mut.head) _ rfl, Bb5, fun _ h => by cases h⟩, trivial⟩ (by intro o ho; simp at ho; rcases ho with rfl <;> simp) ?_ ?_
  · refine ⟨?_, ?_, ?_, ?_, ?_, ?_, ?_, ?_, ?_, ?_, ?_, ?_, ?_, ?_, ?_, trivial⟩
    · intro vs X wq K
      have LE := K.1
      have XN := K.2.1
      have SQ := Nat.le_trans LW.size (Nat.le_trans E.size LE.size)
      exact ow_fieldAddr Tryz.underlying41 rfl sz4 (by decide) rfl ⟨Below.refl _ _, Left.of rfl⟩
    · intro vs X wq K
      have LE := K.1
      have XN := K.2.1
      have SQ := Nat.le_trans LW.size (Nat.le_trans E.size LE.size)
      obtain ⟨_, e0, k0⟩ := K.dep 0 rfl rfl rfl
      refine ow_set 44 (.pointer (some ⟨gb1, 0, none⟩)) rfl e0 ?_
      exact ow_loadF Tryz.underlying4 rfl rfl (HF.on (E.drew.trans (LE.mono OY))).here.1.2 rfl ⟨Below.refl _ _, Left.of ((by rw [hdi] : (.bool (decide (i < 0)) : Value) = _))⟩
    · intro vs X wq K
      have LE := K.1
      have XN := K.2.1
      have SQ := Nat.le_trans LW.size (Nat.le_trans E.size LE.size)
      obtain ⟨_, e1, k1⟩ := K.dep 1 rfl rfl rfl
      refine ow_set 45 (.bool false) rfl e1 ?_
      exact ow_move rfl ⟨Below.refl _ _, Left.of rfl⟩
    · intro vs X wq K
      have LE := K.1
      have XN := K.2.1
      have SQ := Nat.le_trans LW.size (Nat.le_trans E.size LE.size)
      obtain ⟨_, e2, k2⟩ := K.dep 2 rfl rfl rfl
      refine ow_set 46 (.bool false) rfl e2 ?_
      exact ow_off rfl ⟨Below.refl _ _, Left.of rfl⟩
    · intro vs X wq K
      have LE := K.1
      have XN := K.2.1
      have SQ := Nat.le_trans LW.size (Nat.le_trans E.size LE.size)
      obtain ⟨_, e3, k3⟩ := K.dep 3 rfl rfl rfl
      refine ow_set 47 (undef) rfl e3 ?_
      obtain ⟨_, e2, k2⟩ := K.dep 2 rfl rfl rfl
      refine ow_set 46 (.bool false) rfl e2 ?_
      exact ow_off rfl ⟨Below.refl _ _, Left.of rfl⟩
    · intro vs X wq K
      have LE := K.1
      have XN := K.2.1
      have SQ := Nat.le_trans LW.size (Nat.le_trans E.size LE.size)
      obtain ⟨_, e4, k4⟩ := K.dep 4 rfl rfl rfl
      refine ow_set 48 (undef) rfl e4 ?_
      obtain ⟨_, e2, k2⟩ := K.dep 2 rfl rfl rfl
      refine ow_set 46 (.bool false) rfl e2 ?_
      exact ow_off rfl ⟨Below.refl _ _, Left.of rfl⟩
    · intro vs X wq K
      have LE := K.1
      have XN := K.2.1
      have SQ := Nat.le_trans LW.size (Nat.le_trans E.size LE.size)
      obtain ⟨_, e5, k5⟩ := K.dep 5 rfl rfl rfl
      refine ow_set 49 (undef) rfl e5 ?_
      obtain ⟨_, e2, k2⟩ := K.dep 2 rfl rfl rfl
      refine ow_set 46 (.bool false) rfl e2 ?_
      exact ow_off rfl ⟨Below.refl _ _, Left.of rfl⟩
    · intro vs X wq K
      have LE := K.1
      have XN := K.2.1
      have SQ := Nat.le_trans LW.size (Nat.le_trans E.size LE.size)
      obtain ⟨_, e6, k6⟩ := K.dep 6 rfl rfl rfl
      refine ow_set 50 (undef) rfl e6 ?_
      obtain ⟨_, e2, k2⟩ := K.dep 2 rfl rfl rfl
      refine ow_set 46 (.bool false) rfl e2 ?_
      exact ow_off rfl ⟨Below.refl _ _, Left.of rfl⟩
    · intro vs X wq K
      have LE := K.1
      have XN := K.2.1
      have SQ := Nat.le_trans LW.size (Nat.le_trans E.size LE.size)
      obtain ⟨_, e7, k7⟩ := K.dep 7 rfl rfl rfl
      refine ow_set 51 (undef) rfl e7 ?_
      obtain ⟨_, e2, k2⟩ := K.dep 2 rfl rfl rfl
      refine ow_set 46 (.bool false) rfl e2 ?_
      exact ow_off rfl ⟨Below.refl _ _, Left.of rfl⟩
    · intro vs X wq K
      have LE := K.1
      have XN := K.2.1
      have SQ := Nat.le_trans LW.size (Nat.le_trans E.size LE.size)
      obtain ⟨_, e2, k2⟩ := K.dep 2 rfl rfl rfl
      refine ow_set 46 (.bool false) rfl e2 ?_
      obtain ⟨_, e8, k8⟩ := K.dep 8 rfl rfl rfl
      refine ow_set 52 (undef) rfl e8 ?_
      exact ow_pickF rfl rfl ⟨Below.refl _ _, Left.of rfl⟩
    · intro vs X wq K
      have LE := K.1
      have XN := K.2.1
      have SQ := Nat.le_trans LW.size (Nat.le_trans E.size LE.size)
      exact ow_fieldAddr Tryz.underlying41 rfl sz39 (by decide) rfl ⟨Below.refl _ _, Left.of rfl⟩
    · intro vs X wq K
      have LE := K.1
      have XN := K.2.1
      have SQ := Nat.le_trans LW.size (Nat.le_trans E.size LE.size)
      obtain ⟨_, e10, k10⟩ := K.dep 10 rfl rfl rfl
      refine ow_set 54 (.pointer (some ⟨gb1, 1, none⟩)) rfl e10 ?_
      exact ow_loadF Tryz.underlying39 rfl rfl (HF.on (E.drew.trans (LE.mono OY))).here.1.2 rfl ⟨Below.refl _ _, Left.of rfl⟩
    · intro vs X wq K
      have LE := K.1
      have XN := K.2.1
      have SQ := Nat.le_trans LW.size (Nat.le_trans E.size LE.size)
      obtain ⟨_, e9, k9⟩ := K.dep 9 rfl rfl rfl
      refine ow_set 53 (.bool false) rfl e9 ?_
      obtain ⟨_, e11, k11⟩ := K.dep 11 rfl rfl rfl
      refine ow_set 55 (.slice A (limbs i).length c) rfl e11 ?_
      refine ow_enter en114 rfl ((form_any false A c (limbs i) _ (HF.on (E.drew.trans (LE.mono OY))).here.1.1.1.2 (by rw [hli]; exact small_nil) (by rw [hli]; simp)).mono ?_)
      rintro e w2 ⟨A2, c2, rfl, o2, hb⟩
      exact ⟨_, rfl, hb, ⟨(A2, c2), rfl, (Per.ownX o2 XN).map (fun _ h => h.mono SQ)⟩⟩
    · refine ⟨_, _, _, _, _, rfl, rfl, sz41, fun vs X wq K => ⟨rfl, ?_⟩⟩
      obtain ⟨⟨A2, c2⟩, e0, _⟩ := K.dep 12 rfl rfl rfl
      exact ⟨vs 12, rfl, by rw [e0]; rfl, by rw [e0]; rfl⟩
    · intro vs X wq K
      have LE := K.1
      have XN := K.2.1
      have SQ := Nat.le_trans LW.size (Nat.le_trans E.size LE.size)
      exact ow_assign rfl ⟨Below.refl _ _, Left.of rfl⟩
  intro vs w13 LE AO AL AF AA
  have LBb10 := Bb10
  have LBb5 := Bb5
  replace Bb10 := Bb10.drew.extN LE (NotIn.cons Db10_b5 NotIn.nil)
  replace E := E.drew.trans (LE.mono OY)
  obtain ⟨⟨A2, c2⟩, e12, k12⟩ := AL.2.2.2.2.2.2.2.2.2.2.2.2.1
  obtain ⟨_, e14, k14⟩ := AL.2.2.2.2.2.2.2.2.2.2.2.2.2.2.1
  obtain ⟨v0, y0, Bx, ey, ev0⟩ := AO.1
  cases ey
  obtain rfl : vs 12 = v0 := Option.some.inj ev0
  rw [e12] at Bx
  replace Bb5 : Blk w13 gb5 41 #[.bool (decide (sgn false (val B18 (limbs i)) < 0)), .slice A2 (limbs (sgn false (val B18 (limbs i)))).length c2] := Bx
  clear Bx
  replace HF := HF.on E
  replace LW := LW.step E XLW
  replace E := Ext.refl (Mut [(some gb10), (some gb5)]) w13
  replace HF := HF.and ((k12.map (fun _ h => h) : Per (Mut [(some gb10), (some gb5)]) w13 (fun b => Own b w.heap.size A2 c2 (limbs (sgn false (val B18 (limbs i)))))))
  refine ew_sub (τ := [(2, _), (3, _), (4, _), (5, .int .i64 0), (6, _)]) ⟨rfl, rfl, rfl, congrArg some e14, rfl, trivial⟩ ?_
  clear AL AF AA LE AO OY e12 e14 k12 k14 LBb10 LBb5
  have e0 : sgn false (val B18 (limbs i)) = 0 := by rw [hli]; rfl
  refine ew_next ?_
  refine cw_ret ?_
  refine ew_then_ret ?_
  refine ew_ret (rs := [.cell 4 41, .tmp 5]) (vs := [_, _]) rfl ⟨⟨_, rfl, res_box Tryz.underlying41 rfl sz41 Bb5 rfl⟩, rfl, trivial⟩ ?_
  exact ⟨A2, c2, by rw [e0]; rfl, by rw [← e0]; exact (HF.on E).here.2, (LW.step E XLW).toBelow⟩
theorem pow_one (h0 : 0 < j) (hi1 : i.natAbs = 1) (hin : decide (i < 0) = false) : Calls Tryz.prog 83 #[.agg #[.bool (decide (i < 0)), .slice A (limbs i).length c], .agg #[.bool (decide (j < 0)), .slice B (limbs j).length d]] w (RetBigErr w (i ^ j.toNat) 0) := by
  have hv := unit_val hi1 j.toNat false (by rw [hin]; rfl)
  have hd : decide (j < 0) = false := decide_eq_false (by omega)
  have hjp := lim_pos (j := j) (by omega)
  have hlen : ((limbs j).length : Int) ≠ 0 := by omega
  have hli : limbs i = [1] := by rw [limbs_eq, hi1]; rfl
  have hl1 : ((limbs i).length : Int) = 1 := by rw [hli]; rfl
  obtain ⟨bx, ox, rfl, hbx, hcx⟩ := hx.2 (by rw [hli]; decide)
  obtain ⟨by_, oy, rfl, hby, hcy⟩ := hy.2 hjp
  have hc0 : w.cell? ⟨bx, ox + 0, none⟩ = some (.int .u64 1) := by rw [hcx 0 (by rw [hli]; decide), hli]; simp [nth]
  have hd0 : w.cell? ⟨by_, oy + 0, none⟩ = some (.int .u64 ((j.natAbs % B18 : Nat) : Int)) := by rw [hcy 0 hjp, nth_lim0 (by omega)]
  refine calls_cw Tryz.func83 rfl Tryz.ntmps83 rfl ?_
  have HF : Per (No) w (fun _ => True) := Per.true_
  have LW := Ext.refl (No) w
  have XLW : ∀ q9, (No) q9 → (No) q9 ∨ w.heap.size ≤ q9 := fun _ h => Or.inl h
  have E := Ext.refl (No) w
  replace HF := HF.on E
  replace LW := LW.step E XLW
  replace E := Ext.refl (No) w
  replace HF := HF.and (Per.nums0 hx)
  replace HF := HF.on E
  replace LW := LW.step E XLW
  replace E := Ext.refl (No) w
  replace HF := HF.and (Per.nums0 hy)
  replace HF := HF.on E
  replace LW := LW.step E XLW
  replace E := Ext.refl (No) w
  replace HF := HF.and (Per.cell0 hc0)
  replace HF := HF.on E
  replace LW := LW.step E XLW
  replace E := Ext.refl (No) w
  replace HF := HF.and (Per.cell0 hd0)
  refine cw_seq ?_
  refine cw_region ?_
  refine rs_op rfl (ow_boxB rfl ?_)
  intro gb1 w2 Bb1 Eb1 Gb1
  have Gb1 : _ ≤ gb1 := Nat.le_trans E.size Gb1
  have GLb1 := Nat.le_trans LW.size Gb1
  replace E := E.trans Eb1.no
  clear Eb1
  replace HF := HF.cons (some_ge Gb1)
  replace E := E.cons (some gb1)
  replace XLW := Mut.grow XLW (fun k e => Or.inr (Nat.le_trans LW.size ((some_ge Gb1) k e)))
  replace HF := HF.on E
  replace LW := LW.step E XLW
  have SB : ∀ q9, No q9 → Mut [(some gb1)] q9 := (Mut.skip Mut.nil_)
  replace HF := HF.less SB
  replace XLW := fun k h => XLW k (SB k h)
  clear SB
  replace E := Ext.refl (No) w2
  replace HF := HF.and (Per.blkN Bb1 NotIn.nil)
  clear Bb1
  refine rs_op rfl (ow_boxB rfl ?_)
  intro gb3 w4 Bb3 Eb3 Gb3
  have Gb3 : _ ≤ gb3 := Nat.le_trans E.size Gb3
  have GLb3 := Nat.le_trans LW.size Gb3
  replace E := E.trans Eb3.no
  clear Eb3
  replace HF := HF.cons (some_ge Gb3)
  replace E := E.cons (some gb3)
  replace XLW := Mut.grow XLW (fun k e => Or.inr (Nat.le_trans LW.size ((some_ge Gb3) k e)))
  replace HF := HF.on E
  replace LW := LW.step E XLW
  have SB : ∀ q9, No q9 → Mut [(some gb3)] q9 := (Mut.skip Mut.nil_)
  replace HF := HF.less SB
  replace XLW := fun k h => XLW k (SB k h)
  clear SB
  replace E := Ext.refl (No) w4
  replace HF := HF.and (Per.blkN Bb3 NotIn.nil)
  clear Bb3
  refine rs_op rfl (ow_allocB zr41 ?_)
  intro gb5 w6 Bb5 Eb5 Gb5
  have Gb5 : _ ≤ gb5 := Nat.le_trans E.size Gb5
  have GLb5 := Nat.le_trans LW.size Gb5
  replace E := E.trans Eb5.no
  clear Eb5
  replace HF := HF.cons (some_ge Gb5)
  replace E := E.cons (some gb5)
  replace XLW := Mut.grow XLW (fun k e => Or.inr (Nat.le_trans LW.size ((some_ge Gb5) k e)))
  refine rs_op rfl (ow_assign rfl ?_)
  refine rs_nil ?_
  refine ew_next ?_
  refine cw_seq ?_
  refine cw_seq ?_
  refine cw_region ?_
  refine rs_op rfl (ow_loadB Tryz.underlying41 rfl sz41 rfl (HF.on E).here.1.2 rfl ?_)
  refine rs_op rfl (ow_enter en76 rfl ((goodI _ c _ hi (HF.on E).here.1.1.1.1.1.2).mono ?_))
  rintro e w7 ⟨rfl, hb⟩
  refine ⟨_, rfl, ?_⟩
  have Ec := Ext.of_below hb No
  replace Bb5 := Bb5.extN Ec NotIn.nil
  replace E := E.trans Ec.no
  clear hb Ec
  refine rs_op rfl (ow_not rfl ?_)
  refine rs_op rfl (ow_move rfl ?_)
  refine rs_op rfl (ow_on rfl (ow_loadB Tryz.underlying41 rfl sz41 rfl (HF.on E).here.2 rfl ?_))
  refine rs_op rfl (ow_on rfl (ow_enter en76 rfl ((goodI _ d _ hj (HF.on E).here.1.1.1.1.2).mono ?_)))
  rintro e w8 ⟨rfl, hb⟩
  refine ⟨_, rfl, ?_⟩
  have Ec := Ext.of_below hb No
  replace Bb5 := Bb5.extN Ec NotIn.nil
  replace E := E.trans Ec.no
  clear hb Ec
  refine rs_op rfl (ow_on rfl (ow_not rfl ?_))
  refine rs_op rfl (ow_pickF rfl rfl ?_)
  refine rs_nil ?_
  refine ew_next ?_
  refine cw_else rfl ?_
  refine cw_skip ?_
  refine ew_next ?_
  refine cw_seq ?_
  refine cw_seq ?_
  refine cw_region ?_
  refine rs_op rfl (ow_fieldAddr Tryz.underlying41 rfl sz4 (by decide) rfl ?_)
  refine rs_op rfl (ow_loadF Tryz.underlying4 rfl rfl (HF.on E).here.2 rfl ?_)
  refine rs_nil ?_
  refine ew_next ?_
  refine cw_set 19 (.bool false) rfl ((by rw [hd] : (.bool (decide (j < 0)) : Value) = _)) ?_
  refine cw_else rfl ?_
  refine cw_skip ?_
  refine ew_next ?_
  refine cw_seq ?_
  refine cw_region ?_
  refine rs_op rfl (ow_enter en82 rfl ((of_any 1 _ (by decide) (by decide)).mono ?_))
  rintro e w9 ⟨A1, c1, rfl, o1, hb⟩
  refine ⟨_, rfl, ?_⟩
  have Ec := Ext.of_below hb No
  replace Bb5 := Bb5.extN Ec NotIn.nil
  replace E := E.trans Ec.no
  clear hb Ec
  refine rs_op rfl (ow_allocB zr41 ?_)
  intro gb10 w11 Bb10 Eb10 Gb10
  have Db10_b5 : Apart (some gb10) (some gb5) := Apart.of_lt (some_lt Bb5.lt) Gb10
  have Db5_b10 := Db10_b5.symm
  have Gb10 : _ ≤ gb10 := Nat.le_trans E.size Gb10
  have GLb10 := Nat.le_trans LW.size Gb10
  replace Bb5 := Bb5.extN Eb10 NotIn.nil
  replace E := E.trans Eb10.no
  clear Eb10
  replace HF := HF.cons (some_ge Gb10)
  replace E := E.cons (some gb10)
  replace XLW := Mut.grow XLW (fun k e => Or.inr (Nat.le_trans LW.size ((some_ge Gb10) k e)))
  refine rs_op0 (ow_storeM sz41 rfl rfl Bb10 rfl rfl (Nat.le_of_ble_eq_true rfl) ?_)
  intro w12 Bx Eb10
  replace Bb10 := Bx
  clear Bx
  replace Bb5 := Bb5.extN Eb10 (NotIn.cons Db5_b10 NotIn.nil)
  replace E := E.step1 Eb10 Mut.head
  clear Eb10
  refine rs_nil ?_
  refine ew_next ?_
  refine cw_seq ?_
  refine cw_seq ?_
  refine cw_region ?_
  refine rs_op rfl (ow_fieldAddr Tryz.underlying41 rfl sz39 (by decide) rfl ?_)
  refine rs_op rfl (ow_loadF Tryz.underlying39 rfl rfl (HF.on E).here.2 rfl ?_)
  refine rs_op rfl (ow_len Tryz.underlying39 rfl ?_)
  refine rs_op rfl (ow_eql rfl rfl ?_)
  refine rs_nil ?_
  refine ew_next ?_
  refine cw_set 25 (.bool false) rfl ((by rw [beq_eq_false_iff_ne.2 hlen] : (.bool (((((limbs j).length : Nat)) : Int) == 0) : Value) = _)) ?_
  refine cw_else rfl ?_
  refine cw_skip ?_
  refine ew_next ?_
  refine cw_seq ?_
  refine cw_seq ?_
  refine cw_region ?_
  refine rs_op rfl (ow_fieldAddr Tryz.underlying41 rfl sz39 (by decide) rfl ?_)
  refine rs_op rfl (ow_loadF Tryz.underlying39 rfl rfl (HF.on E).here.1.2 rfl ?_)
  refine rs_op rfl (ow_len Tryz.underlying39 rfl ?_)
  refine rs_op rfl (ow_eql rfl rfl ?_)
  refine rs_op rfl (ow_move rfl ?_)
  refine rs_set 31 (.bool false) rfl ((by rw [hl1]; rfl : (.bool (((((limbs i).length : Nat)) : Int) == 0) : Value) = _)) ?_
  refine rs_op rfl (ow_on rfl (ow_fieldAddr Tryz.underlying41 rfl sz39 (by decide) rfl ?_))
  refine rs_op rfl (ow_on rfl (ow_loadF Tryz.underlying39 rfl rfl (HF.on E).here.1.2 rfl ?_))
  refine rs_op rfl (ow_on rfl (ow_len Tryz.underlying39 rfl ?_))
  refine rs_op rfl (ow_on rfl (ow_eql rfl rfl ?_))
  refine rs_op rfl (ow_on rfl (ow_move rfl ?_))
  refine rs_set 36 (.bool true) rfl ((by rw [hl1]; rfl : (.bool (((((limbs i).length : Nat)) : Int) == 1) : Value) = _)) ?_
  refine rs_op rfl (ow_on rfl (ow_fieldAddr Tryz.underlying41 rfl sz39 (by decide) rfl ?_))
  refine rs_op rfl (ow_on rfl (ow_loadF Tryz.underlying39 rfl rfl (HF.on E).here.1.2 rfl ?_))
  refine rs_op rfl (ow_on rfl (ow_indexAddr1 (j := 0) Tryz.underlying39 sz22 rfl rfl rfl (by rw [hli]; decide) ?_))
  refine rs_op rfl (ow_on rfl (ow_load1 Tryz.underlying22 rfl rfl (HF.on E).here.1.1.1.2 ?_))
  refine rs_op rfl (ow_on rfl (ow_eql rfl rfl ?_))
  refine rs_op rfl (ow_on rfl (ow_pickT rfl rfl ?_))
  refine rs_op rfl (ow_pickF rfl rfl ?_)
  refine rs_nil ?_
  refine ew_next ?_
  refine cw_then rfl ?_
  refine cw_seq ?_
  have OY : ∀ q9, (Mut (outM [⟨13, gb5, 41, #[.bool false, .slice none 0 0]⟩])) q9 → q9 < (World.drew w12).heap.size → (Mut [(some gb10), (some gb5)]) q9 := fun k h _ => ((Mut.grow Mut.none_ (Mut.tail Mut.head))) k h
  refine cw_drawn (Mut [(some gb10), (some gb5)]) (Mut.grow (Mut.grow Mut.none_ (some_lt Bb5.lt)) (some_lt Bb10.lt)) [] [⟨13, gb5, 41, #[.bool false, .slice none 0 0]⟩] (fxAt [Fx.of (.pointer (some ⟨gb1, 0, none⟩)),
      Fx.of (.bool false),
      Fx.of (.bool false),
      Fx.of undef,
      Fx.of undef,
      Fx.of undef,
      Fx.of undef,
      Fx.of undef,
      Fx.of undef,
      Fx.of (.bool false),
      Fx.of (.pointer (some ⟨gb1, 1, none⟩)),
      Fx.of (.slice (some ⟨bx, ox, none⟩) (limbs i).length c),
      ⟨(Option Addr × Nat), fun (A2, c2) => .agg #[.bool (decide (sgn false (val B18 (limbs i)) < 0)), .slice A2 (limbs (sgn false (val B18 (limbs i)))).length c2], fun (A2, c2) b => (Own b w.heap.size A2 c2 (limbs (sgn false (val B18 (limbs i)))))⟩,
      Fx.of undef,
      Fx.of (.int .i64 0)]) mixed rfl ⟨⟨(Mut.tail Mut.head) _ rfl, Bb5, fun _ h => by cases h⟩, trivial⟩ (by intro o ho; simp at ho; rcases ho with rfl <;> simp) ?_ ?_
  · refine ⟨?_, ?_, ?_, ?_, ?_, ?_, ?_, ?_, ?_, ?_, ?_, ?_, ?_, ?_, ?_, trivial⟩
    · intro vs X wq K
      have LE := K.1
      have XN := K.2.1
      have SQ := Nat.le_trans LW.size (Nat.le_trans E.size LE.size)
      exact ow_fieldAddr Tryz.underlying41 rfl sz4 (by decide) rfl ⟨Below.refl _ _, Left.of rfl⟩
    · intro vs X wq K
      have LE := K.1
      have XN := K.2.1
      have SQ := Nat.le_trans LW.size (Nat.le_trans E.size LE.size)
      obtain ⟨_, e0, k0⟩ := K.dep 0 rfl rfl rfl
      refine ow_set 44 (.pointer (some ⟨gb1, 0, none⟩)) rfl e0 ?_
      exact ow_loadF Tryz.underlying4 rfl rfl (HF.on (E.drew.trans (LE.mono OY))).here.1.2 rfl ⟨Below.refl _ _, Left.of ((by rw [hin] : (.bool (decide (i < 0)) : Value) = _))⟩
    · intro vs X wq K
      have LE := K.1
      have XN := K.2.1
      have SQ := Nat.le_trans LW.size (Nat.le_trans E.size LE.size)
      obtain ⟨_, e1, k1⟩ := K.dep 1 rfl rfl rfl
      refine ow_set 45 (.bool false) rfl e1 ?_
      exact ow_move rfl ⟨Below.refl _ _, Left.of rfl⟩
    · intro vs X wq K
      have LE := K.1
      have XN := K.2.1
      have SQ := Nat.le_trans LW.size (Nat.le_trans E.size LE.size)
      obtain ⟨_, e2, k2⟩ := K.dep 2 rfl rfl rfl
      refine ow_set 46 (.bool false) rfl e2 ?_
      exact ow_off rfl ⟨Below.refl _ _, Left.of rfl⟩
    · intro vs X wq K
      have LE := K.1
      have XN := K.2.1
      have SQ := Nat.le_trans LW.size (Nat.le_trans E.size LE.size)
      obtain ⟨_, e3, k3⟩ := K.dep 3 rfl rfl rfl
      refine ow_set 47 (undef) rfl e3 ?_
      obtain ⟨_, e2, k2⟩ := K.dep 2 rfl rfl rfl
      refine ow_set 46 (.bool false) rfl e2 ?_
      exact ow_off rfl ⟨Below.refl _ _, Left.of rfl⟩
    · intro vs X wq K
      have LE := K.1
      have XN := K.2.1
      have SQ := Nat.le_trans LW.size (Nat.le_trans E.size LE.size)
      obtain ⟨_, e4, k4⟩ := K.dep 4 rfl rfl rfl
      refine ow_set 48 (undef) rfl e4 ?_
      obtain ⟨_, e2, k2⟩ := K.dep 2 rfl rfl rfl
      refine ow_set 46 (.bool false) rfl e2 ?_
      exact ow_off rfl ⟨Below.refl _ _, Left.of rfl⟩
    · intro vs X wq K
      have LE := K.1
      have XN := K.2.1
      have SQ := Nat.le_trans LW.size (Nat.le_trans E.size LE.size)
      obtain ⟨_, e5, k5⟩ := K.dep 5 rfl rfl rfl
      refine ow_set 49 (undef) rfl e5 ?_
      obtain ⟨_, e2, k2⟩ := K.dep 2 rfl rfl rfl
      refine ow_set 46 (.bool false) rfl e2 ?_
      exact ow_off rfl ⟨Below.refl _ _, Left.of rfl⟩
    · intro vs X wq K
      have LE := K.1
      have XN := K.2.1
      have SQ := Nat.le_trans LW.size (Nat.le_trans E.size LE.size)
      obtain ⟨_, e6, k6⟩ := K.dep 6 rfl rfl rfl
      refine ow_set 50 (undef) rfl e6 ?_
      obtain ⟨_, e2, k2⟩ := K.dep 2 rfl rfl rfl
      refine ow_set 46 (.bool false) rfl e2 ?_
      exact ow_off rfl ⟨Below.refl _ _, Left.of rfl⟩
    · intro vs X wq K
      have LE := K.1
      have XN := K.2.1
      have SQ := Nat.le_trans LW.size (Nat.le_trans E.size LE.size)
      obtain ⟨_, e7, k7⟩ := K.dep 7 rfl rfl rfl
      refine ow_set 51 (undef) rfl e7 ?_
      obtain ⟨_, e2, k2⟩ := K.dep 2 rfl rfl rfl
      refine ow_set 46 (.bool false) rfl e2 ?_
      exact ow_off rfl ⟨Below.refl _ _, Left.of rfl⟩
    · intro vs X wq K
      have LE := K.1
      have XN := K.2.1
      have SQ := Nat.le_trans LW.size (Nat.le_trans E.size LE.size)
      obtain ⟨_, e2, k2⟩ := K.dep 2 rfl rfl rfl
      refine ow_set 46 (.bool false) rfl e2 ?_
      obtain ⟨_, e8, k8⟩ := K.dep 8 rfl rfl rfl
      refine ow_set 52 (undef) rfl e8 ?_
      exact ow_pickF rfl rfl ⟨Below.refl _ _, Left.of rfl⟩
    · intro vs X wq K
      have LE := K.1
      have XN := K.2.1
      have SQ := Nat.le_trans LW.size (Nat.le_trans E.size LE.size)
      exact ow_fieldAddr Tryz.underlying41 rfl sz39 (by decide) rfl ⟨Below.refl _ _, Left.of rfl⟩
    · intro vs X wq K
      have LE := K.1
      have XN := K.2.1
      have SQ := Nat.le_trans LW.size (Nat.le_trans E.size LE.size)
      obtain ⟨_, e10, k10⟩ := K.dep 10 rfl rfl rfl
      refine ow_set 54 (.pointer (some ⟨gb1, 1, none⟩)) rfl e10 ?_
      exact ow_loadF Tryz.underlying39 rfl rfl (HF.on (E.drew.trans (LE.mono OY))).here.1.2 rfl ⟨Below.refl _ _, Left.of rfl⟩
    · intro vs X wq K
      have LE := K.1
      have XN := K.2.1
      have SQ := Nat.le_trans LW.size (Nat.le_trans E.size LE.size)
      obtain ⟨_, e9, k9⟩ := K.dep 9 rfl rfl rfl
      refine ow_set 53 (.bool false) rfl e9 ?_
      obtain ⟨_, e11, k11⟩ := K.dep 11 rfl rfl rfl
      refine ow_set 55 (.slice (some ⟨bx, ox, none⟩) (limbs i).length c) rfl e11 ?_
      refine ow_enter en114 rfl ((form_any false _ c (limbs i) _ (HF.on (E.drew.trans (LE.mono OY))).here.1.1.1.1.1.2 (limbs_small i) (by rw [hli]; decide)).mono ?_)
      rintro e w2 ⟨A2, c2, rfl, o2, hb⟩
      exact ⟨_, rfl, hb, ⟨(A2, c2), rfl, (Per.ownX o2 XN).map (fun _ h => h.mono SQ)⟩⟩
    · refine ⟨_, _, _, _, _, rfl, rfl, sz41, fun vs X wq K => ⟨rfl, ?_⟩⟩
      obtain ⟨⟨A2, c2⟩, e0, _⟩ := K.dep 12 rfl rfl rfl
      exact ⟨vs 12, rfl, by rw [e0]; rfl, by rw [e0]; rfl⟩
    · intro vs X wq K
      have LE := K.1
      have XN := K.2.1
      have SQ := Nat.le_trans LW.size (Nat.le_trans E.size LE.size)
      exact ow_assign rfl ⟨Below.refl _ _, Left.of rfl⟩
  intro vs w13 LE AO AL AF AA
  have LBb10 := Bb10
  have LBb5 := Bb5
  replace Bb10 := Bb10.drew.extN LE (NotIn.cons Db10_b5 NotIn.nil)
  replace E := E.drew.trans (LE.mono OY)
  obtain ⟨⟨A2, c2⟩, e12, k12⟩ := AL.2.2.2.2.2.2.2.2.2.2.2.2.1
  obtain ⟨_, e14, k14⟩ := AL.2.2.2.2.2.2.2.2.2.2.2.2.2.2.1
  obtain ⟨v0, y0, Bx, ey, ev0⟩ := AO.1
  cases ey
  obtain rfl : vs 12 = v0 := Option.some.inj ev0
  rw [e12] at Bx
  replace Bb5 : Blk w13 gb5 41 #[.bool (decide (sgn false (val B18 (limbs i)) < 0)), .slice A2 (limbs (sgn false (val B18 (limbs i)))).length c2] := Bx
  clear Bx
  replace HF := HF.on E
  replace LW := LW.step E XLW
  replace E := Ext.refl (Mut [(some gb10), (some gb5)]) w13
  replace HF := HF.and ((k12.map (fun _ h => h) : Per (Mut [(some gb10), (some gb5)]) w13 (fun b => Own b w.heap.size A2 c2 (limbs (sgn false (val B18 (limbs i)))))))
  refine ew_sub (τ := [(2, _), (3, _), (4, _), (5, .int .i64 0), (6, _)]) ⟨rfl, rfl, rfl, congrArg some e14, rfl, trivial⟩ ?_
  clear AL AF AA LE AO OY e12 e14 k12 k14 LBb10 LBb5
  refine ew_next ?_
  refine cw_ret ?_
  refine ew_then_ret ?_
  refine ew_ret (rs := [.cell 4 41, .tmp 5]) (vs := [_, _]) rfl ⟨⟨_, rfl, res_box Tryz.underlying41 rfl sz41 Bb5 rfl⟩, rfl, trivial⟩ ?_
  exact ⟨A2, c2, by rw [← hv]; rfl, by rw [← hv]; exact (HF.on E).here.2, (LW.step E XLW).toBelow⟩
theorem pow_mone (h0 : 0 < j) (hi1 : i.natAbs = 1) (hin : decide (i < 0) = true) : Calls Tryz.prog 83 #[.agg #[.bool (decide (i < 0)), .slice A (limbs i).length c], .agg #[.bool (decide (j < 0)), .slice B (limbs j).length d]] w (RetBigErr w (i ^ j.toNat) 0) := by
  have hv := unit_val hi1 j.toNat (decide (j.toNat % 2 = 1)) (by rw [hin, Bool.true_and])
  have hd : decide (j < 0) = false := decide_eq_false (by omega)
  have hjp := lim_pos (j := j) (by omega)
  have hlen : ((limbs j).length : Int) ≠ 0 := by omega
  have hli : limbs i = [1] := by rw [limbs_eq, hi1]; rfl
  have hl1 : ((limbs i).length : Int) = 1 := by rw [hli]; rfl
  obtain ⟨bx, ox, rfl, hbx, hcx⟩ := hx.2 (by rw [hli]; decide)
  obtain ⟨by_, oy, rfl, hby, hcy⟩ := hy.2 hjp
  have hc0 : w.cell? ⟨bx, ox + 0, none⟩ = some (.int .u64 1) := by rw [hcx 0 (by rw [hli]; decide), hli]; simp [nth]
  have hd0 : w.cell? ⟨by_, oy + 0, none⟩ = some (.int .u64 ((j.natAbs % B18 : Nat) : Int)) := by rw [hcy 0 hjp, nth_lim0 (by omega)]
  refine calls_cw Tryz.func83 rfl Tryz.ntmps83 rfl ?_
  have HF : Per (No) w (fun _ => True) := Per.true_
  have LW := Ext.refl (No) w
  have XLW : ∀ q9, (No) q9 → (No) q9 ∨ w.heap.size ≤ q9 := fun _ h => Or.inl h
  have E := Ext.refl (No) w
  replace HF := HF.on E
  replace LW := LW.step E XLW
  replace E := Ext.refl (No) w
  replace HF := HF.and (Per.nums0 hx)
  replace HF := HF.on E
  replace LW := LW.step E XLW
  replace E := Ext.refl (No) w
  replace HF := HF.and (Per.nums0 hy)
  replace HF := HF.on E
  replace LW := LW.step E XLW
  replace E := Ext.refl (No) w
  replace HF := HF.and (Per.cell0 hc0)
  replace HF := HF.on E
  replace LW := LW.step E XLW
  replace E := Ext.refl (No) w
  replace HF := HF.and (Per.cell0 hd0)
  refine cw_seq ?_
  refine cw_region ?_
  refine rs_op rfl (ow_boxB rfl ?_)
  intro gb1 w2 Bb1 Eb1 Gb1
  have Gb1 : _ ≤ gb1 := Nat.le_trans E.size Gb1
  have GLb1 := Nat.le_trans LW.size Gb1
  replace E := E.trans Eb1.no
  clear Eb1
  replace HF := HF.cons (some_ge Gb1)
  replace E := E.cons (some gb1)
  replace XLW := Mut.grow XLW (fun k e => Or.inr (Nat.le_trans LW.size ((some_ge Gb1) k e)))
  replace HF := HF.on E
  replace LW := LW.step E XLW
  have SB : ∀ q9, No q9 → Mut [(some gb1)] q9 := (Mut.skip Mut.nil_)
  replace HF := HF.less SB
  replace XLW := fun k h => XLW k (SB k h)
  clear SB
  replace E := Ext.refl (No) w2
  replace HF := HF.and (Per.blkN Bb1 NotIn.nil)
  clear Bb1
  refine rs_op rfl (ow_boxB rfl ?_)
  intro gb3 w4 Bb3 Eb3 Gb3
  have Gb3 : _ ≤ gb3 := Nat.le_trans E.size Gb3
  have GLb3 := Nat.le_trans LW.size Gb3
  replace E := E.trans Eb3.no
  clear Eb3
  replace HF := HF.cons (some_ge Gb3)
  replace E := E.cons (some gb3)
  replace XLW := Mut.grow XLW (fun k e => Or.inr (Nat.le_trans LW.size ((some_ge Gb3) k e)))
  replace HF := HF.on E
  replace LW := LW.step E XLW
  have SB : ∀ q9, No q9 → Mut [(some gb3)] q9 := (Mut.skip Mut.nil_)
  replace HF := HF.less SB
  replace XLW := fun k h => XLW k (SB k h)
  clear SB
  replace E := Ext.refl (No) w4
  replace HF := HF.and (Per.blkN Bb3 NotIn.nil)
  clear Bb3
  refine rs_op rfl (ow_allocB zr41 ?_)
  intro gb5 w6 Bb5 Eb5 Gb5
  have Gb5 : _ ≤ gb5 := Nat.le_trans E.size Gb5
  have GLb5 := Nat.le_trans LW.size Gb5
  replace E := E.trans Eb5.no
  clear Eb5
  replace HF := HF.cons (some_ge Gb5)
  replace E := E.cons (some gb5)
  replace XLW := Mut.grow XLW (fun k e => Or.inr (Nat.le_trans LW.size ((some_ge Gb5) k e)))
  refine rs_op rfl (ow_assign rfl ?_)
  refine rs_nil ?_
  refine ew_next ?_
  refine cw_seq ?_
  refine cw_seq ?_
  refine cw_region ?_
  refine rs_op rfl (ow_loadB Tryz.underlying41 rfl sz41 rfl (HF.on E).here.1.2 rfl ?_)
  refine rs_op rfl (ow_enter en76 rfl ((goodI _ c _ hi (HF.on E).here.1.1.1.1.1.2).mono ?_))
  rintro e w7 ⟨rfl, hb⟩
  refine ⟨_, rfl, ?_⟩
  have Ec := Ext.of_below hb No
  replace Bb5 := Bb5.extN Ec NotIn.nil
  replace E := E.trans Ec.no
  clear hb Ec
  refine rs_op rfl (ow_not rfl ?_)
  refine rs_op rfl (ow_move rfl ?_)
  refine rs_op rfl (ow_on rfl (ow_loadB Tryz.underlying41 rfl sz41 rfl (HF.on E).here.2 rfl ?_))
  refine rs_op rfl (ow_on rfl (ow_enter en76 rfl ((goodI _ d _ hj (HF.on E).here.1.1.1.1.2).mono ?_)))
  rintro e w8 ⟨rfl, hb⟩
  refine ⟨_, rfl, ?_⟩
  have Ec := Ext.of_below hb No
  replace Bb5 := Bb5.extN Ec NotIn.nil
  replace E := E.trans Ec.no
  clear hb Ec
  refine rs_op rfl (ow_on rfl (ow_not rfl ?_))
  refine rs_op rfl (ow_pickF rfl rfl ?_)
  refine rs_nil ?_
  refine ew_next ?_
  refine cw_else rfl ?_
  refine cw_skip ?_
  refine ew_next ?_
  refine cw_seq ?_
  refine cw_seq ?_
  refine cw_region ?_
  refine rs_op rfl (ow_fieldAddr Tryz.underlying41 rfl sz4 (by decide) rfl ?_)
  refine rs_op rfl (ow_loadF Tryz.underlying4 rfl rfl (HF.on E).here.2 rfl ?_)
  refine rs_nil ?_
  refine ew_next ?_
  refine cw_set 19 (.bool false) rfl ((by rw [hd] : (.bool (decide (j < 0)) : Value) = _)) ?_
  refine cw_else rfl ?_
  refine cw_skip ?_
  refine ew_next ?_
  refine cw_seq ?_
  refine cw_region ?_
  refine rs_op rfl (ow_enter en82 rfl ((of_any 1 _ (by decide) (by decide)).mono ?_))
  rintro e w9 ⟨A1, c1, rfl, o1, hb⟩
  refine ⟨_, rfl, ?_⟩
  have Ec := Ext.of_below hb No
  replace Bb5 := Bb5.extN Ec NotIn.nil
  replace E := E.trans Ec.no
  clear hb Ec
  refine rs_op rfl (ow_allocB zr41 ?_)
  intro gb10 w11 Bb10 Eb10 Gb10
  have Db10_b5 : Apart (some gb10) (some gb5) := Apart.of_lt (some_lt Bb5.lt) Gb10
  have Db5_b10 := Db10_b5.symm
  have Gb10 : _ ≤ gb10 := Nat.le_trans E.size Gb10
  have GLb10 := Nat.le_trans LW.size Gb10
  replace Bb5 := Bb5.extN Eb10 NotIn.nil
  replace E := E.trans Eb10.no
  clear Eb10
  replace HF := HF.cons (some_ge Gb10)
  replace E := E.cons (some gb10)
  replace XLW := Mut.grow XLW (fun k e => Or.inr (Nat.le_trans LW.size ((some_ge Gb10) k e)))
  refine rs_op0 (ow_storeM sz41 rfl rfl Bb10 rfl rfl (Nat.le_of_ble_eq_true rfl) ?_)
  intro w12 Bx Eb10
  replace Bb10 := Bx
  clear Bx
  replace Bb5 := Bb5.extN Eb10 (NotIn.cons Db5_b10 NotIn.nil)
  replace E := E.step1 Eb10 Mut.head
  clear Eb10
  refine rs_nil ?_
  refine ew_next ?_
  refine cw_seq ?_
  refine cw_seq ?_
  refine cw_region ?_
  refine rs_op rfl (ow_fieldAddr Tryz.underlying41 rfl sz39 (by decide) rfl ?_)
  refine rs_op rfl (ow_loadF Tryz.underlying39 rfl rfl (HF.on E).here.2 rfl ?_)
  refine rs_op rfl (ow_len Tryz.underlying39 rfl ?_)
  refine rs_op rfl (ow_eql rfl rfl ?_)
  refine rs_nil ?_
  refine ew_next ?_
  refine cw_set 25 (.bool false) rfl ((by rw [beq_eq_false_iff_ne.2 hlen] : (.bool (((((limbs j).length : Nat)) : Int) == 0) : Value) = _)) ?_
  refine cw_else rfl ?_
  refine cw_skip ?_
  refine ew_next ?_
  refine cw_seq ?_
  refine cw_seq ?_
  refine cw_region ?_
  refine rs_op rfl (ow_fieldAddr Tryz.underlying41 rfl sz39 (by decide) rfl ?_)
  refine rs_op rfl (ow_loadF Tryz.underlying39 rfl rfl (HF.on E).here.1.2 rfl ?_)
  refine rs_op rfl (ow_len Tryz.underlying39 rfl ?_)
  refine rs_op rfl (ow_eql rfl rfl ?_)
  refine rs_op rfl (ow_move rfl ?_)
  refine rs_set 31 (.bool false) rfl ((by rw [hl1]; rfl : (.bool (((((limbs i).length : Nat)) : Int) == 0) : Value) = _)) ?_
  refine rs_op rfl (ow_on rfl (ow_fieldAddr Tryz.underlying41 rfl sz39 (by decide) rfl ?_))
  refine rs_op rfl (ow_on rfl (ow_loadF Tryz.underlying39 rfl rfl (HF.on E).here.1.2 rfl ?_))
  refine rs_op rfl (ow_on rfl (ow_len Tryz.underlying39 rfl ?_))
  refine rs_op rfl (ow_on rfl (ow_eql rfl rfl ?_))
  refine rs_op rfl (ow_on rfl (ow_move rfl ?_))
  refine rs_set 36 (.bool true) rfl ((by rw [hl1]; rfl : (.bool (((((limbs i).length : Nat)) : Int) == 1) : Value) = _)) ?_
  refine rs_op rfl (ow_on rfl (ow_fieldAddr Tryz.underlying41 rfl sz39 (by decide) rfl ?_))
  refine rs_op rfl (ow_on rfl (ow_loadF Tryz.underlying39 rfl rfl (HF.on E).here.1.2 rfl ?_))
  refine rs_op rfl (ow_on rfl (ow_indexAddr1 (j := 0) Tryz.underlying39 sz22 rfl rfl rfl (by rw [hli]; decide) ?_))
  refine rs_op rfl (ow_on rfl (ow_load1 Tryz.underlying22 rfl rfl (HF.on E).here.1.1.1.2 ?_))
  refine rs_op rfl (ow_on rfl (ow_eql rfl rfl ?_))
  refine rs_op rfl (ow_on rfl (ow_pickT rfl rfl ?_))
  refine rs_op rfl (ow_pickF rfl rfl ?_)
  refine rs_nil ?_
  refine ew_next ?_
  refine cw_then rfl ?_
  refine cw_seq ?_
  have OY : ∀ q9, (Mut (outM [⟨13, gb5, 41, #[.bool false, .slice none 0 0]⟩])) q9 → q9 < (World.drew w12).heap.size → (Mut [(some gb10), (some gb5)]) q9 := fun k h _ => ((Mut.grow Mut.none_ (Mut.tail Mut.head))) k h
  refine cw_drawn (Mut [(some gb10), (some gb5)]) (Mut.grow (Mut.grow Mut.none_ (some_lt Bb5.lt)) (some_lt Bb10.lt)) [] [⟨13, gb5, 41, #[.bool false, .slice none 0 0]⟩] (fxAt [Fx.of (.pointer (some ⟨gb1, 0, none⟩)),
      Fx.of (.bool true),
      Fx.of (.bool true),
      Fx.of (.pointer (some ⟨gb3, 1, none⟩)),
      Fx.of (.slice (some ⟨by_, oy, none⟩) (limbs j).length d),
      Fx.of (.pointer (some ⟨by_, oy + 0, none⟩)),
      Fx.of (.int .u64 ((j.natAbs % B18 : Nat) : Int)),
      Fx.of (.int .u64 (((j.natAbs % B18 : Nat) : Int).tmod 2)),
      Fx.of (.bool (decide (j.toNat % 2 = 1))),
      Fx.of (.bool (decide (j.toNat % 2 = 1))),
      Fx.of (.pointer (some ⟨gb1, 1, none⟩)),
      Fx.of (.slice (some ⟨bx, ox, none⟩) (limbs i).length c),
      ⟨(Option Addr × Nat), fun (A2, c2) => .agg #[.bool (decide (sgn (decide (j.toNat % 2 = 1)) (val B18 (limbs i)) < 0)), .slice A2 (limbs (sgn (decide (j.toNat % 2 = 1)) (val B18 (limbs i)))).length c2], fun (A2, c2) b => (Own b w.heap.size A2 c2 (limbs (sgn (decide (j.toNat % 2 = 1)) (val B18 (limbs i)))))⟩,
      Fx.of undef,
      Fx.of (.int .i64 0)]) mixed rfl ⟨⟨(Mut.tail Mut.head) _ rfl, Bb5, fun _ h => by cases h⟩, trivial⟩ (by intro o ho; simp at ho; rcases ho with rfl <;> simp) ?_ ?_
  · refine ⟨?_, ?_, ?_, ?_, ?_, ?_, ?_, ?_, ?_, ?_, ?_, ?_, ?_, ?_, ?_, trivial⟩
    · intro vs X wq K
      have LE := K.1
      have XN := K.2.1
      have SQ := Nat.le_trans LW.size (Nat.le_trans E.size LE.size)
      exact ow_fieldAddr Tryz.underlying41 rfl sz4 (by decide) rfl ⟨Below.refl _ _, Left.of rfl⟩
    · intro vs X wq K
      have LE := K.1
      have XN := K.2.1
      have SQ := Nat.le_trans LW.size (Nat.le_trans E.size LE.size)
      obtain ⟨_, e0, k0⟩ := K.dep 0 rfl rfl rfl
      refine ow_set 44 (.pointer (some ⟨gb1, 0, none⟩)) rfl e0 ?_
      exact ow_loadF Tryz.underlying4 rfl rfl (HF.on (E.drew.trans (LE.mono OY))).here.1.2 rfl ⟨Below.refl _ _, Left.of ((by rw [hin] : (.bool (decide (i < 0)) : Value) = _))⟩
    · intro vs X wq K
      have LE := K.1
      have XN := K.2.1
      have SQ := Nat.le_trans LW.size (Nat.le_trans E.size LE.size)
      obtain ⟨_, e1, k1⟩ := K.dep 1 rfl rfl rfl
      refine ow_set 45 (.bool true) rfl e1 ?_
      exact ow_move rfl ⟨Below.refl _ _, Left.of rfl⟩
    · intro vs X wq K
      have LE := K.1
      have XN := K.2.1
      have SQ := Nat.le_trans LW.size (Nat.le_trans E.size LE.size)
      obtain ⟨_, e2, k2⟩ := K.dep 2 rfl rfl rfl
      refine ow_set 46 (.bool true) rfl e2 ?_
      exact ow_on rfl (ow_fieldAddr Tryz.underlying41 rfl sz39 (by decide) rfl ⟨Below.refl _ _, Left.of rfl⟩)
    · intro vs X wq K
      have LE := K.1
      have XN := K.2.1
      have SQ := Nat.le_trans LW.size (Nat.le_trans E.size LE.size)
      obtain ⟨_, e3, k3⟩ := K.dep 3 rfl rfl rfl
      refine ow_set 47 (.pointer (some ⟨gb3, 1, none⟩)) rfl e3 ?_
      obtain ⟨_, e2, k2⟩ := K.dep 2 rfl rfl rfl
      refine ow_set 46 (.bool true) rfl e2 ?_
      exact ow_on rfl (ow_loadF Tryz.underlying39 rfl rfl (HF.on (E.drew.trans (LE.mono OY))).here.2 rfl ⟨Below.refl _ _, Left.of rfl⟩)
    · intro vs X wq K
      have LE := K.1
      have XN := K.2.1
      have SQ := Nat.le_trans LW.size (Nat.le_trans E.size LE.size)
      obtain ⟨_, e4, k4⟩ := K.dep 4 rfl rfl rfl
      refine ow_set 48 (.slice (some ⟨by_, oy, none⟩) (limbs j).length d) rfl e4 ?_
      obtain ⟨_, e2, k2⟩ := K.dep 2 rfl rfl rfl
      refine ow_set 46 (.bool true) rfl e2 ?_
      exact ow_on rfl (ow_indexAddr1 (j := 0) Tryz.underlying39 sz22 rfl rfl rfl hjp ⟨Below.refl _ _, Left.of rfl⟩)
    · intro vs X wq K
      have LE := K.1
      have XN := K.2.1
      have SQ := Nat.le_trans LW.size (Nat.le_trans E.size LE.size)
      obtain ⟨_, e5, k5⟩ := K.dep 5 rfl rfl rfl
      refine ow_set 49 (.pointer (some ⟨by_, oy + 0, none⟩)) rfl e5 ?_
      obtain ⟨_, e2, k2⟩ := K.dep 2 rfl rfl rfl
      refine ow_set 46 (.bool true) rfl e2 ?_
      exact ow_on rfl (ow_load1 Tryz.underlying22 rfl rfl (HF.on (E.drew.trans (LE.mono OY))).here.1.1.2 ⟨Below.refl _ _, Left.of rfl⟩)
    · intro vs X wq K
      have LE := K.1
      have XN := K.2.1
      have SQ := Nat.le_trans LW.size (Nat.le_trans E.size LE.size)
      obtain ⟨_, e6, k6⟩ := K.dep 6 rfl rfl rfl
      refine ow_set 50 (.int .u64 ((j.natAbs % B18 : Nat) : Int)) rfl e6 ?_
      obtain ⟨_, e2, k2⟩ := K.dep 2 rfl rfl rfl
      refine ow_set 46 (.bool true) rfl e2 ?_
      exact ow_on rfl (ow_rem rfl rfl (by decide) rfl ⟨Below.refl _ _, Left.of rfl⟩)
    · intro vs X wq K
      have LE := K.1
      have XN := K.2.1
      have SQ := Nat.le_trans LW.size (Nat.le_trans E.size LE.size)
      obtain ⟨_, e7, k7⟩ := K.dep 7 rfl rfl rfl
      refine ow_set 51 (.int .u64 (((j.natAbs % B18 : Nat) : Int).tmod 2)) rfl e7 ?_
      obtain ⟨_, e2, k2⟩ := K.dep 2 rfl rfl rfl
      refine ow_set 46 (.bool true) rfl e2 ?_
      exact ow_on rfl (ow_eql rfl rfl ⟨Below.refl _ _, Left.of ((by rw [unit_par h0] : (.bool ((((j.natAbs % B18 : Nat) : Int).tmod 2) == 1) : Value) = _))⟩)
    · intro vs X wq K
      have LE := K.1
      have XN := K.2.1
      have SQ := Nat.le_trans LW.size (Nat.le_trans E.size LE.size)
      obtain ⟨_, e2, k2⟩ := K.dep 2 rfl rfl rfl
      refine ow_set 46 (.bool true) rfl e2 ?_
      obtain ⟨_, e8, k8⟩ := K.dep 8 rfl rfl rfl
      refine ow_set 52 (.bool (decide (j.toNat % 2 = 1))) rfl e8 ?_
      exact ow_pickT rfl rfl ⟨Below.refl _ _, Left.of rfl⟩
    · intro vs X wq K
      have LE := K.1
      have XN := K.2.1
      have SQ := Nat.le_trans LW.size (Nat.le_trans E.size LE.size)
      exact ow_fieldAddr Tryz.underlying41 rfl sz39 (by decide) rfl ⟨Below.refl _ _, Left.of rfl⟩
    · intro vs X wq K
      have LE := K.1
      have XN := K.2.1
      have SQ := Nat.le_trans LW.size (Nat.le_trans E.size LE.size)
      obtain ⟨_, e10, k10⟩ := K.dep 10 rfl rfl rfl
      refine ow_set 54 (.pointer (some ⟨gb1, 1, none⟩)) rfl e10 ?_
      exact ow_loadF Tryz.underlying39 rfl rfl (HF.on (E.drew.trans (LE.mono OY))).here.1.2 rfl ⟨Below.refl _ _, Left.of rfl⟩
    · intro vs X wq K
      have LE := K.1
      have XN := K.2.1
      have SQ := Nat.le_trans LW.size (Nat.le_trans E.size LE.size)
      obtain ⟨_, e9, k9⟩ := K.dep 9 rfl rfl rfl
      refine ow_set 53 (.bool (decide (j.toNat % 2 = 1))) rfl e9 ?_
      obtain ⟨_, e11, k11⟩ := K.dep 11 rfl rfl rfl
      refine ow_set 55 (.slice (some ⟨bx, ox, none⟩) (limbs i).length c) rfl e11 ?_
      refine ow_enter en114 rfl ((form_any (decide (j.toNat % 2 = 1)) _ c (limbs i) _ (HF.on (E.drew.trans (LE.mono OY))).here.1.1.1.1.1.2 (limbs_small i) (by rw [hli]; decide)).mono ?_)
      rintro e w2 ⟨A2, c2, rfl, o2, hb⟩
      exact ⟨_, rfl, hb, ⟨(A2, c2), rfl, (Per.ownX o2 XN).map (fun _ h => h.mono SQ)⟩⟩
    · refine ⟨_, _, _, _, _, rfl, rfl, sz41, fun vs X wq K => ⟨rfl, ?_⟩⟩
      obtain ⟨⟨A2, c2⟩, e0, _⟩ := K.dep 12 rfl rfl rfl
      exact ⟨vs 12, rfl, by rw [e0]; rfl, by rw [e0]; rfl⟩
    · intro vs X wq K
      have LE := K.1
      have XN := K.2.1
      have SQ := Nat.le_trans LW.size (Nat.le_trans E.size LE.size)
      exact ow_assign rfl ⟨Below.refl _ _, Left.of rfl⟩
  intro vs w13 LE AO AL AF AA
  have LBb10 := Bb10
  have LBb5 := Bb5
  replace Bb10 := Bb10.drew.extN LE (NotIn.cons Db10_b5 NotIn.nil)
  replace E := E.drew.trans (LE.mono OY)
  obtain ⟨⟨A2, c2⟩, e12, k12⟩ := AL.2.2.2.2.2.2.2.2.2.2.2.2.1
  obtain ⟨_, e14, k14⟩ := AL.2.2.2.2.2.2.2.2.2.2.2.2.2.2.1
  obtain ⟨v0, y0, Bx, ey, ev0⟩ := AO.1
  cases ey
  obtain rfl : vs 12 = v0 := Option.some.inj ev0
  rw [e12] at Bx
  replace Bb5 : Blk w13 gb5 41 #[.bool (decide (sgn (decide (j.toNat % 2 = 1)) (val B18 (limbs i)) < 0)), .slice A2 (limbs (sgn (decide (j.toNat % 2 = 1)) (val B18 (limbs i)))).length c2] := Bx
  clear Bx
  replace HF := HF.on E
  replace LW := LW.step E XLW
  replace E := Ext.refl (Mut [(some gb10), (some gb5)]) w13
  replace HF := HF.and ((k12.map (fun _ h => h) : Per (Mut [(some gb10), (some gb5)]) w13 (fun b => Own b w.heap.size A2 c2 (limbs (sgn (decide (j.toNat % 2 = 1)) (val B18 (limbs i)))))))
  refine ew_sub (τ := [(2, _), (3, _), (4, _), (5, .int .i64 0), (6, _)]) ⟨rfl, rfl, rfl, congrArg some e14, rfl, trivial⟩ ?_
  clear AL AF AA LE AO OY e12 e14 k12 k14 LBb10 LBb5
  refine ew_next ?_
  refine cw_ret ?_
  refine ew_then_ret ?_
  refine ew_ret (rs := [.cell 4 41, .tmp 5]) (vs := [_, _]) rfl ⟨⟨_, rfl, res_box Tryz.underlying41 rfl sz41 Bb5 rfl⟩, rfl, trivial⟩ ?_
  exact ⟨A2, c2, by rw [← hv]; rfl, by rw [← hv]; exact (HF.on E).here.2, (LW.step E XLW).toBelow⟩
theorem pow_g1 (h0 : 2000 < j) (h2i : 2 ≤ i.natAbs) (h : i.natAbs < B18) (hjb : B18 ≤ j.natAbs) : Calls Tryz.prog 83 #[.agg #[.bool (decide (i < 0)), .slice A (limbs i).length c], .agg #[.bool (decide (j < 0)), .slice B (limbs j).length d]] w (RetBigErr w 0 7) := by
  have hd : decide (j < 0) = false := decide_eq_false (by omega)
  have hip := lim_pos (j := i) (by omega)
  have hjp := lim_pos (j := j) (by omega)
  have hlen : ((limbs j).length : Int) ≠ 0 := by omega
  have hleni : ((limbs i).length : Int) ≠ 0 := by omega
  obtain ⟨bx, ox, rfl, hbx, hcx⟩ := hx.2 hip
  obtain ⟨by_, oy, rfl, hby, hcy⟩ := hy.2 hjp
  have hc0 : w.cell? ⟨bx, ox + 0, none⟩ = some (.int .u64 ((i.natAbs % B18 : Nat) : Int)) := by rw [hcx 0 hip, nth_lim0 (by omega)]
  have hd0 : w.cell? ⟨by_, oy + 0, none⟩ = some (.int .u64 (((j.natAbs % B18 : Nat) : Int))) := by rw [hcy 0 hjp, nth_lim0 (by omega)]
  refine calls_cw Tryz.func83 rfl Tryz.ntmps83 rfl ?_
  have HF : Per (No) w (fun _ => True) := Per.true_
  have LW := Ext.refl (No) w
  have XLW : ∀ q9, (No) q9 → (No) q9 ∨ w.heap.size ≤ q9 := fun _ h => Or.inl h
  have E := Ext.refl (No) w
  replace HF := HF.on E
  replace LW := LW.step E XLW
  replace E := Ext.refl (No) w
  replace HF := HF.and (Per.nums0 hx)
  replace HF := HF.on E
  replace LW := LW.step E XLW
  replace E := Ext.refl (No) w
  replace HF := HF.and (Per.nums0 hy)
  replace HF := HF.on E
  replace LW := LW.step E XLW
  replace E := Ext.refl (No) w
  replace HF := HF.and (Per.cell0 hc0)
  replace HF := HF.on E
  replace LW := LW.step E XLW
  replace E := Ext.refl (No) w
  replace HF := HF.and (Per.cell0 hd0)
  refine cw_seq ?_
  refine cw_region ?_
  refine rs_op rfl (ow_boxB rfl ?_)
  intro gb1 w2 Bb1 Eb1 Gb1
  have Gb1 : _ ≤ gb1 := Nat.le_trans E.size Gb1
  have GLb1 := Nat.le_trans LW.size Gb1
  replace E := E.trans Eb1.no
  clear Eb1
  replace HF := HF.cons (some_ge Gb1)
  replace E := E.cons (some gb1)
  replace XLW := Mut.grow XLW (fun k e => Or.inr (Nat.le_trans LW.size ((some_ge Gb1) k e)))
  replace HF := HF.on E
  replace LW := LW.step E XLW
  have SB : ∀ q9, No q9 → Mut [(some gb1)] q9 := (Mut.skip Mut.nil_)
  replace HF := HF.less SB
  replace XLW := fun k h => XLW k (SB k h)
  clear SB
  replace E := Ext.refl (No) w2
  replace HF := HF.and (Per.blkN Bb1 NotIn.nil)
  clear Bb1
  refine rs_op rfl (ow_boxB rfl ?_)
  intro gb3 w4 Bb3 Eb3 Gb3
  have Gb3 : _ ≤ gb3 := Nat.le_trans E.size Gb3
  have GLb3 := Nat.le_trans LW.size Gb3
  replace E := E.trans Eb3.no
  clear Eb3
  replace HF := HF.cons (some_ge Gb3)
  replace E := E.cons (some gb3)
  replace XLW := Mut.grow XLW (fun k e => Or.inr (Nat.le_trans LW.size ((some_ge Gb3) k e)))
  replace HF := HF.on E
  replace LW := LW.step E XLW
  have SB : ∀ q9, No q9 → Mut [(some gb3)] q9 := (Mut.skip Mut.nil_)
  replace HF := HF.less SB
  replace XLW := fun k h => XLW k (SB k h)
  clear SB
  replace E := Ext.refl (No) w4
  replace HF := HF.and (Per.blkN Bb3 NotIn.nil)
  clear Bb3
  refine rs_op rfl (ow_allocB zr41 ?_)
  intro gb5 w6 Bb5 Eb5 Gb5
  have Gb5 : _ ≤ gb5 := Nat.le_trans E.size Gb5
  have GLb5 := Nat.le_trans LW.size Gb5
  replace E := E.trans Eb5.no
  clear Eb5
  replace HF := HF.cons (some_ge Gb5)
  replace E := E.cons (some gb5)
  replace XLW := Mut.grow XLW (fun k e => Or.inr (Nat.le_trans LW.size ((some_ge Gb5) k e)))
  refine rs_op rfl (ow_assign rfl ?_)
  refine rs_nil ?_
  refine ew_next ?_
  refine cw_seq ?_
  refine cw_seq ?_
  refine cw_region ?_
  refine rs_op rfl (ow_loadB Tryz.underlying41 rfl sz41 rfl (HF.on E).here.1.2 rfl ?_)
  refine rs_op rfl (ow_enter en76 rfl ((goodI _ c _ hi (HF.on E).here.1.1.1.1.1.2).mono ?_))
  rintro e w7 ⟨rfl, hb⟩
  refine ⟨_, rfl, ?_⟩
  have Ec := Ext.of_below hb No
  replace Bb5 := Bb5.extN Ec NotIn.nil
  replace E := E.trans Ec.no
  clear hb Ec
  refine rs_op rfl (ow_not rfl ?_)
  refine rs_op rfl (ow_move rfl ?_)
  refine rs_op rfl (ow_on rfl (ow_loadB Tryz.underlying41 rfl sz41 rfl (HF.on E).here.2 rfl ?_))
  refine rs_op rfl (ow_on rfl (ow_enter en76 rfl ((goodI _ d _ hj (HF.on E).here.1.1.1.1.2).mono ?_)))
  rintro e w8 ⟨rfl, hb⟩
  refine ⟨_, rfl, ?_⟩
  have Ec := Ext.of_below hb No
  replace Bb5 := Bb5.extN Ec NotIn.nil
  replace E := E.trans Ec.no
  clear hb Ec
  refine rs_op rfl (ow_on rfl (ow_not rfl ?_))
  refine rs_op rfl (ow_pickF rfl rfl ?_)
  refine rs_nil ?_
  refine ew_next ?_
  refine cw_else rfl ?_
  refine cw_skip ?_
  refine ew_next ?_
  refine cw_seq ?_
  refine cw_seq ?_
  refine cw_region ?_
  refine rs_op rfl (ow_fieldAddr Tryz.underlying41 rfl sz4 (by decide) rfl ?_)
  refine rs_op rfl (ow_loadF Tryz.underlying4 rfl rfl (HF.on E).here.2 rfl ?_)
  refine rs_nil ?_
  refine ew_next ?_
  refine cw_set 19 (.bool false) rfl ((by rw [hd] : (.bool (decide (j < 0)) : Value) = _)) ?_
  refine cw_else rfl ?_
  refine cw_skip ?_
  refine ew_next ?_
  refine cw_seq ?_
  refine cw_region ?_
  refine rs_op rfl (ow_enter en82 rfl ((of_any 1 _ (by decide) (by decide)).mono ?_))
  rintro e w9 ⟨A1, c1, rfl, o1, hb⟩
  refine ⟨_, rfl, ?_⟩
  have XC : ∀ q9, (Mut [(some gb5)]) q9 → q9 < w8.heap.size := (Mut.grow Mut.none_ (some_lt Bb5.lt))
  have SC := Nat.le_trans LW.size E.size
  have Ec := Ext.of_below hb No
  replace Bb5 := Bb5.extN Ec NotIn.nil
  replace E := E.trans Ec.no
  clear hb Ec
  have S1 := SC
  replace HF := HF.on E
  replace LW := LW.step E XLW
  replace E := Ext.refl (Mut [(some gb5)]) w9
  replace HF := HF.and (Per.ownX o1 XC)
  refine rs_op rfl (ow_allocB zr41 ?_)
  intro gb10 w11 Bb10 Eb10 Gb10
  have Db10_b5 : Apart (some gb10) (some gb5) := Apart.of_lt (some_lt Bb5.lt) Gb10
  have Db5_b10 := Db10_b5.symm
  have Gb10 : _ ≤ gb10 := Nat.le_trans E.size Gb10
  have GLb10 := Nat.le_trans LW.size Gb10
  replace Bb5 := Bb5.extN Eb10 NotIn.nil
  replace E := E.trans Eb10.no
  clear Eb10
  replace HF := HF.cons (some_ge Gb10)
  replace E := E.cons (some gb10)
  replace XLW := Mut.grow XLW (fun k e => Or.inr (Nat.le_trans LW.size ((some_ge Gb10) k e)))
  refine rs_op0 (ow_storeM sz41 rfl rfl Bb10 rfl rfl (Nat.le_of_ble_eq_true rfl) ?_)
  intro w12 Bx Eb10
  replace Bb10 := Bx
  clear Bx
  replace Bb5 := Bb5.extN Eb10 (NotIn.cons Db5_b10 NotIn.nil)
  replace E := E.step1 Eb10 Mut.head
  clear Eb10
  refine rs_nil ?_
  refine ew_next ?_
  refine cw_seq ?_
  refine cw_seq ?_
  refine cw_region ?_
  refine rs_op rfl (ow_fieldAddr Tryz.underlying41 rfl sz39 (by decide) rfl ?_)
  refine rs_op rfl (ow_loadF Tryz.underlying39 rfl rfl (HF.on E).here.1.2 rfl ?_)
  refine rs_op rfl (ow_len Tryz.underlying39 rfl ?_)
  refine rs_op rfl (ow_eql rfl rfl ?_)
  refine rs_nil ?_
  refine ew_next ?_
  refine cw_set 25 (.bool false) rfl ((by rw [beq_eq_false_iff_ne.2 hlen] : (.bool (((((limbs j).length : Nat)) : Int) == 0) : Value) = _)) ?_
  refine cw_else rfl ?_
  refine cw_skip ?_
  refine ew_next ?_
  refine cw_seq ?_
  refine cw_seq ?_
  refine cw_region ?_
  refine rs_op rfl (ow_fieldAddr Tryz.underlying41 rfl sz39 (by decide) rfl ?_)
  refine rs_op rfl (ow_loadF Tryz.underlying39 rfl rfl (HF.on E).here.1.1.2 rfl ?_)
  refine rs_op rfl (ow_len Tryz.underlying39 rfl ?_)
  refine rs_op rfl (ow_eql rfl rfl ?_)
  refine rs_op rfl (ow_move rfl ?_)
  refine rs_set 31 (.bool false) rfl ((by rw [beq_eq_false_iff_ne.2 hleni] : (.bool (((((limbs i).length : Nat)) : Int) == 0) : Value) = _)) ?_
  refine rs_op rfl (ow_on rfl (ow_fieldAddr Tryz.underlying41 rfl sz39 (by decide) rfl ?_))
  refine rs_op rfl (ow_on rfl (ow_loadF Tryz.underlying39 rfl rfl (HF.on E).here.1.1.2 rfl ?_))
  refine rs_op rfl (ow_on rfl (ow_len Tryz.underlying39 rfl ?_))
  refine rs_op rfl (ow_on rfl (ow_eql rfl rfl ?_))
  refine rs_op rfl (ow_on rfl (ow_move rfl ?_))
  have h1 : ((limbs i).length : Int) = 1 := by rw [lim_len1 (by omega) h]; rfl
  refine rs_set 36 (.bool true) rfl ((by rw [h1]; rfl : (.bool (((((limbs i).length : Nat)) : Int) == 1) : Value) = _)) ?_
  refine rs_op rfl (ow_on rfl (ow_fieldAddr Tryz.underlying41 rfl sz39 (by decide) rfl ?_))
  refine rs_op rfl (ow_on rfl (ow_loadF Tryz.underlying39 rfl rfl (HF.on E).here.1.1.2 rfl ?_))
  refine rs_op rfl (ow_on rfl (ow_indexAddr1 (j := 0) Tryz.underlying39 sz22 rfl rfl rfl hip ?_))
  refine rs_op rfl (ow_on rfl (ow_load1 Tryz.underlying22 rfl rfl (HF.on E).here.1.1.1.1.2 ?_))
  refine rs_op rfl (ow_on rfl (ow_eql rfl rfl ?_))
  refine rs_op rfl (ow_on rfl (ow_pickT rfl rfl ?_))
  refine rs_op rfl (ow_pickF rfl rfl ?_)
  refine rs_nil ?_
  refine ew_next ?_
  refine cw_set 43 (.bool false) rfl ((by rw [Nat.mod_eq_of_lt h, beq_eq_false_iff_ne.2 (by omega)] : (.bool (((i.natAbs % B18 : Nat) : Int) == 1) : Value) = _)) ?_
  refine cw_else rfl ?_
  refine cw_skip ?_
  refine ew_next ?_
  refine cw_seq ?_
  refine cw_seq ?_
  refine cw_region ?_
  refine rs_op rfl (ow_fieldAddr Tryz.underlying41 rfl sz39 (by decide) rfl ?_)
  refine rs_op rfl (ow_loadF Tryz.underlying39 rfl rfl (HF.on E).here.1.2 rfl ?_)
  refine rs_op rfl (ow_len Tryz.underlying39 rfl ?_)
  refine rs_op rfl (ow_gtr rfl rfl ?_)
  refine rs_op rfl (ow_move rfl ?_)
  have h2 : (1 : Int) < ((limbs j).length : Int) := by have := lim_len2 hjb; omega
  refine rs_set 61 (.bool true) rfl ((by rw [decide_eq_true h2] : (.bool (decide (1 < ((((limbs j).length : Nat)) : Int))) : Value) = _)) ?_
  refine rs_op rfl (ow_off rfl ?_)
  refine rs_op rfl (ow_off rfl ?_)
  refine rs_op rfl (ow_off rfl ?_)
  refine rs_op rfl (ow_off rfl ?_)
  refine rs_op rfl (ow_off rfl ?_)
  refine rs_op rfl (ow_pickT rfl rfl ?_)
  refine rs_nil ?_
  refine ew_next ?_
  refine cw_then rfl ?_
  refine cw_seq ?_
  refine cw_region ?_
  refine rs_op rfl (ow_build (cs := #[.bool false, .slice none 0 0]) pl41 zr41 rfl rfl ?_)
  refine rs_op0 (ow_storeM sz41 rfl rfl Bb5 rfl rfl (Nat.le_of_ble_eq_true rfl) ?_)
  intro w13 Bx Eb5
  replace Bb5 := Bx
  clear Bx
  replace Bb10 := Bb10.extN Eb5 (NotIn.cons Db10_b5 NotIn.nil)
  replace E := E.step1 Eb5 (Mut.tail Mut.head)
  clear Eb5
  refine rs_op rfl (ow_assign rfl ?_)
  refine rs_nil ?_
  refine ew_next ?_
  refine cw_ret ?_
  refine ew_then_ret ?_
  refine ew_ret (rs := [.cell 4 41, .tmp 5]) (vs := [_, _]) rfl ⟨⟨_, rfl, res_box Tryz.underlying41 rfl sz41 Bb5 rfl⟩, rfl, trivial⟩ ?_
  exact retErr_zero (LW.step E XLW).toBelow
theorem pow_g2 (h0 : 2000 < j) (h2i : 2 ≤ i.natAbs) (h : B18 ≤ i.natAbs) (hjb : B18 ≤ j.natAbs) : Calls Tryz.prog 83 #[.agg #[.bool (decide (i < 0)), .slice A (limbs i).length c], .agg #[.bool (decide (j < 0)), .slice B (limbs j).length d]] w (RetBigErr w 0 7) := by
  have hd : decide (j < 0) = false := decide_eq_false (by omega)
  have hip := lim_pos (j := i) (by omega)
  have hjp := lim_pos (j := j) (by omega)
  have hlen : ((limbs j).length : Int) ≠ 0 := by omega
  have hleni : ((limbs i).length : Int) ≠ 0 := by omega
  obtain ⟨bx, ox, rfl, hbx, hcx⟩ := hx.2 hip
  obtain ⟨by_, oy, rfl, hby, hcy⟩ := hy.2 hjp
  have hc0 : w.cell? ⟨bx, ox + 0, none⟩ = some (.int .u64 ((i.natAbs % B18 : Nat) : Int)) := by rw [hcx 0 hip, nth_lim0 (by omega)]
  have hd0 : w.cell? ⟨by_, oy + 0, none⟩ = some (.int .u64 (((j.natAbs % B18 : Nat) : Int))) := by rw [hcy 0 hjp, nth_lim0 (by omega)]
  refine calls_cw Tryz.func83 rfl Tryz.ntmps83 rfl ?_
  have HF : Per (No) w (fun _ => True) := Per.true_
  have LW := Ext.refl (No) w
  have XLW : ∀ q9, (No) q9 → (No) q9 ∨ w.heap.size ≤ q9 := fun _ h => Or.inl h
  have E := Ext.refl (No) w
  replace HF := HF.on E
  replace LW := LW.step E XLW
  replace E := Ext.refl (No) w
  replace HF := HF.and (Per.nums0 hx)
  replace HF := HF.on E
  replace LW := LW.step E XLW
  replace E := Ext.refl (No) w
  replace HF := HF.and (Per.nums0 hy)
  replace HF := HF.on E
  replace LW := LW.step E XLW
  replace E := Ext.refl (No) w
  replace HF := HF.and (Per.cell0 hc0)
  replace HF := HF.on E
  replace LW := LW.step E XLW
  replace E := Ext.refl (No) w
  replace HF := HF.and (Per.cell0 hd0)
  refine cw_seq ?_
  refine cw_region ?_
  refine rs_op rfl (ow_boxB rfl ?_)
  intro gb1 w2 Bb1 Eb1 Gb1
  have Gb1 : _ ≤ gb1 := Nat.le_trans E.size Gb1
  have GLb1 := Nat.le_trans LW.size Gb1
  replace E := E.trans Eb1.no
  clear Eb1
  replace HF := HF.cons (some_ge Gb1)
  replace E := E.cons (some gb1)
  replace XLW := Mut.grow XLW (fun k e => Or.inr (Nat.le_trans LW.size ((some_ge Gb1) k e)))
  replace HF := HF.on E
  replace LW := LW.step E XLW
  have SB : ∀ q9, No q9 → Mut [(some gb1)] q9 := (Mut.skip Mut.nil_)
  replace HF := HF.less SB
  replace XLW := fun k h => XLW k (SB k h)
  clear SB
  replace E := Ext.refl (No) w2
  replace HF := HF.and (Per.blkN Bb1 NotIn.nil)
  clear Bb1
  refine rs_op rfl (ow_boxB rfl ?_)
  intro gb3 w4 Bb3 Eb3 Gb3
  have Gb3 : _ ≤ gb3 := Nat.le_trans E.size Gb3
  have GLb3 := Nat.le_trans LW.size Gb3
  replace E := E.trans Eb3.no
  clear Eb3
  replace HF := HF.cons (some_ge Gb3)
  replace E := E.cons (some gb3)
  replace XLW := Mut.grow XLW (fun k e => Or.inr (Nat.le_trans LW.size ((some_ge Gb3) k e)))
  replace HF := HF.on E
  replace LW := LW.step E XLW
  have SB : ∀ q9, No q9 → Mut [(some gb3)] q9 := (Mut.skip Mut.nil_)
  replace HF := HF.less SB
  replace XLW := fun k h => XLW k (SB k h)
  clear SB
  replace E := Ext.refl (No) w4
  replace HF := HF.and (Per.blkN Bb3 NotIn.nil)
  clear Bb3
  refine rs_op rfl (ow_allocB zr41 ?_)
  intro gb5 w6 Bb5 Eb5 Gb5
  have Gb5 : _ ≤ gb5 := Nat.le_trans E.size Gb5
  have GLb5 := Nat.le_trans LW.size Gb5
  replace E := E.trans Eb5.no
  clear Eb5
  replace HF := HF.cons (some_ge Gb5)
  replace E := E.cons (some gb5)
  replace XLW := Mut.grow XLW (fun k e => Or.inr (Nat.le_trans LW.size ((some_ge Gb5) k e)))
  refine rs_op rfl (ow_assign rfl ?_)
  refine rs_nil ?_
  refine ew_next ?_
  refine cw_seq ?_
  refine cw_seq ?_
  refine cw_region ?_
  refine rs_op rfl (ow_loadB Tryz.underlying41 rfl sz41 rfl (HF.on E).here.1.2 rfl ?_)
  refine rs_op rfl (ow_enter en76 rfl ((goodI _ c _ hi (HF.on E).here.1.1.1.1.1.2).mono ?_))
  rintro e w7 ⟨rfl, hb⟩
  refine ⟨_, rfl, ?_⟩
  have Ec := Ext.of_below hb No
  replace Bb5 := Bb5.extN Ec NotIn.nil
  replace E := E.trans Ec.no
  clear hb Ec
  refine rs_op rfl (ow_not rfl ?_)
  refine rs_op rfl (ow_move rfl ?_)
  refine rs_op rfl (ow_on rfl (ow_loadB Tryz.underlying41 rfl sz41 rfl (HF.on E).here.2 rfl ?_))
  refine rs_op rfl (ow_on rfl (ow_enter en76 rfl ((goodI _ d _ hj (HF.on E).here.1.1.1.1.2).mono ?_)))
  rintro e w8 ⟨rfl, hb⟩
  refine ⟨_, rfl, ?_⟩
  have Ec := Ext.of_below hb No
  replace Bb5 := Bb5.extN Ec NotIn.nil
  replace E := E.trans Ec.no
  clear hb Ec
  refine rs_op rfl (ow_on rfl (ow_not rfl ?_))
  refine rs_op rfl (ow_pickF rfl rfl ?_)
  refine rs_nil ?_
  refine ew_next ?_
  refine cw_else rfl ?_
  refine cw_skip ?_
  refine ew_next ?_
  refine cw_seq ?_
  refine cw_seq ?_
  refine cw_region ?_
  refine rs_op rfl (ow_fieldAddr Tryz.underlying41 rfl sz4 (by decide) rfl ?_)
  refine rs_op rfl (ow_loadF Tryz.underlying4 rfl rfl (HF.on E).here.2 rfl ?_)
  refine rs_nil ?_
  refine ew_next ?_
  refine cw_set 19 (.bool false) rfl ((by rw [hd] : (.bool (decide (j < 0)) : Value) = _)) ?_
  refine cw_else rfl ?_
  refine cw_skip ?_
  refine ew_next ?_
  refine cw_seq ?_
  refine cw_region ?_
  refine rs_op rfl (ow_enter en82 rfl ((of_any 1 _ (by decide) (by decide)).mono ?_))
  rintro e w9 ⟨A1, c1, rfl, o1, hb⟩
  refine ⟨_, rfl, ?_⟩
  have XC : ∀ q9, (Mut [(some gb5)]) q9 → q9 < w8.heap.size := (Mut.grow Mut.none_ (some_lt Bb5.lt))
  have SC := Nat.le_trans LW.size E.size
  have Ec := Ext.of_below hb No
  replace Bb5 := Bb5.extN Ec NotIn.nil
  replace E := E.trans Ec.no
  clear hb Ec
  have S1 := SC
  replace HF := HF.on E
  replace LW := LW.step E XLW
  replace E := Ext.refl (Mut [(some gb5)]) w9
  replace HF := HF.and (Per.ownX o1 XC)
  refine rs_op rfl (ow_allocB zr41 ?_)
  intro gb10 w11 Bb10 Eb10 Gb10
  have Db10_b5 : Apart (some gb10) (some gb5) := Apart.of_lt (some_lt Bb5.lt) Gb10
  have Db5_b10 := Db10_b5.symm
  have Gb10 : _ ≤ gb10 := Nat.le_trans E.size Gb10
  have GLb10 := Nat.le_trans LW.size Gb10
  replace Bb5 := Bb5.extN Eb10 NotIn.nil
  replace E := E.trans Eb10.no
  clear Eb10
  replace HF := HF.cons (some_ge Gb10)
  replace E := E.cons (some gb10)
  replace XLW := Mut.grow XLW (fun k e => Or.inr (Nat.le_trans LW.size ((some_ge Gb10) k e)))
  refine rs_op0 (ow_storeM sz41 rfl rfl Bb10 rfl rfl (Nat.le_of_ble_eq_true rfl) ?_)
  intro w12 Bx Eb10
  replace Bb10 := Bx
  clear Bx
  replace Bb5 := Bb5.extN Eb10 (NotIn.cons Db5_b10 NotIn.nil)
  replace E := E.step1 Eb10 Mut.head
  clear Eb10
  refine rs_nil ?_
  refine ew_next ?_
  refine cw_seq ?_
  refine cw_seq ?_
  refine cw_region ?_
  refine rs_op rfl (ow_fieldAddr Tryz.underlying41 rfl sz39 (by decide) rfl ?_)
  refine rs_op rfl (ow_loadF Tryz.underlying39 rfl rfl (HF.on E).here.1.2 rfl ?_)
  refine rs_op rfl (ow_len Tryz.underlying39 rfl ?_)
  refine rs_op rfl (ow_eql rfl rfl ?_)
  refine rs_nil ?_
  refine ew_next ?_
  refine cw_set 25 (.bool false) rfl ((by rw [beq_eq_false_iff_ne.2 hlen] : (.bool (((((limbs j).length : Nat)) : Int) == 0) : Value) = _)) ?_
  refine cw_else rfl ?_
  refine cw_skip ?_
  refine ew_next ?_
  refine cw_seq ?_
  refine cw_seq ?_
  refine cw_region ?_
  refine rs_op rfl (ow_fieldAddr Tryz.underlying41 rfl sz39 (by decide) rfl ?_)
  refine rs_op rfl (ow_loadF Tryz.underlying39 rfl rfl (HF.on E).here.1.1.2 rfl ?_)
  refine rs_op rfl (ow_len Tryz.underlying39 rfl ?_)
  refine rs_op rfl (ow_eql rfl rfl ?_)
  refine rs_op rfl (ow_move rfl ?_)
  refine rs_set 31 (.bool false) rfl ((by rw [beq_eq_false_iff_ne.2 hleni] : (.bool (((((limbs i).length : Nat)) : Int) == 0) : Value) = _)) ?_
  refine rs_op rfl (ow_on rfl (ow_fieldAddr Tryz.underlying41 rfl sz39 (by decide) rfl ?_))
  refine rs_op rfl (ow_on rfl (ow_loadF Tryz.underlying39 rfl rfl (HF.on E).here.1.1.2 rfl ?_))
  refine rs_op rfl (ow_on rfl (ow_len Tryz.underlying39 rfl ?_))
  refine rs_op rfl (ow_on rfl (ow_eql rfl rfl ?_))
  refine rs_op rfl (ow_on rfl (ow_move rfl ?_))
  have h1 : ((limbs i).length : Int) ≠ 1 := by have := lim_len2 h; omega
  refine rs_set 36 (.bool false) rfl ((by rw [beq_eq_false_iff_ne.2 h1] : (.bool (((((limbs i).length : Nat)) : Int) == 1) : Value) = _)) ?_
  refine rs_op rfl (ow_off rfl ?_)
  refine rs_op rfl (ow_off rfl ?_)
  refine rs_op rfl (ow_off rfl ?_)
  refine rs_op rfl (ow_off rfl ?_)
  refine rs_op rfl (ow_off rfl ?_)
  refine rs_op rfl (ow_on rfl (ow_pickF rfl rfl ?_))
  refine rs_op rfl (ow_pickF rfl rfl ?_)
  refine rs_nil ?_
  refine ew_next ?_
  refine cw_else rfl ?_
  refine cw_skip ?_
  refine ew_next ?_
  refine cw_seq ?_
  refine cw_seq ?_
  refine cw_region ?_
  refine rs_op rfl (ow_fieldAddr Tryz.underlying41 rfl sz39 (by decide) rfl ?_)
  refine rs_op rfl (ow_loadF Tryz.underlying39 rfl rfl (HF.on E).here.1.2 rfl ?_)
  refine rs_op rfl (ow_len Tryz.underlying39 rfl ?_)
  refine rs_op rfl (ow_gtr rfl rfl ?_)
  refine rs_op rfl (ow_move rfl ?_)
  have h2 : (1 : Int) < ((limbs j).length : Int) := by have := lim_len2 hjb; omega
  refine rs_set 61 (.bool true) rfl ((by rw [decide_eq_true h2] : (.bool (decide (1 < ((((limbs j).length : Nat)) : Int))) : Value) = _)) ?_
  refine rs_op rfl (ow_off rfl ?_)
  refine rs_op rfl (ow_off rfl ?_)
  refine rs_op rfl (ow_off rfl ?_)
  refine rs_op rfl (ow_off rfl ?_)
  refine rs_op rfl (ow_off rfl ?_)
  refine rs_op rfl (ow_pickT rfl rfl ?_)
  refine rs_nil ?_
  refine ew_next ?_
  refine cw_then rfl ?_
  refine cw_seq ?_
  refine cw_region ?_
  refine rs_op rfl (ow_build (cs := #[.bool false, .slice none 0 0]) pl41 zr41 rfl rfl ?_)
  refine rs_op0 (ow_storeM sz41 rfl rfl Bb5 rfl rfl (Nat.le_of_ble_eq_true rfl) ?_)
  intro w13 Bx Eb5
  replace Bb5 := Bx
  clear Bx
  replace Bb10 := Bb10.extN Eb5 (NotIn.cons Db10_b5 NotIn.nil)
  replace E := E.step1 Eb5 (Mut.tail Mut.head)
  clear Eb5
  refine rs_op rfl (ow_assign rfl ?_)
  refine rs_nil ?_
  refine ew_next ?_
  refine cw_ret ?_
  refine ew_then_ret ?_
  refine ew_ret (rs := [.cell 4 41, .tmp 5]) (vs := [_, _]) rfl ⟨⟨_, rfl, res_box Tryz.underlying41 rfl sz41 Bb5 rfl⟩, rfl, trivial⟩ ?_
  exact retErr_zero (LW.step E XLW).toBelow
theorem pow_g3 (h0 : 2000 < j) (h2i : 2 ≤ i.natAbs) (h : i.natAbs < B18) (hjb : j.natAbs < B18) : Calls Tryz.prog 83 #[.agg #[.bool (decide (i < 0)), .slice A (limbs i).length c], .agg #[.bool (decide (j < 0)), .slice B (limbs j).length d]] w (RetBigErr w 0 7) := by
  have hd : decide (j < 0) = false := decide_eq_false (by omega)
  have hip := lim_pos (j := i) (by omega)
  have hjp := lim_pos (j := j) (by omega)
  have hlen : ((limbs j).length : Int) ≠ 0 := by omega
  have hleni : ((limbs i).length : Int) ≠ 0 := by omega
  obtain ⟨bx, ox, rfl, hbx, hcx⟩ := hx.2 hip
  obtain ⟨by_, oy, rfl, hby, hcy⟩ := hy.2 hjp
  have hc0 : w.cell? ⟨bx, ox + 0, none⟩ = some (.int .u64 ((i.natAbs % B18 : Nat) : Int)) := by rw [hcx 0 hip, nth_lim0 (by omega)]
  have hd0 : w.cell? ⟨by_, oy + 0, none⟩ = some (.int .u64 (((j.natAbs % B18 : Nat) : Int))) := by rw [hcy 0 hjp, nth_lim0 (by omega)]
  refine calls_cw Tryz.func83 rfl Tryz.ntmps83 rfl ?_
  have HF : Per (No) w (fun _ => True) := Per.true_
  have LW := Ext.refl (No) w
  have XLW : ∀ q9, (No) q9 → (No) q9 ∨ w.heap.size ≤ q9 := fun _ h => Or.inl h
  have E := Ext.refl (No) w
  replace HF := HF.on E
  replace LW := LW.step E XLW
  replace E := Ext.refl (No) w
  replace HF := HF.and (Per.nums0 hx)
  replace HF := HF.on E
  replace LW := LW.step E XLW
  replace E := Ext.refl (No) w
  replace HF := HF.and (Per.nums0 hy)
  replace HF := HF.on E
  replace LW := LW.step E XLW
  replace E := Ext.refl (No) w
  replace HF := HF.and (Per.cell0 hc0)
  replace HF := HF.on E
  replace LW := LW.step E XLW
  replace E := Ext.refl (No) w
  replace HF := HF.and (Per.cell0 hd0)
  refine cw_seq ?_
  refine cw_region ?_
  refine rs_op rfl (ow_boxB rfl ?_)
  intro gb1 w2 Bb1 Eb1 Gb1
  have Gb1 : _ ≤ gb1 := Nat.le_trans E.size Gb1
  have GLb1 := Nat.le_trans LW.size Gb1
  replace E := E.trans Eb1.no
  clear Eb1
  replace HF := HF.cons (some_ge Gb1)
  replace E := E.cons (some gb1)
  replace XLW := Mut.grow XLW (fun k e => Or.inr (Nat.le_trans LW.size ((some_ge Gb1) k e)))
  replace HF := HF.on E
  replace LW := LW.step E XLW
  have SB : ∀ q9, No q9 → Mut [(some gb1)] q9 := (Mut.skip Mut.nil_)
  replace HF := HF.less SB
  replace XLW := fun k h => XLW k (SB k h)
  clear SB
  replace E := Ext.refl (No) w2
  replace HF := HF.and (Per.blkN Bb1 NotIn.nil)
  clear Bb1
  refine rs_op rfl (ow_boxB rfl ?_)
  intro gb3 w4 Bb3 Eb3 Gb3
  have Gb3 : _ ≤ gb3 := Nat.le_trans E.size Gb3
  have GLb3 := Nat.le_trans LW.size Gb3
  replace E := E.trans Eb3.no
  clear Eb3
  replace HF := HF.cons (some_ge Gb3)
  replace E := E.cons (some gb3)
  replace XLW := Mut.grow XLW (fun k e => Or.inr (Nat.le_trans LW.size ((some_ge Gb3) k e)))
  replace HF := HF.on E
  replace LW := LW.step E XLW
  have SB : ∀ q9, No q9 → Mut [(some gb3)] q9 := (Mut.skip Mut.nil_)
  replace HF := HF.less SB
  replace XLW := fun k h => XLW k (SB k h)
  clear SB
  replace E := Ext.refl (No) w4
  replace HF := HF.and (Per.blkN Bb3 NotIn.nil)
  clear Bb3
  refine rs_op rfl (ow_allocB zr41 ?_)
  intro gb5 w6 Bb5 Eb5 Gb5
  have Gb5 : _ ≤ gb5 := Nat.le_trans E.size Gb5
  have GLb5 := Nat.le_trans LW.size Gb5
  replace E := E.trans Eb5.no
  clear Eb5
  replace HF := HF.cons (some_ge Gb5)
  replace E := E.cons (some gb5)
  replace XLW := Mut.grow XLW (fun k e => Or.inr (Nat.le_trans LW.size ((some_ge Gb5) k e)))
  refine rs_op rfl (ow_assign rfl ?_)
  refine rs_nil ?_
  refine ew_next ?_
  refine cw_seq ?_
  refine cw_seq ?_
  refine cw_region ?_
  refine rs_op rfl (ow_loadB Tryz.underlying41 rfl sz41 rfl (HF.on E).here.1.2 rfl ?_)
  refine rs_op rfl (ow_enter en76 rfl ((goodI _ c _ hi (HF.on E).here.1.1.1.1.1.2).mono ?_))
  rintro e w7 ⟨rfl, hb⟩
  refine ⟨_, rfl, ?_⟩
  have Ec := Ext.of_below hb No
  replace Bb5 := Bb5.extN Ec NotIn.nil
  replace E := E.trans Ec.no
  clear hb Ec
  refine rs_op rfl (ow_not rfl ?_)
  refine rs_op rfl (ow_move rfl ?_)
  refine rs_op rfl (ow_on rfl (ow_loadB Tryz.underlying41 rfl sz41 rfl (HF.on E).here.2 rfl ?_))
  refine rs_op rfl (ow_on rfl (ow_enter en76 rfl ((goodI _ d _ hj (HF.on E).here.1.1.1.1.2).mono ?_)))
  rintro e w8 ⟨rfl, hb⟩
  refine ⟨_, rfl, ?_⟩
  have Ec := Ext.of_below hb No
  replace Bb5 := Bb5.extN Ec NotIn.nil
  replace E := E.trans Ec.no
  clear hb Ec
  refine rs_op rfl (ow_on rfl (ow_not rfl ?_))
  refine rs_op rfl (ow_pickF rfl rfl ?_)
  refine rs_nil ?_
  refine ew_next ?_
  refine cw_else rfl ?_
  refine cw_skip ?_
  refine ew_next ?_
  refine cw_seq ?_
  refine cw_seq ?_
  refine cw_region ?_
  refine rs_op rfl (ow_fieldAddr Tryz.underlying41 rfl sz4 (by decide) rfl ?_)
  refine rs_op rfl (ow_loadF Tryz.underlying4 rfl rfl (HF.on E).here.2 rfl ?_)
  refine rs_nil ?_
  refine ew_next ?_
  refine cw_set 19 (.bool false) rfl ((by rw [hd] : (.bool (decide (j < 0)) : Value) = _)) ?_
  refine cw_else rfl ?_
  refine cw_skip ?_
  refine ew_next ?_
  refine cw_seq ?_
  refine cw_region ?_
  refine rs_op rfl (ow_enter en82 rfl ((of_any 1 _ (by decide) (by decide)).mono ?_))
  rintro e w9 ⟨A1, c1, rfl, o1, hb⟩
  refine ⟨_, rfl, ?_⟩
  have XC : ∀ q9, (Mut [(some gb5)]) q9 → q9 < w8.heap.size := (Mut.grow Mut.none_ (some_lt Bb5.lt))
  have SC := Nat.le_trans LW.size E.size
  have Ec := Ext.of_below hb No
  replace Bb5 := Bb5.extN Ec NotIn.nil
  replace E := E.trans Ec.no
  clear hb Ec
  have S1 := SC
  replace HF := HF.on E
  replace LW := LW.step E XLW
  replace E := Ext.refl (Mut [(some gb5)]) w9
  replace HF := HF.and (Per.ownX o1 XC)
  refine rs_op rfl (ow_allocB zr41 ?_)
  intro gb10 w11 Bb10 Eb10 Gb10
  have Db10_b5 : Apart (some gb10) (some gb5) := Apart.of_lt (some_lt Bb5.lt) Gb10
  have Db5_b10 := Db10_b5.symm
  have Gb10 : _ ≤ gb10 := Nat.le_trans E.size Gb10
  have GLb10 := Nat.le_trans LW.size Gb10
  replace Bb5 := Bb5.extN Eb10 NotIn.nil
  replace E := E.trans Eb10.no
  clear Eb10
  replace HF := HF.cons (some_ge Gb10)
  replace E := E.cons (some gb10)
  replace XLW := Mut.grow XLW (fun k e => Or.inr (Nat.le_trans LW.size ((some_ge Gb10) k e)))
  refine rs_op0 (ow_storeM sz41 rfl rfl Bb10 rfl rfl (Nat.le_of_ble_eq_true rfl) ?_)
  intro w12 Bx Eb10
  replace Bb10 := Bx
  clear Bx
  replace Bb5 := Bb5.extN Eb10 (NotIn.cons Db5_b10 NotIn.nil)
  replace E := E.step1 Eb10 Mut.head
  clear Eb10
  refine rs_nil ?_
  refine ew_next ?_
  refine cw_seq ?_
  refine cw_seq ?_
  refine cw_region ?_
  refine rs_op rfl (ow_fieldAddr Tryz.underlying41 rfl sz39 (by decide) rfl ?_)
  refine rs_op rfl (ow_loadF Tryz.underlying39 rfl rfl (HF.on E).here.1.2 rfl ?_)
  refine rs_op rfl (ow_len Tryz.underlying39 rfl ?_)
  refine rs_op rfl (ow_eql rfl rfl ?_)
  refine rs_nil ?_
  refine ew_next ?_
  refine cw_set 25 (.bool false) rfl ((by rw [beq_eq_false_iff_ne.2 hlen] : (.bool (((((limbs j).length : Nat)) : Int) == 0) : Value) = _)) ?_
  refine cw_else rfl ?_
  refine cw_skip ?_
  refine ew_next ?_
  refine cw_seq ?_
  refine cw_seq ?_
  refine cw_region ?_
  refine rs_op rfl (ow_fieldAddr Tryz.underlying41 rfl sz39 (by decide) rfl ?_)
  refine rs_op rfl (ow_loadF Tryz.underlying39 rfl rfl (HF.on E).here.1.1.2 rfl ?_)
  refine rs_op rfl (ow_len Tryz.underlying39 rfl ?_)
  refine rs_op rfl (ow_eql rfl rfl ?_)
  refine rs_op rfl (ow_move rfl ?_)
  refine rs_set 31 (.bool false) rfl ((by rw [beq_eq_false_iff_ne.2 hleni] : (.bool (((((limbs i).length : Nat)) : Int) == 0) : Value) = _)) ?_
  refine rs_op rfl (ow_on rfl (ow_fieldAddr Tryz.underlying41 rfl sz39 (by decide) rfl ?_))
  refine rs_op rfl (ow_on rfl (ow_loadF Tryz.underlying39 rfl rfl (HF.on E).here.1.1.2 rfl ?_))
  refine rs_op rfl (ow_on rfl (ow_len Tryz.underlying39 rfl ?_))
  refine rs_op rfl (ow_on rfl (ow_eql rfl rfl ?_))
  refine rs_op rfl (ow_on rfl (ow_move rfl ?_))
  have h1 : ((limbs i).length : Int) = 1 := by rw [lim_len1 (by omega) h]; rfl
  refine rs_set 36 (.bool true) rfl ((by rw [h1]; rfl : (.bool (((((limbs i).length : Nat)) : Int) == 1) : Value) = _)) ?_
  refine rs_op rfl (ow_on rfl (ow_fieldAddr Tryz.underlying41 rfl sz39 (by decide) rfl ?_))
  refine rs_op rfl (ow_on rfl (ow_loadF Tryz.underlying39 rfl rfl (HF.on E).here.1.1.2 rfl ?_))
  refine rs_op rfl (ow_on rfl (ow_indexAddr1 (j := 0) Tryz.underlying39 sz22 rfl rfl rfl hip ?_))
  refine rs_op rfl (ow_on rfl (ow_load1 Tryz.underlying22 rfl rfl (HF.on E).here.1.1.1.1.2 ?_))
  refine rs_op rfl (ow_on rfl (ow_eql rfl rfl ?_))
  refine rs_op rfl (ow_on rfl (ow_pickT rfl rfl ?_))
  refine rs_op rfl (ow_pickF rfl rfl ?_)
  refine rs_nil ?_
  refine ew_next ?_
  refine cw_set 43 (.bool false) rfl ((by rw [Nat.mod_eq_of_lt h, beq_eq_false_iff_ne.2 (by omega)] : (.bool (((i.natAbs % B18 : Nat) : Int) == 1) : Value) = _)) ?_
  refine cw_else rfl ?_
  refine cw_skip ?_
  refine ew_next ?_
  refine cw_seq ?_
  refine cw_seq ?_
  refine cw_region ?_
  refine rs_op rfl (ow_fieldAddr Tryz.underlying41 rfl sz39 (by decide) rfl ?_)
  refine rs_op rfl (ow_loadF Tryz.underlying39 rfl rfl (HF.on E).here.1.2 rfl ?_)
  refine rs_op rfl (ow_len Tryz.underlying39 rfl ?_)
  refine rs_op rfl (ow_gtr rfl rfl ?_)
  refine rs_op rfl (ow_move rfl ?_)
  have h2 : ¬ (1 : Int) < ((limbs j).length : Int) := by rw [lim_len1 (by omega) hjb]; decide
  refine rs_set 61 (.bool false) rfl ((by rw [decide_eq_false h2] : (.bool (decide (1 < ((((limbs j).length : Nat)) : Int))) : Value) = _)) ?_
  refine rs_op rfl (ow_on rfl (ow_fieldAddr Tryz.underlying41 rfl sz39 (by decide) rfl ?_))
  refine rs_op rfl (ow_on rfl (ow_loadF Tryz.underlying39 rfl rfl (HF.on E).here.1.2 rfl ?_))
  refine rs_op rfl (ow_on rfl (ow_indexAddr1 (j := 0) Tryz.underlying39 sz22 rfl rfl rfl hjp ?_))
  refine rs_op rfl (ow_on rfl (ow_load1 Tryz.underlying22 rfl rfl (HF.on E).here.1.1.1.2 ?_))
  refine rs_op rfl (ow_on rfl (ow_gtr rfl rfl ?_))
  refine rs_op rfl (ow_pickF rfl rfl ?_)
  refine rs_nil ?_
  refine ew_next ?_
  refine cw_set 67 (.bool true) rfl ((by rw [Nat.mod_eq_of_lt hjb, decide_eq_true (by omega)] : (.bool (decide (2000 < (((j.natAbs % B18 : Nat) : Int)))) : Value) = _)) ?_
  refine cw_then rfl ?_
  refine cw_seq ?_
  refine cw_region ?_
  refine rs_op rfl (ow_build (cs := #[.bool false, .slice none 0 0]) pl41 zr41 rfl rfl ?_)
  refine rs_op0 (ow_storeM sz41 rfl rfl Bb5 rfl rfl (Nat.le_of_ble_eq_true rfl) ?_)
  intro w13 Bx Eb5
  replace Bb5 := Bx
  clear Bx
  replace Bb10 := Bb10.extN Eb5 (NotIn.cons Db10_b5 NotIn.nil)
  replace E := E.step1 Eb5 (Mut.tail Mut.head)
  clear Eb5
  refine rs_op rfl (ow_assign rfl ?_)
  refine rs_nil ?_
  refine ew_next ?_
  refine cw_ret ?_
  refine ew_then_ret ?_
  refine ew_ret (rs := [.cell 4 41, .tmp 5]) (vs := [_, _]) rfl ⟨⟨_, rfl, res_box Tryz.underlying41 rfl sz41 Bb5 rfl⟩, rfl, trivial⟩ ?_
  exact retErr_zero (LW.step E XLW).toBelow
theorem pow_g4 (h0 : 2000 < j) (h2i : 2 ≤ i.natAbs) (h : B18 ≤ i.natAbs) (hjb : j.natAbs < B18) : Calls Tryz.prog 83 #[.agg #[.bool (decide (i < 0)), .slice A (limbs i).length c], .agg #[.bool (decide (j < 0)), .slice B (limbs j).length d]] w (RetBigErr w 0 7) := by
  have hd : decide (j < 0) = false := decide_eq_false (by omega)
  have hip := lim_pos (j := i) (by omega)
  have hjp := lim_pos (j := j) (by omega)
  have hlen : ((limbs j).length : Int) ≠ 0 := by omega
  have hleni : ((limbs i).length : Int) ≠ 0 := by omega
  obtain ⟨bx, ox, rfl, hbx, hcx⟩ := hx.2 hip
  obtain ⟨by_, oy, rfl, hby, hcy⟩ := hy.2 hjp
  have hc0 : w.cell? ⟨bx, ox + 0, none⟩ = some (.int .u64 ((i.natAbs % B18 : Nat) : Int)) := by rw [hcx 0 hip, nth_lim0 (by omega)]
  have hd0 : w.cell? ⟨by_, oy + 0, none⟩ = some (.int .u64 (((j.natAbs % B18 : Nat) : Int))) := by rw [hcy 0 hjp, nth_lim0 (by omega)]
  refine calls_cw Tryz.func83 rfl Tryz.ntmps83 rfl ?_
  have HF : Per (No) w (fun _ => True) := Per.true_
  have LW := Ext.refl (No) w
  have XLW : ∀ q9, (No) q9 → (No) q9 ∨ w.heap.size ≤ q9 := fun _ h => Or.inl h
  have E := Ext.refl (No) w
  replace HF := HF.on E
  replace LW := LW.step E XLW
  replace E := Ext.refl (No) w
  replace HF := HF.and (Per.nums0 hx)
  replace HF := HF.on E
  replace LW := LW.step E XLW
  replace E := Ext.refl (No) w
  replace HF := HF.and (Per.nums0 hy)
  replace HF := HF.on E
  replace LW := LW.step E XLW
  replace E := Ext.refl (No) w
  replace HF := HF.and (Per.cell0 hc0)
  replace HF := HF.on E
  replace LW := LW.step E XLW
  replace E := Ext.refl (No) w
  replace HF := HF.and (Per.cell0 hd0)
  refine cw_seq ?_
  refine cw_region ?_
  refine rs_op rfl (ow_boxB rfl ?_)
  intro gb1 w2 Bb1 Eb1 Gb1
  have Gb1 : _ ≤ gb1 := Nat.le_trans E.size Gb1
  have GLb1 := Nat.le_trans LW.size Gb1
  replace E := E.trans Eb1.no
  clear Eb1
  replace HF := HF.cons (some_ge Gb1)
  replace E := E.cons (some gb1)
  replace XLW := Mut.grow XLW (fun k e => Or.inr (Nat.le_trans LW.size ((some_ge Gb1) k e)))
  replace HF := HF.on E
  replace LW := LW.step E XLW
  have SB : ∀ q9, No q9 → Mut [(some gb1)] q9 := (Mut.skip Mut.nil_)
  replace HF := HF.less SB
  replace XLW := fun k h => XLW k (SB k h)
  clear SB
  replace E := Ext.refl (No) w2
  replace HF := HF.and (Per.blkN Bb1 NotIn.nil)
  clear Bb1
  refine rs_op rfl (ow_boxB rfl ?_)
  intro gb3 w4 Bb3 Eb3 Gb3
  have Gb3 : _ ≤ gb3 := Nat.le_trans E.size Gb3
  have GLb3 := Nat.le_trans LW.size Gb3
  replace E := E.trans Eb3.no
  clear Eb3
  replace HF := HF.cons (some_ge Gb3)
  replace E := E.cons (some gb3)
  replace XLW := Mut.grow XLW (fun k e => Or.inr (Nat.le_trans LW.size ((some_ge Gb3) k e)))
  replace HF := HF.on E
  replace LW := LW.step E XLW
  have SB : ∀ q9, No q9 → Mut [(some gb3)] q9 := (Mut.skip Mut.nil_)
  replace HF := HF.less SB
  replace XLW := fun k h => XLW k (SB k h)
  clear SB
  replace E := Ext.refl (No) w4
  replace HF := HF.and (Per.blkN Bb3 NotIn.nil)
  clear Bb3
  refine rs_op rfl (ow_allocB zr41 ?_)
  intro gb5 w6 Bb5 Eb5 Gb5
  have Gb5 : _ ≤ gb5 := Nat.le_trans E.size Gb5
  have GLb5 := Nat.le_trans LW.size Gb5
  replace E := E.trans Eb5.no
  clear Eb5
  replace HF := HF.cons (some_ge Gb5)
  replace E := E.cons (some gb5)
  replace XLW := Mut.grow XLW (fun k e => Or.inr (Nat.le_trans LW.size ((some_ge Gb5) k e)))
  refine rs_op rfl (ow_assign rfl ?_)
  refine rs_nil ?_
  refine ew_next ?_
  refine cw_seq ?_
  refine cw_seq ?_
  refine cw_region ?_
  refine rs_op rfl (ow_loadB Tryz.underlying41 rfl sz41 rfl (HF.on E).here.1.2 rfl ?_)
  refine rs_op rfl (ow_enter en76 rfl ((goodI _ c _ hi (HF.on E).here.1.1.1.1.1.2).mono ?_))
  rintro e w7 ⟨rfl, hb⟩
  refine ⟨_, rfl, ?_⟩
  have Ec := Ext.of_below hb No
  replace Bb5 := Bb5.extN Ec NotIn.nil
  replace E := E.trans Ec.no
  clear hb Ec
  refine rs_op rfl (ow_not rfl ?_)
  refine rs_op rfl (ow_move rfl ?_)
  refine rs_op rfl (ow_on rfl (ow_loadB Tryz.underlying41 rfl sz41 rfl (HF.on E).here.2 rfl ?_))
  refine rs_op rfl (ow_on rfl (ow_enter en76 rfl ((goodI _ d _ hj (HF.on E).here.1.1.1.1.2).mono ?_)))
  rintro e w8 ⟨rfl, hb⟩
  refine ⟨_, rfl, ?_⟩
  have Ec := Ext.of_below hb No
  replace Bb5 := Bb5.extN Ec NotIn.nil
  replace E := E.trans Ec.no
  clear hb Ec
  refine rs_op rfl (ow_on rfl (ow_not rfl ?_))
  refine rs_op rfl (ow_pickF rfl rfl ?_)
  refine rs_nil ?_
  refine ew_next ?_
  refine cw_else rfl ?_
  refine cw_skip ?_
  refine ew_next ?_
  refine cw_seq ?_
  refine cw_seq ?_
  refine cw_region ?_
  refine rs_op rfl (ow_fieldAddr Tryz.underlying41 rfl sz4 (by decide) rfl ?_)
  refine rs_op rfl (ow_loadF Tryz.underlying4 rfl rfl (HF.on E).here.2 rfl ?_)
  refine rs_nil ?_
  refine ew_next ?_
  refine cw_set 19 (.bool false) rfl ((by rw [hd] : (.bool (decide (j < 0)) : Value) = _)) ?_
  refine cw_else rfl ?_
  refine cw_skip ?_
  refine ew_next ?_
  refine cw_seq ?_
  refine cw_region ?_
  refine rs_op rfl (ow_enter en82 rfl ((of_any 1 _ (by decide) (by decide)).mono ?_))
  rintro e w9 ⟨A1, c1, rfl, o1, hb⟩
  refine ⟨_, rfl, ?_⟩
  have XC : ∀ q9, (Mut [(some gb5)]) q9 → q9 < w8.heap.size := (Mut.grow Mut.none_ (some_lt Bb5.lt))
  have SC := Nat.le_trans LW.size E.size
  have Ec := Ext.of_below hb No
  replace Bb5 := Bb5.extN Ec NotIn.nil
  replace E := E.trans Ec.no
  clear hb Ec
  have S1 := SC
  replace HF := HF.on E
  replace LW := LW.step E XLW
  replace E := Ext.refl (Mut [(some gb5)]) w9
  replace HF := HF.and (Per.ownX o1 XC)
  refine rs_op rfl (ow_allocB zr41 ?_)
  intro gb10 w11 Bb10 Eb10 Gb10
  have Db10_b5 : Apart (some gb10) (some gb5) := Apart.of_lt (some_lt Bb5.lt) Gb10
  have Db5_b10 := Db10_b5.symm
  have Gb10 : _ ≤ gb10 := Nat.le_trans E.size Gb10
  have GLb10 := Nat.le_trans LW.size Gb10
  replace Bb5 := Bb5.extN Eb10 NotIn.nil
  replace E := E.trans Eb10.no
  clear Eb10
  replace HF := HF.cons (some_ge Gb10)
  replace E := E.cons (some gb10)
  replace XLW := Mut.grow XLW (fun k e => Or.inr (Nat.le_trans LW.size ((some_ge Gb10) k e)))
  refine rs_op0 (ow_storeM sz41 rfl rfl Bb10 rfl rfl (Nat.le_of_ble_eq_true rfl) ?_)
  intro w12 Bx Eb10
  replace Bb10 := Bx
  clear Bx
  replace Bb5 := Bb5.extN Eb10 (NotIn.cons Db5_b10 NotIn.nil)
  replace E := E.step1 Eb10 Mut.head
  clear Eb10
  refine rs_nil ?_
  refine ew_next ?_
  refine cw_seq ?_
  refine cw_seq ?_
  refine cw_region ?_
  refine rs_op rfl (ow_fieldAddr Tryz.underlying41 rfl sz39 (by decide) rfl ?_)
  refine rs_op rfl (ow_loadF Tryz.underlying39 rfl rfl (HF.on E).here.1.2 rfl ?_)
  refine rs_op rfl (ow_len Tryz.underlying39 rfl ?_)
  refine rs_op rfl (ow_eql rfl rfl ?_)
  refine rs_nil ?_
  refine ew_next ?_
  refine cw_set 25 (.bool false) rfl ((by rw [beq_eq_false_iff_ne.2 hlen] : (.bool (((((limbs j).length : Nat)) : Int) == 0) : Value) = _)) ?_
  refine cw_else rfl ?_
  refine cw_skip ?_
  refine ew_next ?_
  refine cw_seq ?_
  refine cw_seq ?_
  refine cw_region ?_
  refine rs_op rfl (ow_fieldAddr Tryz.underlying41 rfl sz39 (by decide) rfl ?_)
  refine rs_op rfl (ow_loadF Tryz.underlying39 rfl rfl (HF.on E).here.1.1.2 rfl ?_)
  refine rs_op rfl (ow_len Tryz.underlying39 rfl ?_)
  refine rs_op rfl (ow_eql rfl rfl ?_)
  refine rs_op rfl (ow_move rfl ?_)
  refine rs_set 31 (.bool false) rfl ((by rw [beq_eq_false_iff_ne.2 hleni] : (.bool (((((limbs i).length : Nat)) : Int) == 0) : Value) = _)) ?_
  refine rs_op rfl (ow_on rfl (ow_fieldAddr Tryz.underlying41 rfl sz39 (by decide) rfl ?_))
  refine rs_op rfl (ow_on rfl (ow_loadF Tryz.underlying39 rfl rfl (HF.on E).here.1.1.2 rfl ?_))
  refine rs_op rfl (ow_on rfl (ow_len Tryz.underlying39 rfl ?_))
  refine rs_op rfl (ow_on rfl (ow_eql rfl rfl ?_))
  refine rs_op rfl (ow_on rfl (ow_move rfl ?_))
  have h1 : ((limbs i).length : Int) ≠ 1 := by have := lim_len2 h; omega
  refine rs_set 36 (.bool false) rfl ((by rw [beq_eq_false_iff_ne.2 h1] : (.bool (((((limbs i).length : Nat)) : Int) == 1) : Value) = _)) ?_
  refine rs_op rfl (ow_off rfl ?_)
  refine rs_op rfl (ow_off rfl ?_)
  refine rs_op rfl (ow_off rfl ?_)
  refine rs_op rfl (ow_off rfl ?_)
  refine rs_op rfl (ow_off rfl ?_)
  refine rs_op rfl (ow_on rfl (ow_pickF rfl rfl ?_))
  refine rs_op rfl (ow_pickF rfl rfl ?_)
  refine rs_nil ?_
  refine ew_next ?_
  refine cw_else rfl ?_
  refine cw_skip ?_
  refine ew_next ?_
  refine cw_seq ?_
  refine cw_seq ?_
  refine cw_region ?_
  refine rs_op rfl (ow_fieldAddr Tryz.underlying41 rfl sz39 (by decide) rfl ?_)
  refine rs_op rfl (ow_loadF Tryz.underlying39 rfl rfl (HF.on E).here.1.2 rfl ?_)
  refine rs_op rfl (ow_len Tryz.underlying39 rfl ?_)
  refine rs_op rfl (ow_gtr rfl rfl ?_)
  refine rs_op rfl (ow_move rfl ?_)
  have h2 : ¬ (1 : Int) < ((limbs j).length : Int) := by rw [lim_len1 (by omega) hjb]; decide
  refine rs_set 61 (.bool false) rfl ((by rw [decide_eq_false h2] : (.bool (decide (1 < ((((limbs j).length : Nat)) : Int))) : Value) = _)) ?_
  refine rs_op rfl (ow_on rfl (ow_fieldAddr Tryz.underlying41 rfl sz39 (by decide) rfl ?_))
  refine rs_op rfl (ow_on rfl (ow_loadF Tryz.underlying39 rfl rfl (HF.on E).here.1.2 rfl ?_))
  refine rs_op rfl (ow_on rfl (ow_indexAddr1 (j := 0) Tryz.underlying39 sz22 rfl rfl rfl hjp ?_))
  refine rs_op rfl (ow_on rfl (ow_load1 Tryz.underlying22 rfl rfl (HF.on E).here.1.1.1.2 ?_))
  refine rs_op rfl (ow_on rfl (ow_gtr rfl rfl ?_))
  refine rs_op rfl (ow_pickF rfl rfl ?_)
  refine rs_nil ?_
  refine ew_next ?_
  refine cw_set 67 (.bool true) rfl ((by rw [Nat.mod_eq_of_lt hjb, decide_eq_true (by omega)] : (.bool (decide (2000 < (((j.natAbs % B18 : Nat) : Int)))) : Value) = _)) ?_
  refine cw_then rfl ?_
  refine cw_seq ?_
  refine cw_region ?_
  refine rs_op rfl (ow_build (cs := #[.bool false, .slice none 0 0]) pl41 zr41 rfl rfl ?_)
  refine rs_op0 (ow_storeM sz41 rfl rfl Bb5 rfl rfl (Nat.le_of_ble_eq_true rfl) ?_)
  intro w13 Bx Eb5
  replace Bb5 := Bx
  clear Bx
  replace Bb10 := Bb10.extN Eb5 (NotIn.cons Db10_b5 NotIn.nil)
  replace E := E.step1 Eb5 (Mut.tail Mut.head)
  clear Eb5
  refine rs_op rfl (ow_assign rfl ?_)
  refine rs_nil ?_
  refine ew_next ?_
  refine cw_ret ?_
  refine ew_then_ret ?_
  refine ew_ret (rs := [.cell 4 41, .tmp 5]) (vs := [_, _]) rfl ⟨⟨_, rfl, res_box Tryz.underlying41 rfl sz41 Bb5 rfl⟩, rfl, trivial⟩ ?_
  exact retErr_zero (LW.step E XLW).toBelow
theorem pow_l1 (h0 : 0 < j) (hj2 : j ≤ 2000) (h2i : 2 ≤ i.natAbs) (h : i.natAbs < B18) : Calls Tryz.prog 83 #[.agg #[.bool (decide (i < 0)), .slice A (limbs i).length c], .agg #[.bool (decide (j < 0)), .slice B (limbs j).length d]] w (RetBigErr w (outV true (i ^ j.toNat)) (outE true (i ^ j.toNat))) := by
  have hjb : j.natAbs < B18 := by unfold B18; omega
  have ejm : j.natAbs % B18 = j.toNat := by rw [Nat.mod_eq_of_lt hjb]; omega
  have hd : decide (j < 0) = false := decide_eq_false (by omega)
  have hip := lim_pos (j := i) (by omega)
  have hjp := lim_pos (j := j) (by omega)
  have hlen : ((limbs j).length : Int) ≠ 0 := by omega
  have hleni : ((limbs i).length : Int) ≠ 0 := by omega
  obtain ⟨bx, ox, rfl, hbx, hcx⟩ := hx.2 hip
  obtain ⟨by_, oy, rfl, hby, hcy⟩ := hy.2 hjp
  have hc0 : w.cell? ⟨bx, ox + 0, none⟩ = some (.int .u64 ((i.natAbs % B18 : Nat) : Int)) := by rw [hcx 0 hip, nth_lim0 (by omega)]
  have hd0 : w.cell? ⟨by_, oy + 0, none⟩ = some (.int .u64 (((j.toNat : Nat) : Int))) := by rw [hcy 0 hjp, nth_lim0 (by omega)]; rw [ejm]
  refine calls_cw Tryz.func83 rfl Tryz.ntmps83 rfl ?_
  have HF : Per (No) w (fun _ => True) := Per.true_
  have LW := Ext.refl (No) w
  have XLW : ∀ q9, (No) q9 → (No) q9 ∨ w.heap.size ≤ q9 := fun _ h => Or.inl h
  have E := Ext.refl (No) w
  replace HF := HF.on E
  replace LW := LW.step E XLW
  replace E := Ext.refl (No) w
  replace HF := HF.and (Per.nums0 hx)
  replace HF := HF.on E
  replace LW := LW.step E XLW
  replace E := Ext.refl (No) w
  replace HF := HF.and (Per.nums0 hy)
  replace HF := HF.on E
  replace LW := LW.step E XLW
  replace E := Ext.refl (No) w
  replace HF := HF.and (Per.cell0 hc0)
  replace HF := HF.on E
  replace LW := LW.step E XLW
  replace E := Ext.refl (No) w
  replace HF := HF.and (Per.cell0 hd0)
  refine cw_seq ?_
  refine cw_region ?_
  refine rs_op rfl (ow_boxB rfl ?_)
  intro gb1 w2 Bb1 Eb1 Gb1
  have Gb1 : _ ≤ gb1 := Nat.le_trans E.size Gb1
  have GLb1 := Nat.le_trans LW.size Gb1
  replace E := E.trans Eb1.no
  clear Eb1
  replace HF := HF.cons (some_ge Gb1)
  replace E := E.cons (some gb1)
  replace XLW := Mut.grow XLW (fun k e => Or.inr (Nat.le_trans LW.size ((some_ge Gb1) k e)))
  replace HF := HF.on E
  replace LW := LW.step E XLW
  have SB : ∀ q9, No q9 → Mut [(some gb1)] q9 := (Mut.skip Mut.nil_)
  replace HF := HF.less SB
  replace XLW := fun k h => XLW k (SB k h)
  clear SB
  replace E := Ext.refl (No) w2
  replace HF := HF.and (Per.blkN Bb1 NotIn.nil)
  clear Bb1
  refine rs_op rfl (ow_boxB rfl ?_)
  intro gb3 w4 Bb3 Eb3 Gb3
  have Gb3 : _ ≤ gb3 := Nat.le_trans E.size Gb3
  have GLb3 := Nat.le_trans LW.size Gb3
  replace E := E.trans Eb3.no
  clear Eb3
  replace HF := HF.cons (some_ge Gb3)
  replace E := E.cons (some gb3)
  replace XLW := Mut.grow XLW (fun k e => Or.inr (Nat.le_trans LW.size ((some_ge Gb3) k e)))
  replace HF := HF.on E
  replace LW := LW.step E XLW
  have SB : ∀ q9, No q9 → Mut [(some gb3)] q9 := (Mut.skip Mut.nil_)
  replace HF := HF.less SB
  replace XLW := fun k h => XLW k (SB k h)
  clear SB
  replace E := Ext.refl (No) w4
  replace HF := HF.and (Per.blkN Bb3 NotIn.nil)
  clear Bb3
  refine rs_op rfl (ow_allocB zr41 ?_)
  intro gb5 w6 Bb5 Eb5 Gb5
  have Gb5 : _ ≤ gb5 := Nat.le_trans E.size Gb5
  have GLb5 := Nat.le_trans LW.size Gb5
  replace E := E.trans Eb5.no
  clear Eb5
  replace HF := HF.cons (some_ge Gb5)
  replace E := E.cons (some gb5)
  replace XLW := Mut.grow XLW (fun k e => Or.inr (Nat.le_trans LW.size ((some_ge Gb5) k e)))
  refine rs_op rfl (ow_assign rfl ?_)
  refine rs_nil ?_
  refine ew_next ?_
  refine cw_seq ?_
  refine cw_seq ?_
  refine cw_region ?_
  refine rs_op rfl (ow_loadB Tryz.underlying41 rfl sz41 rfl (HF.on E).here.1.2 rfl ?_)
  refine rs_op rfl (ow_enter en76 rfl ((goodI _ c _ hi (HF.on E).here.1.1.1.1.1.2).mono ?_))
  rintro e w7 ⟨rfl, hb⟩
  refine ⟨_, rfl, ?_⟩
  have Ec := Ext.of_below hb No
  replace Bb5 := Bb5.extN Ec NotIn.nil
  replace E := E.trans Ec.no
  clear hb Ec
  refine rs_op rfl (ow_not rfl ?_)
  refine rs_op rfl (ow_move rfl ?_)
  refine rs_op rfl (ow_on rfl (ow_loadB Tryz.underlying41 rfl sz41 rfl (HF.on E).here.2 rfl ?_))
  refine rs_op rfl (ow_on rfl (ow_enter en76 rfl ((goodI _ d _ hj (HF.on E).here.1.1.1.1.2).mono ?_)))
  rintro e w8 ⟨rfl, hb⟩
  refine ⟨_, rfl, ?_⟩
  have Ec := Ext.of_below hb No
  replace Bb5 := Bb5.extN Ec NotIn.nil
  replace E := E.trans Ec.no
  clear hb Ec
  refine rs_op rfl (ow_on rfl (ow_not rfl ?_))
  refine rs_op rfl (ow_pickF rfl rfl ?_)
  refine rs_nil ?_
  refine ew_next ?_
  refine cw_else rfl ?_
  refine cw_skip ?_
  refine ew_next ?_
  refine cw_seq ?_
  refine cw_seq ?_
  refine cw_region ?_
  refine rs_op rfl (ow_fieldAddr Tryz.underlying41 rfl sz4 (by decide) rfl ?_)
  refine rs_op rfl (ow_loadF Tryz.underlying4 rfl rfl (HF.on E).here.2 rfl ?_)
  refine rs_nil ?_
  refine ew_next ?_
  refine cw_set 19 (.bool false) rfl ((by rw [hd] : (.bool (decide (j < 0)) : Value) = _)) ?_
  refine cw_else rfl ?_
  refine cw_skip ?_
  refine ew_next ?_
  refine cw_seq ?_
  refine cw_region ?_
  refine rs_op rfl (ow_enter en82 rfl ((of_any 1 _ (by decide) (by decide)).mono ?_))
  rintro e w9 ⟨A1, c1, rfl, o1, hb⟩
  refine ⟨_, rfl, ?_⟩
  have XC : ∀ q9, (Mut [(some gb5)]) q9 → q9 < w8.heap.size := (Mut.grow Mut.none_ (some_lt Bb5.lt))
  have SC := Nat.le_trans LW.size E.size
  have Ec := Ext.of_below hb No
  replace Bb5 := Bb5.extN Ec NotIn.nil
  replace E := E.trans Ec.no
  clear hb Ec
  have S1 := SC
  replace HF := HF.on E
  replace LW := LW.step E XLW
  replace E := Ext.refl (Mut [(some gb5)]) w9
  replace HF := HF.and (Per.ownX o1 XC)
  refine rs_op rfl (ow_allocB zr41 ?_)
  intro gb10 w11 Bb10 Eb10 Gb10
  have Db10_b5 : Apart (some gb10) (some gb5) := Apart.of_lt (some_lt Bb5.lt) Gb10
  have Db5_b10 := Db10_b5.symm
  have Gb10 : _ ≤ gb10 := Nat.le_trans E.size Gb10
  have GLb10 := Nat.le_trans LW.size Gb10
  replace Bb5 := Bb5.extN Eb10 NotIn.nil
  replace E := E.trans Eb10.no
  clear Eb10
  replace HF := HF.cons (some_ge Gb10)
  replace E := E.cons (some gb10)
  replace XLW := Mut.grow XLW (fun k e => Or.inr (Nat.le_trans LW.size ((some_ge Gb10) k e)))
  refine rs_op0 (ow_storeM sz41 rfl rfl Bb10 rfl rfl (Nat.le_of_ble_eq_true rfl) ?_)
  intro w12 Bx Eb10
  replace Bb10 := Bx
  clear Bx
  replace Bb5 := Bb5.extN Eb10 (NotIn.cons Db5_b10 NotIn.nil)
  replace E := E.step1 Eb10 Mut.head
  clear Eb10
  refine rs_nil ?_
  refine ew_next ?_
  refine cw_seq ?_
  refine cw_seq ?_
  refine cw_region ?_
  refine rs_op rfl (ow_fieldAddr Tryz.underlying41 rfl sz39 (by decide) rfl ?_)
  refine rs_op rfl (ow_loadF Tryz.underlying39 rfl rfl (HF.on E).here.1.2 rfl ?_)
  refine rs_op rfl (ow_len Tryz.underlying39 rfl ?_)
  refine rs_op rfl (ow_eql rfl rfl ?_)
  refine rs_nil ?_
  refine ew_next ?_
  refine cw_set 25 (.bool false) rfl ((by rw [beq_eq_false_iff_ne.2 hlen] : (.bool (((((limbs j).length : Nat)) : Int) == 0) : Value) = _)) ?_
  refine cw_else rfl ?_
  refine cw_skip ?_
  refine ew_next ?_
  refine cw_seq ?_
  refine cw_seq ?_
  refine cw_region ?_
  refine rs_op rfl (ow_fieldAddr Tryz.underlying41 rfl sz39 (by decide) rfl ?_)
  refine rs_op rfl (ow_loadF Tryz.underlying39 rfl rfl (HF.on E).here.1.1.2 rfl ?_)
  refine rs_op rfl (ow_len Tryz.underlying39 rfl ?_)
  refine rs_op rfl (ow_eql rfl rfl ?_)
  refine rs_op rfl (ow_move rfl ?_)
  refine rs_set 31 (.bool false) rfl ((by rw [beq_eq_false_iff_ne.2 hleni] : (.bool (((((limbs i).length : Nat)) : Int) == 0) : Value) = _)) ?_
  refine rs_op rfl (ow_on rfl (ow_fieldAddr Tryz.underlying41 rfl sz39 (by decide) rfl ?_))
  refine rs_op rfl (ow_on rfl (ow_loadF Tryz.underlying39 rfl rfl (HF.on E).here.1.1.2 rfl ?_))
  refine rs_op rfl (ow_on rfl (ow_len Tryz.underlying39 rfl ?_))
  refine rs_op rfl (ow_on rfl (ow_eql rfl rfl ?_))
  refine rs_op rfl (ow_on rfl (ow_move rfl ?_))
  have h1 : ((limbs i).length : Int) = 1 := by rw [lim_len1 (by omega) h]; rfl
  refine rs_set 36 (.bool true) rfl ((by rw [h1]; rfl : (.bool (((((limbs i).length : Nat)) : Int) == 1) : Value) = _)) ?_
  refine rs_op rfl (ow_on rfl (ow_fieldAddr Tryz.underlying41 rfl sz39 (by decide) rfl ?_))
  refine rs_op rfl (ow_on rfl (ow_loadF Tryz.underlying39 rfl rfl (HF.on E).here.1.1.2 rfl ?_))
  refine rs_op rfl (ow_on rfl (ow_indexAddr1 (j := 0) Tryz.underlying39 sz22 rfl rfl rfl hip ?_))
  refine rs_op rfl (ow_on rfl (ow_load1 Tryz.underlying22 rfl rfl (HF.on E).here.1.1.1.1.2 ?_))
  refine rs_op rfl (ow_on rfl (ow_eql rfl rfl ?_))
  refine rs_op rfl (ow_on rfl (ow_pickT rfl rfl ?_))
  refine rs_op rfl (ow_pickF rfl rfl ?_)
  refine rs_nil ?_
  refine ew_next ?_
  refine cw_set 43 (.bool false) rfl ((by rw [Nat.mod_eq_of_lt h, beq_eq_false_iff_ne.2 (by omega)] : (.bool (((i.natAbs % B18 : Nat) : Int) == 1) : Value) = _)) ?_
  refine cw_else rfl ?_
  refine cw_skip ?_
  refine ew_next ?_
  refine cw_seq ?_
  refine cw_seq ?_
  refine cw_region ?_
  refine rs_op rfl (ow_fieldAddr Tryz.underlying41 rfl sz39 (by decide) rfl ?_)
  refine rs_op rfl (ow_loadF Tryz.underlying39 rfl rfl (HF.on E).here.1.2 rfl ?_)
  refine rs_op rfl (ow_len Tryz.underlying39 rfl ?_)
  refine rs_op rfl (ow_gtr rfl rfl ?_)
  refine rs_op rfl (ow_move rfl ?_)
  have h2 : ¬ (1 : Int) < ((limbs j).length : Int) := by rw [lim_len1 (by omega) hjb]; decide
  refine rs_set 61 (.bool false) rfl ((by rw [decide_eq_false h2] : (.bool (decide (1 < ((((limbs j).length : Nat)) : Int))) : Value) = _)) ?_
  refine rs_op rfl (ow_on rfl (ow_fieldAddr Tryz.underlying41 rfl sz39 (by decide) rfl ?_))
  refine rs_op rfl (ow_on rfl (ow_loadF Tryz.underlying39 rfl rfl (HF.on E).here.1.2 rfl ?_))
  refine rs_op rfl (ow_on rfl (ow_indexAddr1 (j := 0) Tryz.underlying39 sz22 rfl rfl rfl hjp ?_))
  refine rs_op rfl (ow_on rfl (ow_load1 Tryz.underlying22 rfl rfl (HF.on E).here.1.1.1.2 ?_))
  refine rs_op rfl (ow_on rfl (ow_gtr rfl rfl ?_))
  refine rs_op rfl (ow_pickF rfl rfl ?_)
  refine rs_nil ?_
  refine ew_next ?_
  refine cw_set 67 (.bool false) rfl ((by rw [decide_eq_false (by omega)] : (.bool (decide (2000 < (((j.toNat : Nat) : Int)))) : Value) = _)) ?_
  refine cw_else rfl ?_
  refine cw_skip ?_
  refine ew_next ?_
  refine cw_seq ?_
  refine cw_seq ?_
  refine cw_region ?_
  refine rs_op rfl (ow_fieldAddr Tryz.underlying41 rfl sz39 (by decide) rfl ?_)
  refine rs_op rfl (ow_loadF Tryz.underlying39 rfl rfl (HF.on E).here.1.2 rfl ?_)
  refine rs_op rfl (ow_indexAddr1 (j := 0) Tryz.underlying39 sz22 rfl rfl rfl hjp ?_)
  refine rs_op rfl (ow_load1 Tryz.underlying22 rfl rfl (HF.on E).here.1.1.1.2 ?_)
  refine rs_op rfl (ow_move rfl ?_)
  refine rs_nil ?_
  refine ew_next ?_
  refine cw_block ?_
  have b1 : (i ^ 0).natAbs < B18 ^ 30 := by rw [Int.pow_zero]; exact Nat.one_lt_pow (by decide) (by unfold B18; omega)
  have e0 : i ^ 0 = 1 := Int.pow_zero i
  replace Bb10 : Blk w12 gb10 41 #[.bool (decide (i ^ 0 < 0)), .slice A1 (limbs (i ^ 0)).length c1] := by rw [e0]; exact Bb10
  replace HF := HF.on E
  replace LW := LW.step E XLW
  replace E := Ext.refl (Mut [(some gb10), (some gb5)]) w12
  refine cw_loop (ι := Nat × Option Addr × Nat) (fun (k, A1, c1) => [(2, .pointer (some ⟨gb1, 0, none⟩)), (4, .pointer (some ⟨gb5, 0, none⟩)), (6, .pointer (some ⟨gb10, 0, none⟩)), (72, .int .u64 ((j.toNat : Nat) : Int)), (73, .int .u64 ((k : Nat) : Int))]) (fun (k, A1, c1) w' => Ext (Mut [(some gb10), (some gb5)]) w12 w' ∧ Blk w' gb10 41 (#[.bool (decide (i ^ k < 0)), .slice A1 (limbs (i ^ k)).length c1]) ∧ Blk w' gb5 41 (#[.bool false, .slice none 0 0]) ∧ (k ≤ j.toNat ∧ (i ^ k).natAbs < B18 ^ 30 ∧ Own w' w.heap.size A1 c1 (limbs (i ^ k)))) (fun (k, A1, c1) => j.toNat - k) (0, A1, c1) ⟨rfl, rfl, rfl, rfl, rfl, trivial⟩ ⟨Ext.refl _ _, (by exact Bb10), (by exact Bb5), ⟨Nat.zero_le _, b1, by rw [e0]; exact ((HF.on E).here.2).mono S1⟩⟩ ?_
  have LTb10 := (some_lt Bb10.lt)
  have LTb5 := (some_lt Bb5.lt)
  clear Bb10
  clear Bb5
  rintro ⟨k, A1, c1⟩ w14 ⟨M13, Bb10, Bb5, ⟨hk, hb1, hown⟩⟩
  have XM13 : ∀ q9, (Mut [(some gb10), (some gb5)]) q9 → (Mut [(some gb10), (some gb5)]) q9 ∨ w12.heap.size ≤ q9 := (Mut.grow (Mut.grow Mut.none_ (fun k e => Or.inl ((Mut.tail Mut.head) k e))) (fun k e => Or.inl (Mut.head k e)))
  replace E := E.trans M13
  replace HF := HF.on E
  replace LW := LW.step E XLW
  replace E := Ext.refl (Mut [(some gb10), (some gb5)]) w14
  clear LTb10
  clear LTb5
  replace HF := HF.on E
  replace LW := LW.step E XLW
  replace M13 := M13.step E XM13
  replace E := Ext.refl (Mut [(some gb10), (some gb5)]) w14
  replace HF := HF.and (Per.ownN hown (NotIn.cons (own_apart hown Bb10 (by decide)) (NotIn.cons (own_apart hown Bb5 (by decide)) NotIn.nil)))
  refine cw_seq ?_
  refine cw_region ?_
  refine rs_op rfl (ow_lss rfl rfl ?_)
  refine rs_nil ?_
  refine ew_next ?_
  refine cw_seq ?_
  refine cw_cond rfl (fun hlt => ?_) (fun hlt => ?_)
  · have _way := True.intro
    have hlt := of_decide_eq_true hlt
    refine cw_skip ?_
    refine ew_next ?_
    refine cw_seq ?_
    refine cw_block ?_
    refine cw_seq ?_
    refine cw_region ?_
    refine rs_op rfl (ow_loadB Tryz.underlying41 rfl sz41 rfl Bb10 rfl ?_)
    refine rs_op rfl (ow_loadB Tryz.underlying41 rfl sz41 rfl (HF.on E).here.1.1.1.2 rfl ?_)
    refine rs_op rfl (ow_enter en84 rfl ((mulI A1 _ c1 c _ hb1 hi ((HF.on E).here.2).nums (HF.on E).here.1.1.1.1.1.1.1.2).mono ?_))
    rintro e w15 ⟨A3, c3, rfl, o3, hb⟩
    refine ⟨_, rfl, ?_⟩
    have XC : ∀ q9, (Mut [(some gb10), (some gb5)]) q9 → q9 < w14.heap.size := (Mut.grow (Mut.grow Mut.none_ (some_lt Bb5.lt)) (some_lt Bb10.lt))
    have SC := Nat.le_trans LW.size E.size
    have Ec := Ext.of_below hb No
    replace Bb10 := Bb10.extN Ec NotIn.nil
    replace Bb5 := Bb5.extN Ec NotIn.nil
    replace E := E.trans Ec.no
    clear hb Ec
    have S3 := SC
    replace HF := HF.on E
    replace LW := LW.step E XLW
    replace M13 := M13.step E XM13
    replace E := Ext.refl (Mut [(some gb10), (some gb5)]) w15
    replace HF := HF.and (Per.ownX o3 XC)
    refine rs_op rfl (ow_move rfl ?_)
    refine rs_op rfl (ow_extract rfl rfl ?_)
    refine rs_op rfl (ow_extract rfl rfl ?_)
    refine rs_op rfl (ow_allocB zr41 ?_)
    intro gb16 w17 Bb16 Eb16 Gb16
    have Db16_b10 : Apart (some gb16) (some gb10) := Apart.of_lt (some_lt Bb10.lt) Gb16
    have Db10_b16 := Db16_b10.symm
    have Db16_b5 : Apart (some gb16) (some gb5) := Apart.of_lt (some_lt Bb5.lt) Gb16
    have Db5_b16 := Db16_b5.symm
    have Gb16 : _ ≤ gb16 := Nat.le_trans E.size Gb16
    have GLb16 := Nat.le_trans LW.size Gb16
    replace Bb10 := Bb10.extN Eb16 NotIn.nil
    replace Bb5 := Bb5.extN Eb16 NotIn.nil
    replace E := E.trans Eb16.no
    clear Eb16
    replace HF := HF.cons (some_ge Gb16)
    replace E := E.cons (some gb16)
    replace XLW := Mut.grow XLW (fun k e => Or.inr (Nat.le_trans LW.size ((some_ge Gb16) k e)))
    replace XM13 := Mut.grow XM13 (fun k e => Or.inr (Nat.le_trans M13.size ((some_ge Gb16) k e)))
    refine rs_op0 (ow_storeM sz41 rfl rfl Bb16 rfl rfl (Nat.le_of_ble_eq_true rfl) ?_)
    intro w18 Bx Eb16
    replace Bb16 := Bx
    clear Bx
    replace Bb10 := Bb10.extN Eb16 (NotIn.cons Db10_b16 NotIn.nil)
    replace Bb5 := Bb5.extN Eb16 (NotIn.cons Db5_b16 NotIn.nil)
    replace E := E.step1 Eb16 Mut.head
    clear Eb16
    refine rs_op rfl (ow_assign rfl ?_)
    refine rs_nil ?_
    refine ew_next ?_
    refine cw_seq ?_
    refine cw_seq ?_
    refine cw_region ?_
    refine rs_op rfl (ow_move rfl ?_)
    refine rs_op rfl (ow_neq rfl rfl ?_)
    refine rs_nil ?_
    refine ew_next ?_
    refine cw_cond rfl (fun q => ?_) (fun q => ?_)
    · have _way := True.intro
      have e1 : B18 ^ 30 ≤ (i ^ j.toNat).natAbs := by
        have h7 : ¬ (i ^ k * i).natAbs < B18 ^ 30 := fun h9 => by rw [outE_ok h9] at q; exact absurd q (by decide)
        have h8 := pow_mono (i := i) (by omega) (show k + 1 ≤ j.toNat by omega)
        rw [Int.pow_succ] at h8
        omega
      have e2 : outE true (i ^ k * i) = 7 := outE_big (by
        rcases Nat.lt_or_ge (i ^ k * i).natAbs (B18 ^ 30) with h9 | h9
        · rw [outE_ok h9] at q; exact absurd q (by decide)
        · exact h9)
      refine cw_seq ?_
      refine cw_region ?_
      refine rs_op rfl (ow_build (cs := #[.bool false, .slice none 0 0]) pl41 zr41 rfl rfl ?_)
      refine rs_op rfl (ow_move rfl ?_)
      refine rs_op0 (ow_storeM sz41 rfl rfl Bb5 rfl rfl (Nat.le_of_ble_eq_true rfl) ?_)
      intro w19 Bx Eb5
      replace Bb5 := Bx
      clear Bx
      replace Bb16 := Bb16.extN Eb5 (NotIn.cons Db16_b5 NotIn.nil)
      replace Bb10 := Bb10.extN Eb5 (NotIn.cons Db10_b5 NotIn.nil)
      replace E := E.step1 Eb5 (Mut.tail (Mut.tail Mut.head))
      clear Eb5
      refine rs_op rfl (ow_assign rfl ?_)
      refine rs_nil ?_
      refine ew_next ?_
      refine cw_ret ?_
      refine ew_then_ret ?_
      refine ew_block_ret ?_
      refine ew_then_ret ?_
      refine ew_then_ret ?_
      refine ew_block_ret ?_
      refine ew_then_ret ?_
      refine ew_set 5 (.int .i64 7) rfl ((by rw [e2] : (.int .i64 (outE true (i ^ k * i)) : Value) = _)) ?_
      refine ew_ret (rs := [.cell 4 41, .tmp 5]) (vs := [_, _]) rfl ⟨⟨_, rfl, res_box Tryz.underlying41 rfl sz41 Bb5 rfl⟩, rfl, trivial⟩ ?_
      exact by rw [outV_big e1, outE_big e1]; exact retErr_zero (LW.step E XLW).toBelow
    · have _way := True.intro
      have h9 : (i ^ k * i).natAbs < B18 ^ 30 := outE_zero (by simpa using q)
      have eV : outV true (i ^ k * i) = i ^ (k + 1) := by rw [outV_ok h9, Int.pow_succ]
      refine cw_skip ?_
      refine ew_next ?_
      refine cw_region ?_
      refine rs_op rfl (ow_loadB Tryz.underlying41 rfl sz41 rfl Bb16 rfl ?_)
      refine rs_op0 (ow_storeM sz41 rfl rfl Bb10 rfl rfl (Nat.le_of_ble_eq_true rfl) ?_)
      intro w20 Bx Eb10
      replace Bb10 := Bx
      clear Bx
      replace Bb16 := Bb16.extN Eb10 (NotIn.cons Db16_b10 NotIn.nil)
      replace Bb5 := Bb5.extN Eb10 (NotIn.cons Db5_b10 NotIn.nil)
      replace E := E.step1 Eb10 (Mut.tail Mut.head)
      clear Eb10
      refine rs_nil ?_
      refine ew_block_normal ?_
      refine ew_next ?_
      refine cw_region ?_
      refine rs_op rfl (ow_add rfl rfl (wrap_u64 (by omega)) ?_)
      refine rs_op rfl (ow_move rfl ?_)
      refine rs_nil ?_
      rw [eV] at Bb10
      exact ew_round (ι := Nat × Option Addr × Nat) (s := fun (k, A1, c1) => [(2, .pointer (some ⟨gb1, 0, none⟩)), (4, .pointer (some ⟨gb5, 0, none⟩)), (6, .pointer (some ⟨gb10, 0, none⟩)), (72, .int .u64 ((j.toNat : Nat) : Int)), (73, .int .u64 ((k : Nat) : Int))]) (R := fun (k, A1, c1) w' => Ext (Mut [(some gb10), (some gb5)]) w12 w' ∧ Blk w' gb10 41 (#[.bool (decide (i ^ k < 0)), .slice A1 (limbs (i ^ k)).length c1]) ∧ Blk w' gb5 41 (#[.bool false, .slice none 0 0]) ∧ (k ≤ j.toNat ∧ (i ^ k).natAbs < B18 ^ 30 ∧ Own w' w.heap.size A1 c1 (limbs (i ^ k)))) (m := fun (k, A1, c1) => j.toNat - k) (i := ⟨k, A1, c1⟩) (k + 1, A3, c3) (by show j.toNat - (k + 1) < j.toNat - k; omega) ⟨rfl, rfl, rfl, rfl, rfl, trivial⟩ ⟨M13.step E XM13, (by exact Bb10), (by exact Bb5), by omega, by rw [Int.pow_succ]; exact h9, by rw [← eV]; exact ((HF.on E).here.2).mono S3⟩
  · have _way := True.intro
    have hge := of_decide_eq_false hlt
    obtain rfl : k = j.toNat := by omega
    refine cw_exit ?_
    refine ew_then_exit ?_
    refine ew_then_exit ?_
    refine ew_block_here ?_
    refine ew_next ?_
    refine cw_seq ?_
    refine cw_region ?_
    refine rs_op rfl (ow_loadB Tryz.underlying41 rfl sz41 rfl Bb10 rfl ?_)
    refine rs_op0 (ow_storeM sz41 rfl rfl Bb5 rfl rfl (Nat.le_of_ble_eq_true rfl) ?_)
    intro w21 Bx Eb5
    replace Bb5 := Bx
    clear Bx
    replace Bb10 := Bb10.extN Eb5 (NotIn.cons Db10_b5 NotIn.nil)
    replace E := E.step1 Eb5 (Mut.tail Mut.head)
    clear Eb5
    replace HF := HF.on E
    replace LW := LW.step E XLW
    replace M13 := M13.step E XM13
    have SB : ∀ q9, Mut [(some gb10)] q9 → Mut [(some gb10), (some gb5)] q9 := (Mut.keep (Mut.skip Mut.nil_))
    replace HF := HF.less SB
    replace XLW := fun k h => XLW k (SB k h)
    replace XM13 := fun k h => XM13 k (SB k h)
    clear SB
    replace E := Ext.refl (Mut [(some gb10)]) w21
    replace HF := HF.and (Per.blkN Bb5 (NotIn.cons Db5_b10 NotIn.nil))
    clear Bb5
    refine rs_op rfl (ow_assign rfl ?_)
    refine rs_nil ?_
    refine ew_next ?_
    refine cw_ret ?_
    refine ew_ret (rs := [.cell 4 41, .tmp 5]) (vs := [_, _]) rfl ⟨⟨_, rfl, res_box Tryz.underlying41 rfl sz41 (HF.on E).here.2 rfl⟩, rfl, trivial⟩ ?_
    exact ⟨A1, c1, by rw [outV_ok hb1, outE_ok hb1]; rfl, by rw [outV_ok hb1]; exact (HF.on E).here.1.2, (LW.step E XLW).toBelow⟩
theorem pow_l2 (h0 : 0 < j) (hj2 : j ≤ 2000) (h2i : 2 ≤ i.natAbs) (h : B18 ≤ i.natAbs) : Calls Tryz.prog 83 #[.agg #[.bool (decide (i < 0)), .slice A (limbs i).length c], .agg #[.bool (decide (j < 0)), .slice B (limbs j).length d]] w (RetBigErr w (outV true (i ^ j.toNat)) (outE true (i ^ j.toNat))) := by
  have hjb : j.natAbs < B18 := by unfold B18; omega
  have ejm : j.natAbs % B18 = j.toNat := by rw [Nat.mod_eq_of_lt hjb]; omega
  have hd : decide (j < 0) = false := decide_eq_false (by omega)
  have hip := lim_pos (j := i) (by omega)
  have hjp := lim_pos (j := j) (by omega)
  have hlen : ((limbs j).length : Int) ≠ 0 := by omega
  have hleni : ((limbs i).length : Int) ≠ 0 := by omega
  obtain ⟨bx, ox, rfl, hbx, hcx⟩ := hx.2 hip
  obtain ⟨by_, oy, rfl, hby, hcy⟩ := hy.2 hjp
  have hc0 : w.cell? ⟨bx, ox + 0, none⟩ = some (.int .u64 ((i.natAbs % B18 : Nat) : Int)) := by rw [hcx 0 hip, nth_lim0 (by omega)]
  have hd0 : w.cell? ⟨by_, oy + 0, none⟩ = some (.int .u64 (((j.toNat : Nat) : Int))) := by rw [hcy 0 hjp, nth_lim0 (by omega)]; rw [ejm]
  refine calls_cw Tryz.func83 rfl Tryz.ntmps83 rfl ?_
  have HF : Per (No) w (fun _ => True) := Per.true_
  have LW := Ext.refl (No) w
  have XLW : ∀ q9, (No) q9 → (No) q9 ∨ w.heap.size ≤ q9 := fun _ h => Or.inl h
  have E := Ext.refl (No) w
  replace HF := HF.on E
  replace LW := LW.step E XLW
  replace E := Ext.refl (No) w
  replace HF := HF.and (Per.nums0 hx)
  replace HF := HF.on E
  replace LW := LW.step E XLW
  replace E := Ext.refl (No) w
  replace HF := HF.and (Per.nums0 hy)
  replace HF := HF.on E
  replace LW := LW.step E XLW
  replace E := Ext.refl (No) w
  replace HF := HF.and (Per.cell0 hc0)
  replace HF := HF.on E
  replace LW := LW.step E XLW
  replace E := Ext.refl (No) w
  replace HF := HF.and (Per.cell0 hd0)
  refine cw_seq ?_
  refine cw_region ?_
  refine rs_op rfl (ow_boxB rfl ?_)
  intro gb1 w2 Bb1 Eb1 Gb1
  have Gb1 : _ ≤ gb1 := Nat.le_trans E.size Gb1
  have GLb1 := Nat.le_trans LW.size Gb1
  replace E := E.trans Eb1.no
  clear Eb1
  replace HF := HF.cons (some_ge Gb1)
  replace E := E.cons (some gb1)
  replace XLW := Mut.grow XLW (fun k e => Or.inr (Nat.le_trans LW.size ((some_ge Gb1) k e)))
  replace HF := HF.on E
  replace LW := LW.step E XLW
  have SB : ∀ q9, No q9 → Mut [(some gb1)] q9 := (Mut.skip Mut.nil_)
  replace HF := HF.less SB
  replace XLW := fun k h => XLW k (SB k h)
  clear SB
  replace E := Ext.refl (No) w2
  replace HF := HF.and (Per.blkN Bb1 NotIn.nil)
  clear Bb1
  refine rs_op rfl (ow_boxB rfl ?_)
  intro gb3 w4 Bb3 Eb3 Gb3
  have Gb3 : _ ≤ gb3 := Nat.le_trans E.size Gb3
  have GLb3 := Nat.le_trans LW.size Gb3
  replace E := E.trans Eb3.no
  clear Eb3
  replace HF := HF.cons (some_ge Gb3)
  replace E := E.cons (some gb3)
  replace XLW := Mut.grow XLW (fun k e => Or.inr (Nat.le_trans LW.size ((some_ge Gb3) k e)))
  replace HF := HF.on E
  replace LW := LW.step E XLW
  have SB : ∀ q9, No q9 → Mut [(some gb3)] q9 := (Mut.skip Mut.nil_)
  replace HF := HF.less SB
  replace XLW := fun k h => XLW k (SB k h)
  clear SB
  replace E := Ext.refl (No) w4
  replace HF := HF.and (Per.blkN Bb3 NotIn.nil)
  clear Bb3
  refine rs_op rfl (ow_allocB zr41 ?_)
  intro gb5 w6 Bb5 Eb5 Gb5
  have Gb5 : _ ≤ gb5 := Nat.le_trans E.size Gb5
  have GLb5 := Nat.le_trans LW.size Gb5
  replace E := E.trans Eb5.no
  clear Eb5
  replace HF := HF.cons (some_ge Gb5)
  replace E := E.cons (some gb5)
  replace XLW := Mut.grow XLW (fun k e => Or.inr (Nat.le_trans LW.size ((some_ge Gb5) k e)))
  refine rs_op rfl (ow_assign rfl ?_)
  refine rs_nil ?_
  refine ew_next ?_
  refine cw_seq ?_
  refine cw_seq ?_
  refine cw_region ?_
  refine rs_op rfl (ow_loadB Tryz.underlying41 rfl sz41 rfl (HF.on E).here.1.2 rfl ?_)
  refine rs_op rfl (ow_enter en76 rfl ((goodI _ c _ hi (HF.on E).here.1.1.1.1.1.2).mono ?_))
  rintro e w7 ⟨rfl, hb⟩
  refine ⟨_, rfl, ?_⟩
  have Ec := Ext.of_below hb No
  replace Bb5 := Bb5.extN Ec NotIn.nil
  replace E := E.trans Ec.no
  clear hb Ec
  refine rs_op rfl (ow_not rfl ?_)
  refine rs_op rfl (ow_move rfl ?_)
  refine rs_op rfl (ow_on rfl (ow_loadB Tryz.underlying41 rfl sz41 rfl (HF.on E).here.2 rfl ?_))
  refine rs_op rfl (ow_on rfl (ow_enter en76 rfl ((goodI _ d _ hj (HF.on E).here.1.1.1.1.2).mono ?_)))
  rintro e w8 ⟨rfl, hb⟩
  refine ⟨_, rfl, ?_⟩
  have Ec := Ext.of_below hb No
  replace Bb5 := Bb5.extN Ec NotIn.nil
  replace E := E.trans Ec.no
  clear hb Ec
  refine rs_op rfl (ow_on rfl (ow_not rfl ?_))
  refine rs_op rfl (ow_pickF rfl rfl ?_)
  refine rs_nil ?_
  refine ew_next ?_
  refine cw_else rfl ?_
  refine cw_skip ?_
  refine ew_next ?_
  refine cw_seq ?_
  refine cw_seq ?_
  refine cw_region ?_
  refine rs_op rfl (ow_fieldAddr Tryz.underlying41 rfl sz4 (by decide) rfl ?_)
  refine rs_op rfl (ow_loadF Tryz.underlying4 rfl rfl (HF.on E).here.2 rfl ?_)
  refine rs_nil ?_
  refine ew_next ?_
  refine cw_set 19 (.bool false) rfl ((by rw [hd] : (.bool (decide (j < 0)) : Value) = _)) ?_
  refine cw_else rfl ?_
  refine cw_skip ?_
  refine ew_next ?_
  refine cw_seq ?_
  refine cw_region ?_
  refine rs_op rfl (ow_enter en82 rfl ((of_any 1 _ (by decide) (by decide)).mono ?_))
  rintro e w9 ⟨A1, c1, rfl, o1, hb⟩
  refine ⟨_, rfl, ?_⟩
  have XC : ∀ q9, (Mut [(some gb5)]) q9 → q9 < w8.heap.size := (Mut.grow Mut.none_ (some_lt Bb5.lt))
  have SC := Nat.le_trans LW.size E.size
  have Ec := Ext.of_below hb No
  replace Bb5 := Bb5.extN Ec NotIn.nil
  replace E := E.trans Ec.no
  clear hb Ec
  have S1 := SC
  replace HF := HF.on E
  replace LW := LW.step E XLW
  replace E := Ext.refl (Mut [(some gb5)]) w9
  replace HF := HF.and (Per.ownX o1 XC)
  refine rs_op rfl (ow_allocB zr41 ?_)
  intro gb10 w11 Bb10 Eb10 Gb10
  have Db10_b5 : Apart (some gb10) (some gb5) := Apart.of_lt (some_lt Bb5.lt) Gb10
  have Db5_b10 := Db10_b5.symm
  have Gb10 : _ ≤ gb10 := Nat.le_trans E.size Gb10
  have GLb10 := Nat.le_trans LW.size Gb10
  replace Bb5 := Bb5.extN Eb10 NotIn.nil
  replace E := E.trans Eb10.no
  clear Eb10
  replace HF := HF.cons (some_ge Gb10)
  replace E := E.cons (some gb10)
  replace XLW := Mut.grow XLW (fun k e => Or.inr (Nat.le_trans LW.size ((some_ge Gb10) k e)))
  refine rs_op0 (ow_storeM sz41 rfl rfl Bb10 rfl rfl (Nat.le_of_ble_eq_true rfl) ?_)
  intro w12 Bx Eb10
  replace Bb10 := Bx
  clear Bx
  replace Bb5 := Bb5.extN Eb10 (NotIn.cons Db5_b10 NotIn.nil)
  replace E := E.step1 Eb10 Mut.head
  clear Eb10
  refine rs_nil ?_
  refine ew_next ?_
  refine cw_seq ?_
  refine cw_seq ?_
  refine cw_region ?_
  refine rs_op rfl (ow_fieldAddr Tryz.underlying41 rfl sz39 (by decide) rfl ?_)
  refine rs_op rfl (ow_loadF Tryz.underlying39 rfl rfl (HF.on E).here.1.2 rfl ?_)
  refine rs_op rfl (ow_len Tryz.underlying39 rfl ?_)
  refine rs_op rfl (ow_eql rfl rfl ?_)
  refine rs_nil ?_
  refine ew_next ?_
  refine cw_set 25 (.bool false) rfl ((by rw [beq_eq_false_iff_ne.2 hlen] : (.bool (((((limbs j).length : Nat)) : Int) == 0) : Value) = _)) ?_
  refine cw_else rfl ?_
  refine cw_skip ?_
  refine ew_next ?_
  refine cw_seq ?_
  refine cw_seq ?_
  refine cw_region ?_
  refine rs_op rfl (ow_fieldAddr Tryz.underlying41 rfl sz39 (by decide) rfl ?_)
  refine rs_op rfl (ow_loadF Tryz.underlying39 rfl rfl (HF.on E).here.1.1.2 rfl ?_)
  refine rs_op rfl (ow_len Tryz.underlying39 rfl ?_)
  refine rs_op rfl (ow_eql rfl rfl ?_)
  refine rs_op rfl (ow_move rfl ?_)
  refine rs_set 31 (.bool false) rfl ((by rw [beq_eq_false_iff_ne.2 hleni] : (.bool (((((limbs i).length : Nat)) : Int) == 0) : Value) = _)) ?_
  refine rs_op rfl (ow_on rfl (ow_fieldAddr Tryz.underlying41 rfl sz39 (by decide) rfl ?_))
  refine rs_op rfl (ow_on rfl (ow_loadF Tryz.underlying39 rfl rfl (HF.on E).here.1.1.2 rfl ?_))
  refine rs_op rfl (ow_on rfl (ow_len Tryz.underlying39 rfl ?_))
  refine rs_op rfl (ow_on rfl (ow_eql rfl rfl ?_))
  refine rs_op rfl (ow_on rfl (ow_move rfl ?_))
  have h1 : ((limbs i).length : Int) ≠ 1 := by have := lim_len2 h; omega
  refine rs_set 36 (.bool false) rfl ((by rw [beq_eq_false_iff_ne.2 h1] : (.bool (((((limbs i).length : Nat)) : Int) == 1) : Value) = _)) ?_
  refine rs_op rfl (ow_off rfl ?_)
  refine rs_op rfl (ow_off rfl ?_)
  refine rs_op rfl (ow_off rfl ?_)
  refine rs_op rfl (ow_off rfl ?_)
  refine rs_op rfl (ow_off rfl ?_)
  refine rs_op rfl (ow_on rfl (ow_pickF rfl rfl ?_))
  refine rs_op rfl (ow_pickF rfl rfl ?_)
  refine rs_nil ?_
  refine ew_next ?_
  refine cw_else rfl ?_
  refine cw_skip ?_
  refine ew_next ?_
  refine cw_seq ?_
  refine cw_seq ?_
  refine cw_region ?_
  refine rs_op rfl (ow_fieldAddr Tryz.underlying41 rfl sz39 (by decide) rfl ?_)
  refine rs_op rfl (ow_loadF Tryz.underlying39 rfl rfl (HF.on E).here.1.2 rfl ?_)
  refine rs_op rfl (ow_len Tryz.underlying39 rfl ?_)
  refine rs_op rfl (ow_gtr rfl rfl ?_)
  refine rs_op rfl (ow_move rfl ?_)
  have h2 : ¬ (1 : Int) < ((limbs j).length : Int) := by rw [lim_len1 (by omega) hjb]; decide
  refine rs_set 61 (.bool false) rfl ((by rw [decide_eq_false h2] : (.bool (decide (1 < ((((limbs j).length : Nat)) : Int))) : Value) = _)) ?_
  refine rs_op rfl (ow_on rfl (ow_fieldAddr Tryz.underlying41 rfl sz39 (by decide) rfl ?_))
  refine rs_op rfl (ow_on rfl (ow_loadF Tryz.underlying39 rfl rfl (HF.on E).here.1.2 rfl ?_))
  refine rs_op rfl (ow_on rfl (ow_indexAddr1 (j := 0) Tryz.underlying39 sz22 rfl rfl rfl hjp ?_))
  refine rs_op rfl (ow_on rfl (ow_load1 Tryz.underlying22 rfl rfl (HF.on E).here.1.1.1.2 ?_))
  refine rs_op rfl (ow_on rfl (ow_gtr rfl rfl ?_))
  refine rs_op rfl (ow_pickF rfl rfl ?_)
  refine rs_nil ?_
  refine ew_next ?_
  refine cw_set 67 (.bool false) rfl ((by rw [decide_eq_false (by omega)] : (.bool (decide (2000 < (((j.toNat : Nat) : Int)))) : Value) = _)) ?_
  refine cw_else rfl ?_
  refine cw_skip ?_
  refine ew_next ?_
  refine cw_seq ?_
  refine cw_seq ?_
  refine cw_region ?_
  refine rs_op rfl (ow_fieldAddr Tryz.underlying41 rfl sz39 (by decide) rfl ?_)
  refine rs_op rfl (ow_loadF Tryz.underlying39 rfl rfl (HF.on E).here.1.2 rfl ?_)
  refine rs_op rfl (ow_indexAddr1 (j := 0) Tryz.underlying39 sz22 rfl rfl rfl hjp ?_)
  refine rs_op rfl (ow_load1 Tryz.underlying22 rfl rfl (HF.on E).here.1.1.1.2 ?_)
  refine rs_op rfl (ow_move rfl ?_)
  refine rs_nil ?_
  refine ew_next ?_
  refine cw_block ?_
  have b1 : (i ^ 0).natAbs < B18 ^ 30 := by rw [Int.pow_zero]; exact Nat.one_lt_pow (by decide) (by unfold B18; omega)
  have e0 : i ^ 0 = 1 := Int.pow_zero i
  replace Bb10 : Blk w12 gb10 41 #[.bool (decide (i ^ 0 < 0)), .slice A1 (limbs (i ^ 0)).length c1] := by rw [e0]; exact Bb10
  replace HF := HF.on E
  replace LW := LW.step E XLW
  replace E := Ext.refl (Mut [(some gb10), (some gb5)]) w12
  refine cw_loop (ι := Nat × Option Addr × Nat) (fun (k, A1, c1) => [(2, .pointer (some ⟨gb1, 0, none⟩)), (4, .pointer (some ⟨gb5, 0, none⟩)), (6, .pointer (some ⟨gb10, 0, none⟩)), (72, .int .u64 ((j.toNat : Nat) : Int)), (73, .int .u64 ((k : Nat) : Int))]) (fun (k, A1, c1) w' => Ext (Mut [(some gb10), (some gb5)]) w12 w' ∧ Blk w' gb10 41 (#[.bool (decide (i ^ k < 0)), .slice A1 (limbs (i ^ k)).length c1]) ∧ Blk w' gb5 41 (#[.bool false, .slice none 0 0]) ∧ (k ≤ j.toNat ∧ (i ^ k).natAbs < B18 ^ 30 ∧ Own w' w.heap.size A1 c1 (limbs (i ^ k)))) (fun (k, A1, c1) => j.toNat - k) (0, A1, c1) ⟨rfl, rfl, rfl, rfl, rfl, trivial⟩ ⟨Ext.refl _ _, (by exact Bb10), (by exact Bb5), ⟨Nat.zero_le _, b1, by rw [e0]; exact ((HF.on E).here.2).mono S1⟩⟩ ?_
  have LTb10 := (some_lt Bb10.lt)
  have LTb5 := (some_lt Bb5.lt)
  clear Bb10
  clear Bb5
  rintro ⟨k, A1, c1⟩ w14 ⟨M13, Bb10, Bb5, ⟨hk, hb1, hown⟩⟩
  have XM13 : ∀ q9, (Mut [(some gb10), (some gb5)]) q9 → (Mut [(some gb10), (some gb5)]) q9 ∨ w12.heap.size ≤ q9 := (Mut.grow (Mut.grow Mut.none_ (fun k e => Or.inl ((Mut.tail Mut.head) k e))) (fun k e => Or.inl (Mut.head k e)))
  replace E := E.trans M13
  replace HF := HF.on E
  replace LW := LW.step E XLW
  replace E := Ext.refl (Mut [(some gb10), (some gb5)]) w14
  clear LTb10
  clear LTb5
  replace HF := HF.on E
  replace LW := LW.step E XLW
  replace M13 := M13.step E XM13
  replace E := Ext.refl (Mut [(some gb10), (some gb5)]) w14
  replace HF := HF.and (Per.ownN hown (NotIn.cons (own_apart hown Bb10 (by decide)) (NotIn.cons (own_apart hown Bb5 (by decide)) NotIn.nil)))
  refine cw_seq ?_
  refine cw_region ?_
  refine rs_op rfl (ow_lss rfl rfl ?_)
  refine rs_nil ?_
  refine ew_next ?_
  refine cw_seq ?_
  refine cw_cond rfl (fun hlt => ?_) (fun hlt => ?_)
  · have _way := True.intro
    have hlt := of_decide_eq_true hlt
    refine cw_skip ?_
    refine ew_next ?_
    refine cw_seq ?_
    refine cw_block ?_
    refine cw_seq ?_
    refine cw_region ?_
    refine rs_op rfl (ow_loadB Tryz.underlying41 rfl sz41 rfl Bb10 rfl ?_)
    refine rs_op rfl (ow_loadB Tryz.underlying41 rfl sz41 rfl (HF.on E).here.1.1.1.2 rfl ?_)
    refine rs_op rfl (ow_enter en84 rfl ((mulI A1 _ c1 c _ hb1 hi ((HF.on E).here.2).nums (HF.on E).here.1.1.1.1.1.1.1.2).mono ?_))
    rintro e w15 ⟨A3, c3, rfl, o3, hb⟩
    refine ⟨_, rfl, ?_⟩
    have XC : ∀ q9, (Mut [(some gb10), (some gb5)]) q9 → q9 < w14.heap.size := (Mut.grow (Mut.grow Mut.none_ (some_lt Bb5.lt)) (some_lt Bb10.lt))
    have SC := Nat.le_trans LW.size E.size
    have Ec := Ext.of_below hb No
    replace Bb10 := Bb10.extN Ec NotIn.nil
    replace Bb5 := Bb5.extN Ec NotIn.nil
    replace E := E.trans Ec.no
    clear hb Ec
    have S3 := SC
    replace HF := HF.on E
    replace LW := LW.step E XLW
    replace M13 := M13.step E XM13
    replace E := Ext.refl (Mut [(some gb10), (some gb5)]) w15
    replace HF := HF.and (Per.ownX o3 XC)
    refine rs_op rfl (ow_move rfl ?_)
    refine rs_op rfl (ow_extract rfl rfl ?_)
    refine rs_op rfl (ow_extract rfl rfl ?_)
    refine rs_op rfl (ow_allocB zr41 ?_)
    intro gb16 w17 Bb16 Eb16 Gb16
    have Db16_b10 : Apart (some gb16) (some gb10) := Apart.of_lt (some_lt Bb10.lt) Gb16
    have Db10_b16 := Db16_b10.symm
    have Db16_b5 : Apart (some gb16) (some gb5) := Apart.of_lt (some_lt Bb5.lt) Gb16
    have Db5_b16 := Db16_b5.symm
    have Gb16 : _ ≤ gb16 := Nat.le_trans E.size Gb16
    have GLb16 := Nat.le_trans LW.size Gb16
    replace Bb10 := Bb10.extN Eb16 NotIn.nil
    replace Bb5 := Bb5.extN Eb16 NotIn.nil
    replace E := E.trans Eb16.no
    clear Eb16
    replace HF := HF.cons (some_ge Gb16)
    replace E := E.cons (some gb16)
    replace XLW := Mut.grow XLW (fun k e => Or.inr (Nat.le_trans LW.size ((some_ge Gb16) k e)))
    replace XM13 := Mut.grow XM13 (fun k e => Or.inr (Nat.le_trans M13.size ((some_ge Gb16) k e)))
    refine rs_op0 (ow_storeM sz41 rfl rfl Bb16 rfl rfl (Nat.le_of_ble_eq_true rfl) ?_)
    intro w18 Bx Eb16
    replace Bb16 := Bx
    clear Bx
    replace Bb10 := Bb10.extN Eb16 (NotIn.cons Db10_b16 NotIn.nil)
    replace Bb5 := Bb5.extN Eb16 (NotIn.cons Db5_b16 NotIn.nil)
    replace E := E.step1 Eb16 Mut.head
    clear Eb16
    refine rs_op rfl (ow_assign rfl ?_)
    refine rs_nil ?_
    refine ew_next ?_
    refine cw_seq ?_
    refine cw_seq ?_
    refine cw_region ?_
    refine rs_op rfl (ow_move rfl ?_)
    refine rs_op rfl (ow_neq rfl rfl ?_)
    refine rs_nil ?_
    refine ew_next ?_
    refine cw_cond rfl (fun q => ?_) (fun q => ?_)
    · have _way := True.intro
      have e1 : B18 ^ 30 ≤ (i ^ j.toNat).natAbs := by
        have h7 : ¬ (i ^ k * i).natAbs < B18 ^ 30 := fun h9 => by rw [outE_ok h9] at q; exact absurd q (by decide)
        have h8 := pow_mono (i := i) (by omega) (show k + 1 ≤ j.toNat by omega)
        rw [Int.pow_succ] at h8
        omega
      have e2 : outE true (i ^ k * i) = 7 := outE_big (by
        rcases Nat.lt_or_ge (i ^ k * i).natAbs (B18 ^ 30) with h9 | h9
        · rw [outE_ok h9] at q; exact absurd q (by decide)
        · exact h9)
      refine cw_seq ?_
      refine cw_region ?_
      refine rs_op rfl (ow_build (cs := #[.bool false, .slice none 0 0]) pl41 zr41 rfl rfl ?_)
      refine rs_op rfl (ow_move rfl ?_)
      refine rs_op0 (ow_storeM sz41 rfl rfl Bb5 rfl rfl (Nat.le_of_ble_eq_true rfl) ?_)
      intro w19 Bx Eb5
      replace Bb5 := Bx
      clear Bx
      replace Bb16 := Bb16.extN Eb5 (NotIn.cons Db16_b5 NotIn.nil)
      replace Bb10 := Bb10.extN Eb5 (NotIn.cons Db10_b5 NotIn.nil)
      replace E := E.step1 Eb5 (Mut.tail (Mut.tail Mut.head))
      clear Eb5
      refine rs_op rfl (ow_assign rfl ?_)
      refine rs_nil ?_
      refine ew_next ?_
      refine cw_ret ?_
      refine ew_then_ret ?_
      refine ew_block_ret ?_
      refine ew_then_ret ?_
      refine ew_then_ret ?_
      refine ew_block_ret ?_
      refine ew_then_ret ?_
      refine ew_set 5 (.int .i64 7) rfl ((by rw [e2] : (.int .i64 (outE true (i ^ k * i)) : Value) = _)) ?_
      refine ew_ret (rs := [.cell 4 41, .tmp 5]) (vs := [_, _]) rfl ⟨⟨_, rfl, res_box Tryz.underlying41 rfl sz41 Bb5 rfl⟩, rfl, trivial⟩ ?_
      exact by rw [outV_big e1, outE_big e1]; exact retErr_zero (LW.step E XLW).toBelow
    · have _way := True.intro
      have h9 : (i ^ k * i).natAbs < B18 ^ 30 := outE_zero (by simpa using q)
      have eV : outV true (i ^ k * i) = i ^ (k + 1) := by rw [outV_ok h9, Int.pow_succ]
      refine cw_skip ?_
      refine ew_next ?_
      refine cw_region ?_
      refine rs_op rfl (ow_loadB Tryz.underlying41 rfl sz41 rfl Bb16 rfl ?_)
      refine rs_op0 (ow_storeM sz41 rfl rfl Bb10 rfl rfl (Nat.le_of_ble_eq_true rfl) ?_)
      intro w20 Bx Eb10
      replace Bb10 := Bx
      clear Bx
      replace Bb16 := Bb16.extN Eb10 (NotIn.cons Db16_b10 NotIn.nil)
      replace Bb5 := Bb5.extN Eb10 (NotIn.cons Db5_b10 NotIn.nil)
      replace E := E.step1 Eb10 (Mut.tail Mut.head)
      clear Eb10
      refine rs_nil ?_
      refine ew_block_normal ?_
      refine ew_next ?_
      refine cw_region ?_
      refine rs_op rfl (ow_add rfl rfl (wrap_u64 (by omega)) ?_)
      refine rs_op rfl (ow_move rfl ?_)
      refine rs_nil ?_
      rw [eV] at Bb10
      exact ew_round (ι := Nat × Option Addr × Nat) (s := fun (k, A1, c1) => [(2, .pointer (some ⟨gb1, 0, none⟩)), (4, .pointer (some ⟨gb5, 0, none⟩)), (6, .pointer (some ⟨gb10, 0, none⟩)), (72, .int .u64 ((j.toNat : Nat) : Int)), (73, .int .u64 ((k : Nat) : Int))]) (R := fun (k, A1, c1) w' => Ext (Mut [(some gb10), (some gb5)]) w12 w' ∧ Blk w' gb10 41 (#[.bool (decide (i ^ k < 0)), .slice A1 (limbs (i ^ k)).length c1]) ∧ Blk w' gb5 41 (#[.bool false, .slice none 0 0]) ∧ (k ≤ j.toNat ∧ (i ^ k).natAbs < B18 ^ 30 ∧ Own w' w.heap.size A1 c1 (limbs (i ^ k)))) (m := fun (k, A1, c1) => j.toNat - k) (i := ⟨k, A1, c1⟩) (k + 1, A3, c3) (by show j.toNat - (k + 1) < j.toNat - k; omega) ⟨rfl, rfl, rfl, rfl, rfl, trivial⟩ ⟨M13.step E XM13, (by exact Bb10), (by exact Bb5), by omega, by rw [Int.pow_succ]; exact h9, by rw [← eV]; exact ((HF.on E).here.2).mono S3⟩
  · have _way := True.intro
    have hge := of_decide_eq_false hlt
    obtain rfl : k = j.toNat := by omega
    refine cw_exit ?_
    refine ew_then_exit ?_
    refine ew_then_exit ?_
    refine ew_block_here ?_
    refine ew_next ?_
    refine cw_seq ?_
    refine cw_region ?_
    refine rs_op rfl (ow_loadB Tryz.underlying41 rfl sz41 rfl Bb10 rfl ?_)
    refine rs_op0 (ow_storeM sz41 rfl rfl Bb5 rfl rfl (Nat.le_of_ble_eq_true rfl) ?_)
    intro w21 Bx Eb5
    replace Bb5 := Bx
    clear Bx
    replace Bb10 := Bb10.extN Eb5 (NotIn.cons Db10_b5 NotIn.nil)
    replace E := E.step1 Eb5 (Mut.tail Mut.head)
    clear Eb5
    replace HF := HF.on E
    replace LW := LW.step E XLW
    replace M13 := M13.step E XM13
    have SB : ∀ q9, Mut [(some gb10)] q9 → Mut [(some gb10), (some gb5)] q9 := (Mut.keep (Mut.skip Mut.nil_))
    replace HF := HF.less SB
    replace XLW := fun k h => XLW k (SB k h)
    replace XM13 := fun k h => XM13 k (SB k h)
    clear SB
    replace E := Ext.refl (Mut [(some gb10)]) w21
    replace HF := HF.and (Per.blkN Bb5 (NotIn.cons Db5_b10 NotIn.nil))
    clear Bb5
    refine rs_op rfl (ow_assign rfl ?_)
    refine rs_nil ?_
    refine ew_next ?_
    refine cw_ret ?_
    refine ew_ret (rs := [.cell 4 41, .tmp 5]) (vs := [_, _]) rfl ⟨⟨_, rfl, res_box Tryz.underlying41 rfl sz41 (HF.on E).here.2 rfl⟩, rfl, trivial⟩ ?_
    exact ⟨A1, c1, by rw [outV_ok hb1, outE_ok hb1]; rfl, by rw [outV_ok hb1]; exact (HF.on E).here.1.2, (LW.step E XLW).toBelow⟩
/-- Pow, of numbers in form: the power, where the exponent is not below nought. -/
theorem powI (h0 : 0 ≤ j) : Calls Tryz.prog 83 #[.agg #[.bool (decide (i < 0)), .slice A (limbs i).length c], .agg #[.bool (decide (j < 0)), .slice B (limbs j).length d]] w (RetBigErr w (outV true (i ^ j.toNat)) (outE true (i ^ j.toNat))) := by
  have hsmall : ∀ z : Int, z.natAbs ≤ 1 → z.natAbs < B18 ^ 30 := fun z hz => Nat.lt_of_le_of_lt hz (Nat.one_lt_pow (by decide) (by unfold B18; omega))
  rcases Int.le_iff_lt_or_eq.1 h0 with hp | rfl
  · rcases Nat.lt_or_ge i.natAbs 2 with h2 | h2
    · rcases (by omega : i.natAbs = 0 ∨ i.natAbs = 1) with h3 | h3
      · have hi0 : i = 0 := by omega
        have e : i ^ j.toNat = 0 := by rw [hi0]; exact Int.zero_pow (by omega)
        rw [e, outV_ok (hsmall 0 (by decide)), outE_ok (hsmall 0 (by decide))]
        exact pow_nought i j A B c d w hi hj hx hy hp hi0
      · have e : (i ^ j.toNat).natAbs ≤ 1 := by rw [pow_abs, h3, Nat.one_pow]; exact Nat.le_refl _
        rw [outV_ok (hsmall _ e), outE_ok (hsmall _ e)]
        cases hin : decide (i < 0)
        · rw [← hin]; exact pow_one i j A B c d w hi hj hx hy hp h3 hin
        · rw [← hin]; exact pow_mone i j A B c d w hi hj hx hy hp h3 hin
    · rcases Int.lt_or_le 2000 j with h4 | h4
      · have e := pow_range h2 (n := j.toNat) (by omega)
        rw [outV_big e, outE_big e]
        rcases Nat.lt_or_ge i.natAbs B18 with h5 | h5 <;> rcases Nat.lt_or_ge j.natAbs B18 with h6 | h6
        · exact pow_g3 i j A B c d w hi hj hx hy h4 h2 h5 h6
        · exact pow_g1 i j A B c d w hi hj hx hy h4 h2 h5 h6
        · exact pow_g4 i j A B c d w hi hj hx hy h4 h2 h5 h6
        · exact pow_g2 i j A B c d w hi hj hx hy h4 h2 h5 h6
      · rcases Nat.lt_or_ge i.natAbs B18 with h5 | h5
        · exact pow_l1 i j A B c d w hi hj hx hy hp h4 h2 h5
        · exact pow_l2 i j A B c d w hi hj hx hy hp h4 h2 h5
  · have e : i ^ (0 : Int).toNat = 1 := Int.pow_zero i
    rw [e, outV_ok (hsmall 1 (by decide)), outE_ok (hsmall 1 (by decide))]
    exact pow_zero i 0 A B c d w hi hj hx hy rfl
end
end Go.Proofs.YtljndllhmdpjlaaGreatDoor
