/- The walks of math/bits: Mul64; LeadingZeros64 and Div64 at the limbs' base. The walks of package real's Hash and the document's. The walk of the hash of the document. Words for the Real laws that speak of whole numbers; the hash of a whole number: package real's and the document's. RealHashes: every Hash and HashBig. -/
import Derived.Test.YtljndllhmdpjlaaGreatDoorH13
import Derived.WalkKit
import Derived.Lib.Mul64
import Derived.Laws.Bits64b
import Derived.BigQuiet
import Derived.Deep.QuietTactic
import Derived.Lib.Hide
import Derived.Laws.Externs
import Derived.Deep.DeepCutAuto
import Derived.Deep.CutBlock
import Derived.Test.YtljndllhmdpjlaaGreatDoorRows
namespace Go.Proofs.YtljndllhmdpjlaaGreatDoor
open Go.RowKit Go.Lib
namespace M64
theorem maskN (a : Nat) (ha : a < 18446744073709551616) : bits .and .u64 (a : Int) 4294967295 = ((a % 4294967296 : Nat) : Int) := by
  have h := bits_and_u64_nat a 4294967295 ha (by omega)
  have e : a &&& 4294967295 = a % 4294967296 := Nat.and_two_pow_sub_one_eq_mod a 32
  rw [e] at h
  exact h
theorem divN (a : Nat) : (a : Int) / 4294967296 = ((a / 4294967296 : Nat) : Int) := by omega
theorem mulN (a b : Nat) : (a : Int) * (b : Int) = ((a * b : Nat) : Int) := (Int.natCast_mul a b).symm
theorem addN (a b : Nat) : (a : Int) + (b : Int) = ((a + b : Nat) : Int) := (Int.natCast_add a b).symm
theorem wrapN (a : Nat) (ha : a < 18446744073709551616) : IntKind.u64.wrap (a : Int) = (a : Int) := by rw [IntKind.wrap_u64]; omega
theorem wrapM (a : Nat) : IntKind.u64.wrap (a : Int) = ((a % 18446744073709551616 : Nat) : Int) := by rw [IntKind.wrap_u64]; omega
end M64
set_option maxHeartbeats 1000000 in
theorem mul64_any (x y : Nat) (hx : x < 18446744073709551616) (hy : y < 18446744073709551616) (w : World) :
    Calls Tryz.prog 73 #[.int .u64 x, .int .u64 y] w fun e w' => e = .returned (.tuple #[.int .u64 ((x * y / 18446744073709551616 : Nat) : Int), .int .u64 ((x * y % 18446744073709551616 : Nat) : Int)]) ∧ w = w' := by
  obtain ⟨bd, bt, bw, hhi⟩ := Lib.mul64_hi x y hx hy
  have ba := Lib.half_mul_le (a := x / 4294967296) (b := y / 4294967296) (by omega) (by omega)
  have bb := Lib.half_mul_le (a := x / 4294967296) (b := y % 4294967296) (by omega) (by omega)
  have bc := Lib.half_mul_le (a := x % 4294967296) (b := y / 4294967296) (by omega) (by omega)
  have ba' : x / 4294967296 * (y / 4294967296) < 18446744073709551616 := by omega
  have bb' : x / 4294967296 * (y % 4294967296) < 18446744073709551616 := by omega
  have bc' : x % 4294967296 * (y / 4294967296) < 18446744073709551616 := by omega
  have bh1 : x / 4294967296 * (y / 4294967296) + (x / 4294967296 * (y % 4294967296) + x % 4294967296 * (y % 4294967296) / 4294967296) / 4294967296 < 18446744073709551616 := by omega
  have bh : x / 4294967296 * (y / 4294967296) + (x / 4294967296 * (y % 4294967296) + x % 4294967296 * (y % 4294967296) / 4294967296) / 4294967296 + ((x / 4294967296 * (y % 4294967296) + x % 4294967296 * (y % 4294967296) / 4294967296) % 4294967296 + x % 4294967296 * (y / 4294967296)) / 4294967296 < 18446744073709551616 := by omega
  go_enter Tryz.func73, Tryz.ntmps73
  go_wp2
  simp only [M64.maskN x hx, M64.maskN y hy, M64.divN, M64.mulN, M64.addN, M64.wrapN _ bd, M64.wrapN _ bb', M64.wrapN _ bt, M64.maskN _ bt, M64.wrapN _ bc', M64.wrapN _ bw, M64.wrapN _ ba', M64.wrapN _ bh1, M64.wrapN _ bh, M64.wrapM (x * y)]
  rw [hhi]
  go_ret2
  exact ⟨rfl, rfl⟩
set_option maxRecDepth 100000
theorem lead_base (w : World) : Calls Tryz.prog 140 #[.int .u64 1000000000000000000] w fun e w' => e = .returned (.int .i64 4) ∧ w = w' := by
  go_enter Tryz.func140, Tryz.ntmps140
  go_wp2
  go_ret
  exact ⟨by kernel_rfl, rfl⟩
theorem add64_run (x y : Int) (hx : 0 ≤ x) (hy : 0 ≤ y) (w : World) :
    (callFunc 77 #[.int .u64 x, .int .u64 y, .int .u64 0]).run Tryz.prog w =
      .ok (.value (.tuple #[.int .u64 ((x + y) % 18446744073709551616), .int .u64 ((x + y) / 18446744073709551616)])) w := by
  rw [run_callFunc_extern Tryz.func77 (by kernel_rfl) (by kernel_rfl) (by kernel_rfl) (e := add64Entry) (by kernel_rfl), run_add64 x y 0 hx hy (by omega) (by omega)]
  simp only [Result.andThen, Int.add_zero]
theorem or_low (hi lo : Int) (h0 : 0 ≤ hi) (h1 : hi < 1000000000000000000) (l0 : 0 ≤ lo) (l1 : lo < 18446744073709551616) :
    bits .or .u64 (hi * 16) (lo / 1152921504606846976) = hi * 16 + lo / 1152921504606846976 := by
  obtain ⟨a, rfl⟩ := Int.eq_ofNat_of_zero_le h0
  obtain ⟨b, hb⟩ := Int.eq_ofNat_of_zero_le (show 0 ≤ lo / 1152921504606846976 by omega)
  rw [hb]
  have h := bits_or_u64_nat (a * 16) b (by omega) (by omega)
  have e : a * 16 ||| b = a * 16 + b := by
    have := Nat.shiftLeft_add_eq_or_of_lt (show b < 2 ^ 4 by omega) a
    rw [Nat.shiftLeft_eq] at this
    exact this.symm
  rw [e] at h
  rw [show ((a : Int) * 16) = ((a * 16 : Nat) : Int) by omega, h]
  omega
theorem mask_low (V : Int) (h0 : 0 ≤ V) (h1 : V < 18446744073709551616) : bits .and .u64 V 4294967295 = V % 4294967296 := by
  obtain ⟨a, rfl⟩ := Int.eq_ofNat_of_zero_le h0
  rw [M64.maskN a (by omega)]
  omega
/-- The loop that mends the guess of one half of the quotient: what holds at its head; where it ends. -/
theorem guess_end {U V q r : Int} (h0 : 0 ≤ U) (h1 : U < 16000000000000000000) (v0 : 0 ≤ V) (v1 : V < 4294967296) (hq : q * 3725290298 + r = U) (hr : 0 ≤ r)
    (hQ : (U * 4294967296 + V) / 16000000000000000000 ≤ q) (ht : q * 1983905792 ≤ 4294967296 * r + V) : q = (U * 4294967296 + V) / 16000000000000000000 := by omega
theorem guess_down {U V q r : Int} (h0 : 0 ≤ U) (h1 : U < 16000000000000000000) (v0 : 0 ≤ V) (v1 : V < 4294967296) (hq : q * 3725290298 + r = U)
    (ht : 4294967296 ≤ q ∨ 4294967296 * r + V < q * 1983905792) : (U * 4294967296 + V) / 16000000000000000000 ≤ q - 1 := by omega
set_option maxRecDepth 100000
set_option maxHeartbeats 2000000 in
theorem div64_base (hi lo : Int) (h0 : 0 ≤ hi) (h1 : hi < 1000000000000000000) (l0 : 0 ≤ lo) (l1 : lo < 18446744073709551616) (w : World) :
    Calls Tryz.prog 109 #[.int .u64 hi, .int .u64 lo, .int .u64 1000000000000000000] w fun e w' => e = .returned (.tuple #[.int .u64 ((hi * 18446744073709551616 + lo) / 1000000000000000000), .int .u64 ((hi * 18446744073709551616 + lo) % 1000000000000000000)]) ∧ ∃ n, w' = w.drewN n := by
  by_cases hz : hi = 0
  · subst hz
    have e1 : (0 : Int) * 18446744073709551616 + lo = lo := by omega
    rw [e1]
    have hq0 : 0 ≤ lo / 1000000000000000000 := by omega
    have hr0 : 0 ≤ lo % 1000000000000000000 := by omega
    go_enter Tryz.func109, Tryz.ntmps109
    go_wp2
    go_quiet (fail)
    go_wp2
    go_ret2
    exact ⟨by simp, _, rfl⟩
  · have hz2 : (hi == 0) = false := by simpa using hz
    have hle : ¬ 1000000000000000000 ≤ hi := by omega
    clear hz
    obtain ⟨U, hU⟩ : ∃ U, U = hi * 16 + lo / 1152921504606846976 := ⟨_, rfl⟩
    obtain ⟨V, hV⟩ : ∃ V, V = lo * 16 % 18446744073709551616 := ⟨_, rfl⟩
    obtain ⟨V1, hV1⟩ : ∃ V1, V1 = V / 4294967296 := ⟨_, rfl⟩
    obtain ⟨V0, hV0⟩ : ∃ V0, V0 = V % 4294967296 := ⟨_, rfl⟩
    obtain ⟨Q, hQ⟩ : ∃ Q, Q = U / 3725290298 := ⟨_, rfl⟩
    have eor : bits .or .u64 (hi * 16) (lo / 1152921504606846976) = U := by rw [or_low hi lo h0 h1 l0 l1, hU]
    have ew : IntKind.u64.wrap (lo * 16) = V := by rw [IntKind.wrap_u64, hV]
    have bU0 : 0 ≤ U := by omega
    have bU1 : U < 16000000000000000000 := by omega
    have bV0 : 0 ≤ V := by omega
    have bV1 : V < 18446744073709551616 := by omega
    have b10 : 0 ≤ V1 := by omega
    have b11 : V1 < 4294967296 := by omega
    have b00 : 0 ≤ V0 := by omega
    have b01 : V0 < 4294967296 := by omega
    have bQ0 : 0 ≤ Q := by omega
    have bQ1 : Q ≤ 4294967297 := by omega
    have em : bits .and .u64 V 4294967295 = V0 := by rw [mask_low V bV0 bV1, hV0]
    have ed : V / 4294967296 = V1 := hV1.symm
    have ec : bits .and .u64 16000000000000000000 4294967295 = 1983905792 := by rw [mask_low _ (by omega) (by omega)]; rfl
    have eq : U / 3725290298 = Q := hQ.symm
    have HU := Lib.hid hU; have HV := Lib.hid hV; have HV1 := Lib.hid hV1; have HV0 := Lib.hid hV0; have HQ := Lib.hid hQ
    have bR0 : 0 ≤ U - Q * 3725290298 := by omega
    have bR1 : U - Q * 3725290298 < 3725290298 := by omega
    clear hU hV hV1 hV0 hQ
    go_enter Tryz.func109, Tryz.ntmps109
    go_upto_block 0 with (go_at_call 140; refine (lead_base _).mono ?_; rintro e w' ⟨rfl, rfl⟩)
    clear eq eor ew em ed ec
    go_cut [15] (fun v wx => v = .int .u64 ((U * 4294967296 + V1) / 16000000000000000000) ∧ w = wx)
    case first =>
      go_wp2_with fail
      go_loop [15, 16] (fun qv rv => ∃ q r : Int, qv = .int .u64 q ∧ rv = .int .u64 r ∧ 0 ≤ q ∧ q ≤ 4294967297 ∧ 0 ≤ r ∧ r < 4294967296 ∧ Hid (q * 3725290298 + r = U) ∧ Hid ((U * 4294967296 + V1) / 16000000000000000000 ≤ q)) (fun qv _ => (RowKit.intOf qv).toNat)
      case atStart => exact ⟨Q, U - Q * 3725290298, by rw [HQ.out], rfl, bQ0, bQ1, bR0, by omega, by show _ = _; omega, by have := HQ.out; show _ ≤ _; omega⟩
      case round =>
        obtain ⟨q, r, rfl, rfl, hq0, hq1, hr0, hr1, HQR, HLE⟩ := hrel
        by_cases hA : 4294967296 ≤ q
        · have hdn := guess_down bU0 bU1 b10 b11 HQR.out (Or.inl hA)
          have hqp : 1 ≤ q := by omega
          have HDN := Lib.hid hdn
          have HQ2 : Hid ((q - 1) * 3725290298 + (r + 3725290298) = U) := by have := HQR.out; show _ = _; omega
          clear hdn
          by_cases hB : 4294967296 ≤ r + 3725290298
          · have hend := guess_end bU0 bU1 b10 b11 HQ2.out (by omega) HDN.out (by omega)
            have HEND := Lib.hid hend
            clear hend
            go_wp2
            go_meet
            exact ⟨by rw [HEND.out], rfl⟩
          · go_wp2
            go_round
            case rel => exact ⟨q - 1, r + 3725290298, rfl, rfl, by omega, by omega, by omega, by omega, HQ2, HDN⟩
            case measure => simp [RowKit.intOf]; omega
        · by_cases hT : 4294967296 * r + V1 < q * 1983905792
          · have hdn := guess_down bU0 bU1 b10 b11 HQR.out (Or.inr hT)
            have hqp : 1 ≤ q := by omega
            have HDN := Lib.hid hdn
            have HQ2 : Hid ((q - 1) * 3725290298 + (r + 3725290298) = U) := by have := HQR.out; show _ = _; omega
            clear hdn
            by_cases hB : 4294967296 ≤ r + 3725290298
            · have hend := guess_end bU0 bU1 b10 b11 HQ2.out (by omega) HDN.out (by omega)
              have HEND := Lib.hid hend
              clear hend
              go_wp2
              go_meet
              exact ⟨by rw [HEND.out], rfl⟩
            · go_wp2
              go_round
              case rel => exact ⟨q - 1, r + 3725290298, rfl, rfl, by omega, by omega, by omega, by omega, HQ2, HDN⟩
              case measure => simp [RowKit.intOf]; omega
          · have hend := guess_end bU0 bU1 b10 b11 HQR.out hr0 HLE.out (by omega)
            have HEND := Lib.hid hend
            clear hend
            go_wp2
            go_meet
            exact ⟨by rw [HEND.out], rfl⟩
    case rest =>
      obtain ⟨rfl, rfl⟩ := hcut
      obtain ⟨P, hP⟩ : ∃ P, P = (U * 4294967296 + V1) / 16000000000000000000 := ⟨_, rfl⟩
      obtain ⟨T, hT⟩ : ∃ T, T = (U * 4294967296 + V1) % 16000000000000000000 := ⟨_, rfl⟩
      rw [← hP]
      have bP0 : 0 ≤ P := by omega
      have bP1 : P < 4294967296 := by omega
      have bT0 : 0 ≤ T := by omega
      have bT1 : T < 16000000000000000000 := by omega
      obtain ⟨Q2, hQ2⟩ : ∃ Q2, Q2 = T / 3725290298 := ⟨_, rfl⟩
      have cQ0 : 0 ≤ Q2 := by omega
      have cQ1 : Q2 ≤ 4294967297 := by omega
      have cR0 : 0 ≤ T - Q2 * 3725290298 := by omega
      have cR1 : T - Q2 * 3725290298 < 3725290298 := by omega
      obtain ⟨X1, hX1⟩ : ∃ X, X = IntKind.u64.wrap (U * 4294967296) := ⟨_, rfl⟩
      obtain ⟨X2, hX2⟩ : ∃ X, X = IntKind.u64.wrap (X1 + V1) := ⟨_, rfl⟩
      obtain ⟨X3, hX3⟩ : ∃ X, X = IntKind.u64.wrap (P * 16000000000000000000) := ⟨_, rfl⟩
      have e4 : IntKind.u64.wrap (X2 - X3) = T := by rw [hX2, hX3, hX1]; simp only [IntKind.wrap_u64]; omega
      have e1 := hX1.symm; have e2 := hX2.symm; have e3 := hX3.symm
      have hX1b : 0 ≤ X1 ∧ X1 < 18446744073709551616 := by rw [hX1]; simp only [IntKind.wrap_u64]; omega
      have hX2b : 0 ≤ X2 ∧ X2 < 18446744073709551616 := by rw [hX2]; simp only [IntKind.wrap_u64]; omega
      have hX3b : 0 ≤ X3 ∧ X3 < 18446744073709551616 := by rw [hX3]; simp only [IntKind.wrap_u64]; omega
      have HP := Lib.hid hP; have HT := Lib.hid hT; have HQ2e := Lib.hid hQ2
      clear hP hT hQ2 hX1 hX2 hX3
      go_upto_block 2 with fail
      clear e1 e2 e3 e4 hX1b hX2b hX3b
      go_cut [18] (fun v wx => v = .int .u64 ((T * 4294967296 + V0) / 16000000000000000000) ∧ w = wx)
      case first =>
        go_wp2_with fail
        go_loop [18, 16] (fun qv rv => ∃ q r : Int, qv = .int .u64 q ∧ rv = .int .u64 r ∧ 0 ≤ q ∧ q ≤ 4294967297 ∧ 0 ≤ r ∧ r < 4294967296 ∧ Hid (q * 3725290298 + r = T) ∧ Hid ((T * 4294967296 + V0) / 16000000000000000000 ≤ q)) (fun qv _ => (RowKit.intOf qv).toNat)
        case atStart => exact ⟨Q2, T - Q2 * 3725290298, by rw [HQ2e.out], by rw [HQ2e.out], cQ0, cQ1, cR0, by omega, by show _ = _; omega, by have := HQ2e.out; show _ ≤ _; omega⟩
        case round =>
          obtain ⟨q, r, rfl, rfl, hq0, hq1, hr0, hr1, HQR, HLE⟩ := hrel
          by_cases hA : 4294967296 ≤ q
          · have hdn := guess_down bT0 bT1 b00 b01 HQR.out (Or.inl hA)
            have hqp : 1 ≤ q := by omega
            have HDN := Lib.hid hdn
            have HQ2 : Hid ((q - 1) * 3725290298 + (r + 3725290298) = T) := by have := HQR.out; show _ = _; omega
            clear hdn
            by_cases hB : 4294967296 ≤ r + 3725290298
            · have hend := guess_end bT0 bT1 b00 b01 HQ2.out (by omega) HDN.out (by omega)
              have HEND := Lib.hid hend
              clear hend
              go_wp2
              go_meet
              exact ⟨by rw [HEND.out], rfl⟩
            · go_wp2
              go_round
              case rel => exact ⟨q - 1, r + 3725290298, rfl, rfl, by omega, by omega, by omega, by omega, HQ2, HDN⟩
              case measure => simp [RowKit.intOf]; omega
          · by_cases hT : 4294967296 * r + V0 < q * 1983905792
            · have hdn := guess_down bT0 bT1 b00 b01 HQR.out (Or.inr hT)
              have hqp : 1 ≤ q := by omega
              have HDN := Lib.hid hdn
              have HQ2 : Hid ((q - 1) * 3725290298 + (r + 3725290298) = T) := by have := HQR.out; show _ = _; omega
              clear hdn
              by_cases hB : 4294967296 ≤ r + 3725290298
              · have hend := guess_end bT0 bT1 b00 b01 HQ2.out (by omega) HDN.out (by omega)
                have HEND := Lib.hid hend
                clear hend
                go_wp2
                go_meet
                exact ⟨by rw [HEND.out], rfl⟩
              · go_wp2
                go_round
                case rel => exact ⟨q - 1, r + 3725290298, rfl, rfl, by omega, by omega, by omega, by omega, HQ2, HDN⟩
                case measure => simp [RowKit.intOf]; omega
            · have hend := guess_end bT0 bT1 b00 b01 HQR.out hr0 HLE.out (by omega)
              have HEND := Lib.hid hend
              clear hend
              go_wp2
              go_meet
              exact ⟨by rw [HEND.out], rfl⟩
      case rest =>
        obtain ⟨rfl, rfl⟩ := hcut
        obtain ⟨P2, hP2⟩ : ∃ P, P = (T * 4294967296 + V0) / 16000000000000000000 := ⟨_, rfl⟩
        obtain ⟨T2, hT2⟩ : ∃ T2, T2 = (T * 4294967296 + V0) % 16000000000000000000 := ⟨_, rfl⟩
        rw [← hP2]
        have cP0 : 0 ≤ P2 := by omega
        have cP1 : P2 < 4294967296 := by omega
        have cT0 : 0 ≤ T2 := by omega
        have cT1 : T2 < 16000000000000000000 := by omega
        obtain ⟨X1, hX1⟩ : ∃ X, X = IntKind.u64.wrap (T * 4294967296) := ⟨_, rfl⟩
        obtain ⟨X2, hX2⟩ : ∃ X, X = IntKind.u64.wrap (X1 + V0) := ⟨_, rfl⟩
        obtain ⟨X3, hX3⟩ : ∃ X, X = IntKind.u64.wrap (P2 * 16000000000000000000) := ⟨_, rfl⟩
        have e4 : IntKind.u64.wrap (X2 - X3) = T2 := by rw [hX2, hX3, hX1]; simp only [IntKind.wrap_u64]; omega
        have e1 := hX1.symm; have e2 := hX2.symm; have e3 := hX3.symm
        have hX1b : 0 ≤ X1 ∧ X1 < 18446744073709551616 := by rw [hX1]; simp only [IntKind.wrap_u64]; omega
        have hX2b : 0 ≤ X2 ∧ X2 < 18446744073709551616 := by rw [hX2]; simp only [IntKind.wrap_u64]; omega
        have hX3b : 0 ≤ X3 ∧ X3 < 18446744073709551616 := by rw [hX3]; simp only [IntKind.wrap_u64]; omega
        have hfin : P * 4294967296 + P2 = (hi * 18446744073709551616 + lo) / 1000000000000000000 ∧ T2 / 16 = (hi * 18446744073709551616 + lo) % 1000000000000000000 := by
          have a1 := HU.out; have a2 := HV.out; have a3 := HV1.out; have a4 := HV0.out; have a5 := HP.out; have a6 := HT.out
          omega
        obtain ⟨f1, f2⟩ := hfin
        have F1 := Lib.hid f1; have F2 := Lib.hid f2
        have bF : P * 4294967296 + P2 < 18446744073709551616 := by omega
        clear hP2 hT2 hX1 hX2 hX3 f1 f2
        go_wp2
        go_ret2
        exact ⟨by rw [F1.out, F2.out]; rfl, 0, rfl⟩
end Go.Proofs.YtljndllhmdpjlaaGreatDoor
namespace Go.Proofs.YtljndllhmdpjlaaGreatDoor
open Go.RowKit
set_option maxRecDepth 100000
theorem below_same {w w' : World} (h : w = w') : Below w.heap.size w w' := by subst h; exact Below.refl _ _
theorem mul64_b (x y : Nat) (hx : x < 18446744073709551616) (hy : y < 18446744073709551616) (w : World) :
    Calls Tryz.prog 73 #[.int .u64 x, .int .u64 y] w fun e w' => e = .returned (.tuple #[.int .u64 ((x * y / 18446744073709551616 : Nat) : Int), .int .u64 ((x * y % 18446744073709551616 : Nat) : Int)]) ∧ Below w.heap.size w w' :=
  (mul64_any x y hx hy w).mono fun _ _ ⟨h1, h2⟩ => ⟨h1, below_same h2⟩
theorem tmod31 (x : Int) : (x.tmod 31 + 31).tmod 31 = x % 31 ∧ -31 < x.tmod 31 ∧ x.tmod 31 < 31 := by
  rcases Int.lt_or_le x 0 with h | h
  · obtain ⟨y, rfl⟩ : ∃ y : Int, x = -y := ⟨-x, by omega⟩
    have e : (-y).tmod 31 = -(y % 31) := by rw [Int.neg_tmod, Int.tmod_eq_emod_of_nonneg (by omega)]
    rw [e, Int.tmod_eq_emod_of_nonneg (by omega)]
    omega
  · rw [Int.tmod_eq_emod_of_nonneg h, Int.tmod_eq_emod_of_nonneg (by omega)]
    omega
/-- A float's hash. -/
def hashF (a : Nat) : Int := if isN a then 0 else (if ng a then -1 else 1) * (if rg a = 9218868437227405312 then 314159 else ((hashM (rg a) : Nat) : Int))
theorem hashM_zero : hashM 0 = 0 := by decide
theorem hashM_lt (r : Nat) : hashM r < 2147483647 := Nat.mod_lt _ (by decide)
theorem frF_parts {r : Nat} (hr : r < 9218868437227405312) (h0 : r ≠ 0) : frF r < 9218868437227405312 ∧ frF r ≠ 0 ∧ vl (frF r) = mg (nr r) * 2 ^ 1021 := by
  obtain ⟨m1, m2⟩ := mg_nr h0
  obtain ⟨p1, p2⟩ := rung_parts (e := 1021) m1 m2
  have e : frF r = 1021 * 4503599627370496 + mg (nr r) := by rw [frF_pos hr]; omega
  refine ⟨by omega, by omega, ?_⟩
  rw [e, vl, p1, p2]
theorem fullQ {r : Nat} (h0 : r ≠ 0) : vl (1074 * 4503599627370496 + mg (nr r)) = mg (nr r) * 2 ^ 1074 ∧ 1074 * 4503599627370496 + mg (nr r) < 9218868437227405312 := by
  obtain ⟨m1, m2⟩ := mg_nr h0
  obtain ⟨p1, p2⟩ := rung_parts (e := 1074) m1 m2
  refine ⟨?_, by omega⟩
  show mg _ * 2 ^ ex _ = _
  rewrite [p1, p2]; rfl
theorem hash_prog {r : Nat} (hr : r < 9223372036854775808) (h0 : r ≠ 0) : mg (nr r) % 2147483647 * 2 ^ ((frE r - 53) % 31).toNat % 2147483647 = hashM r := by
  obtain ⟨h1, _⟩ := rg_self hr
  have := hash_norm (a := r) (by rw [h1]; exact h0)
  rw [h1] at this
  rw [← this, fm, h1, Nat.mul_mod, Nat.mod_mod, ← Nat.mul_mod]
theorem half_step (m j : Nat) : m * 2 ^ j % 2147483647 * 2 % 2147483647 = m * 2 ^ (j + 1) % 2147483647 := by rw [Nat.mul_comm, rest_step]
theorem rh73_1 : Gives 73 #[.int .u64 0, .int .u64 512] (.tuple #[.int .u64 0, .int .u64 0]) := by
  intro w
  refine calls_cw Tryz.func73 rfl Tryz.ntmps73 rfl ?_
  have HF : Per (No) w (fun _ => True) := Per.true_
  have LW := Ext.refl (No) w
  have XLW : ∀ q9, (No) q9 → (No) q9 ∨ w.heap.size ≤ q9 := fun _ h => Or.inl h
  have E := Ext.refl (No) w
  refine cw_seq ?_
  refine cw_region ?_
  refine rs_op rfl (ow_assign rfl ?_)
  refine rs_op rfl (ow_assign rfl ?_)
  refine rs_nil ?_
  refine ew_next ?_
  refine cw_seq ?_
  refine cw_region ?_
  refine rs_op rfl (ow_move rfl ?_)
  refine rs_op rfl (ow_and (z := 0) rfl rfl (by kernel_rfl) ?_)
  refine rs_op rfl (ow_assign rfl ?_)
  refine rs_nil ?_
  refine ew_next ?_
  refine cw_seq ?_
  refine cw_region ?_
  refine rs_op rfl (ow_move rfl ?_)
  refine rs_op rfl (ow_shr (z := 0) rfl rfl (by decide) (by kernel_rfl) ?_)
  refine rs_op rfl (ow_assign rfl ?_)
  refine rs_nil ?_
  refine ew_next ?_
  refine cw_seq ?_
  refine cw_region ?_
  refine rs_op rfl (ow_move rfl ?_)
  refine rs_op rfl (ow_and (z := 512) rfl rfl (by kernel_rfl) ?_)
  refine rs_op rfl (ow_assign rfl ?_)
  refine rs_nil ?_
  refine ew_next ?_
  refine cw_seq ?_
  refine cw_region ?_
  refine rs_op rfl (ow_move rfl ?_)
  refine rs_op rfl (ow_shr (z := 0) rfl rfl (by decide) (by kernel_rfl) ?_)
  refine rs_op rfl (ow_assign rfl ?_)
  refine rs_nil ?_
  refine ew_next ?_
  refine cw_seq ?_
  refine cw_region ?_
  refine rs_op rfl (ow_move rfl ?_)
  refine rs_op rfl (ow_move rfl ?_)
  refine rs_op rfl (ow_mul (z := 0) rfl rfl (by kernel_rfl) ?_)
  refine rs_op rfl (ow_assign rfl ?_)
  refine rs_nil ?_
  refine ew_next ?_
  refine cw_seq ?_
  refine cw_region ?_
  refine rs_op rfl (ow_move rfl ?_)
  refine rs_op rfl (ow_move rfl ?_)
  refine rs_op rfl (ow_mul (z := 0) rfl rfl (by kernel_rfl) ?_)
  refine rs_op rfl (ow_move rfl ?_)
  refine rs_op rfl (ow_shr (z := 0) rfl rfl (by decide) (by kernel_rfl) ?_)
  refine rs_op rfl (ow_add (z := 0) rfl rfl (by kernel_rfl) ?_)
  refine rs_op rfl (ow_assign rfl ?_)
  refine rs_nil ?_
  refine ew_next ?_
  refine cw_seq ?_
  refine cw_region ?_
  refine rs_op rfl (ow_move rfl ?_)
  refine rs_op rfl (ow_and (z := 0) rfl rfl (by kernel_rfl) ?_)
  refine rs_op rfl (ow_assign rfl ?_)
  refine rs_nil ?_
  refine ew_next ?_
  refine cw_seq ?_
  refine cw_region ?_
  refine rs_op rfl (ow_move rfl ?_)
  refine rs_op rfl (ow_shr (z := 0) rfl rfl (by decide) (by kernel_rfl) ?_)
  refine rs_op rfl (ow_assign rfl ?_)
  refine rs_nil ?_
  refine ew_next ?_
  refine cw_seq ?_
  refine cw_region ?_
  refine rs_op rfl (ow_move rfl ?_)
  refine rs_op rfl (ow_move rfl ?_)
  refine rs_op rfl (ow_move rfl ?_)
  refine rs_op rfl (ow_mul (z := 0) rfl rfl (by kernel_rfl) ?_)
  refine rs_op rfl (ow_add (z := 0) rfl rfl (by kernel_rfl) ?_)
  refine rs_op rfl (ow_assign rfl ?_)
  refine rs_nil ?_
  refine ew_next ?_
  refine cw_seq ?_
  refine cw_region ?_
  refine rs_op rfl (ow_move rfl ?_)
  refine rs_op rfl (ow_move rfl ?_)
  refine rs_op rfl (ow_mul (z := 0) rfl rfl (by kernel_rfl) ?_)
  refine rs_op rfl (ow_move rfl ?_)
  refine rs_op rfl (ow_add (z := 0) rfl rfl (by kernel_rfl) ?_)
  refine rs_op rfl (ow_move rfl ?_)
  refine rs_op rfl (ow_shr (z := 0) rfl rfl (by decide) (by kernel_rfl) ?_)
  refine rs_op rfl (ow_add (z := 0) rfl rfl (by kernel_rfl) ?_)
  refine rs_op rfl (ow_assign rfl ?_)
  refine rs_nil ?_
  refine ew_next ?_
  refine cw_seq ?_
  refine cw_region ?_
  refine rs_op rfl (ow_move rfl ?_)
  refine rs_op rfl (ow_move rfl ?_)
  refine rs_op rfl (ow_mul (z := 0) rfl rfl (by kernel_rfl) ?_)
  refine rs_op rfl (ow_assign rfl ?_)
  refine rs_nil ?_
  refine ew_next ?_
  refine cw_ret ?_
  refine ew_ret (rs := [.tmp 4, .tmp 5]) (vs := [.int .u64 0, .int .u64 0]) rfl ⟨rfl, rfl, trivial⟩ ?_
  exact ⟨rfl, (LW.step E XLW).toBelow⟩
theorem rh109_3 : Gives 109 #[.int .u64 0, .int .u64 0, .int .u64 2147483647] (.tuple #[.int .u64 0, .int .u64 0]) := by
  intro w
  refine calls_cw Tryz.func109 rfl Tryz.ntmps109 rfl ?_
  have HF : Per (No) w (fun _ => True) := Per.true_
  have LW := Ext.refl (No) w
  have XLW : ∀ q9, (No) q9 → (No) q9 ∨ w.heap.size ≤ q9 := fun _ h => Or.inl h
  have E := Ext.refl (No) w
  refine cw_seq ?_
  refine cw_region ?_
  refine rs_op rfl (ow_assign rfl ?_)
  refine rs_op rfl (ow_assign rfl ?_)
  refine rs_nil ?_
  refine ew_next ?_
  refine cw_seq ?_
  refine cw_seq ?_
  refine cw_region ?_
  refine rs_op rfl (ow_move rfl ?_)
  refine rs_op rfl (ow_eql rfl rfl ?_)
  refine rs_nil ?_
  refine ew_next ?_
  refine cw_else rfl ?_
  refine cw_skip ?_
  refine ew_next ?_
  refine cw_seq ?_
  refine cw_seq ?_
  refine cw_region ?_
  refine rs_op rfl (ow_move rfl ?_)
  refine rs_op rfl (ow_move rfl ?_)
  refine rs_op rfl (ow_leq rfl rfl ?_)
  refine rs_nil ?_
  refine ew_next ?_
  refine cw_else rfl ?_
  refine cw_skip ?_
  refine ew_next ?_
  refine cw_seq ?_
  refine cw_seq ?_
  refine cw_region ?_
  refine rs_op rfl (ow_move rfl ?_)
  refine rs_op rfl (ow_eql rfl rfl ?_)
  refine rs_nil ?_
  refine ew_next ?_
  refine cw_then rfl ?_
  refine cw_seq ?_
  have OY : ∀ q9, (Mut (outM [])) q9 → q9 < (World.drew w).heap.size → (No) q9 := fun k h _ => (Mut.none_) k h
  refine cw_drawn (No) Mut.none_ [] [] (fxAt [Fx.of (.int .u64 0),
      Fx.of (.int .u64 2147483647),
      Fx.of (.int .u64 0),
      Fx.of (.int .u64 0),
      Fx.of (.int .u64 2147483647),
      Fx.of (.int .u64 0),
      Fx.of (.int .u64 0),
      Fx.of (.int .u64 0)]) mixed rfl trivial (fun _ h => by cases h) ?_ ?_
  · refine ⟨?_, ?_, ?_, ?_, ?_, ?_, ?_, ?_, trivial⟩
    · intro vs X wq K
      have LE := K.1
      have XN := K.2.1
      have SQ := Nat.le_trans LW.size (Nat.le_trans E.size LE.size)
      exact ow_move rfl ⟨Below.refl _ _, Left.of rfl⟩
    · intro vs X wq K
      have LE := K.1
      have XN := K.2.1
      have SQ := Nat.le_trans LW.size (Nat.le_trans E.size LE.size)
      exact ow_move rfl ⟨Below.refl _ _, Left.of rfl⟩
    · intro vs X wq K
      have LE := K.1
      have XN := K.2.1
      have SQ := Nat.le_trans LW.size (Nat.le_trans E.size LE.size)
      obtain ⟨_, e0, k0⟩ := K.dep 0 rfl rfl rfl
      refine ow_set 28 (.int .u64 0) rfl e0 ?_
      obtain ⟨_, e1, k1⟩ := K.dep 1 rfl rfl rfl
      refine ow_set 29 (.int .u64 2147483647) rfl e1 ?_
      exact ow_quo (z := 0) rfl rfl (by decide) (by kernel_rfl) ⟨Below.refl _ _, Left.of rfl⟩
    · intro vs X wq K
      have LE := K.1
      have XN := K.2.1
      have SQ := Nat.le_trans LW.size (Nat.le_trans E.size LE.size)
      exact ow_move rfl ⟨Below.refl _ _, Left.of rfl⟩
    · intro vs X wq K
      have LE := K.1
      have XN := K.2.1
      have SQ := Nat.le_trans LW.size (Nat.le_trans E.size LE.size)
      exact ow_move rfl ⟨Below.refl _ _, Left.of rfl⟩
    · intro vs X wq K
      have LE := K.1
      have XN := K.2.1
      have SQ := Nat.le_trans LW.size (Nat.le_trans E.size LE.size)
      obtain ⟨_, e3, k3⟩ := K.dep 3 rfl rfl rfl
      refine ow_set 31 (.int .u64 0) rfl e3 ?_
      obtain ⟨_, e4, k4⟩ := K.dep 4 rfl rfl rfl
      refine ow_set 32 (.int .u64 2147483647) rfl e4 ?_
      exact ow_rem (z := 0) rfl rfl (by decide) (by kernel_rfl) ⟨Below.refl _ _, Left.of rfl⟩
    · intro vs X wq K
      have LE := K.1
      have XN := K.2.1
      have SQ := Nat.le_trans LW.size (Nat.le_trans E.size LE.size)
      obtain ⟨_, e2, k2⟩ := K.dep 2 rfl rfl rfl
      refine ow_set 30 (.int .u64 0) rfl e2 ?_
      exact ow_assign rfl ⟨Below.refl _ _, Left.of rfl⟩
    · intro vs X wq K
      have LE := K.1
      have XN := K.2.1
      have SQ := Nat.le_trans LW.size (Nat.le_trans E.size LE.size)
      obtain ⟨_, e5, k5⟩ := K.dep 5 rfl rfl rfl
      refine ow_set 33 (.int .u64 0) rfl e5 ?_
      exact ow_assign rfl ⟨Below.refl _ _, Left.of rfl⟩
  intro vs w1 LE AO AL AF AA
  replace E := E.drew.trans (LE.mono OY)
  obtain ⟨_, e6, k6⟩ := AL.2.2.2.2.2.2.1
  obtain ⟨_, e7, k7⟩ := AL.2.2.2.2.2.2.2.1
  refine ew_sub (τ := [(0, _), (1, _), (2, _), (6, .int .u64 0), (7, .int .u64 0)]) ⟨rfl, rfl, rfl, congrArg some e6, congrArg some e7, trivial⟩ ?_
  clear AL AF AA LE AO OY e6 e7 k6 k7
  refine ew_next ?_
  refine cw_ret ?_
  refine ew_then_ret ?_
  refine ew_ret (rs := [.tmp 6, .tmp 7]) (vs := [.int .u64 0, .int .u64 0]) rfl ⟨rfl, rfl, trivial⟩ ?_
  exact ⟨rfl, (LW.step E XLW).toBelow⟩
theorem rh74_3 : Gives 74 #[.int .u64 0, .int .u64 0, .int .u64 2147483647] (.int .u64 0) := by
  intro w
  refine calls_cw Tryz.func74 rfl Tryz.ntmps74 rfl ?_
  have HF : Per (No) w (fun _ => True) := Per.true_
  have LW := Ext.refl (No) w
  have XLW : ∀ q9, (No) q9 → (No) q9 ∨ w.heap.size ≤ q9 := fun _ h => Or.inl h
  have E := Ext.refl (No) w
  refine cw_seq ?_
  refine cw_region ?_
  refine rs_op rfl (ow_assign rfl ?_)
  refine rs_nil ?_
  refine ew_next ?_
  refine cw_seq ?_
  refine cw_region ?_
  refine rs_op rfl (ow_move rfl ?_)
  refine rs_op rfl (ow_move rfl ?_)
  refine rs_op rfl (ow_rem (z := 0) rfl rfl (by decide) (by kernel_rfl) ?_)
  refine rs_op rfl (ow_move rfl ?_)
  refine rs_op rfl (ow_move rfl ?_)
  refine rs_op rfl (ow_enter en109 rfl ((rh109_3 _).mono ?_))
  rintro e w1 ⟨rfl, hb⟩
  refine ⟨_, rfl, ?_⟩
  have Ec := Ext.of_below hb No
  replace E := E.trans Ec.no
  clear hb Ec
  refine rs_op rfl (ow_move rfl ?_)
  refine rs_op rfl (ow_extract rfl rfl ?_)
  refine rs_op rfl (ow_extract rfl rfl ?_)
  refine rs_op rfl (ow_assign rfl ?_)
  refine rs_op rfl (ow_assign rfl ?_)
  refine rs_nil ?_
  refine ew_next ?_
  refine cw_seq ?_
  refine cw_region ?_
  refine rs_op rfl (ow_move rfl ?_)
  refine rs_op rfl (ow_assign rfl ?_)
  refine rs_nil ?_
  refine ew_next ?_
  refine cw_ret ?_
  refine ew_ret (rs := [.tmp 6]) (vs := [.int .u64 0]) rfl ⟨rfl, trivial⟩ ?_
  exact ⟨rfl, (LW.step E XLW).toBelow⟩
theorem hash_zero (w : World) (a : Nat) (ha : a < 18446744073709551616) (hf : rg a < 9218868437227405312) (h0 : rg a = 0) : Calls Tryz.prog 36 #[.int .u64 ((a : Nat) : Int)] w fun e w' => e = .returned (.int .i64 (hashF a)) ∧ Below w.heap.size w w' := by
  have hp : pc a = 0 := by unfold pc; split <;> omega
  have hlt : (ford a 0 == some .lt) = false := by rw [ford_val (fin_notN hf) (by decide), hp]; decide
  have hF : hashF a = 0 := by
    have e : (if rg a = 9218868437227405312 then 314159 else ((hashM (rg a) : Nat) : Int)) = 0 := by rw [if_neg (by omega), h0, hashM_zero]; rfl
    rw [hashF, if_neg (by rw [fin_notN hf]; decide), e, Int.mul_zero]
  have hr : rg a < 18446744073709551616 := by omega
  refine calls_cw Tryz.func36 rfl Tryz.ntmps36 rfl ?_
  have HF : Per (No) w (fun _ => True) := Per.true_
  have LW := Ext.refl (No) w
  have XLW : ∀ q9, (No) q9 → (No) q9 ∨ w.heap.size ≤ q9 := fun _ h => Or.inl h
  have E := Ext.refl (No) w
  refine cw_seq ?_
  refine cw_region ?_
  refine rs_op rfl (ow_assign rfl ?_)
  refine rs_nil ?_
  refine ew_next ?_
  refine cw_seq ?_
  refine cw_region ?_
  refine rs_op rfl (ow_move rfl ?_)
  refine rs_op rfl (ow_frombits (b := a) ex60 rfl ?_)
  refine rs_op rfl (ow_assign rfl ?_)
  refine rs_nil ?_
  refine ew_next ?_
  refine cw_seq ?_
  refine cw_region ?_
  refine rs_op rfl (ow_assign rfl ?_)
  refine rs_nil ?_
  refine ew_next ?_
  refine cw_seq ?_
  refine cw_seq ?_
  refine cw_region ?_
  refine rs_op rfl (ow_move rfl ?_)
  refine rs_op rfl (ow_flss rfl rfl ?_)
  refine rs_nil ?_
  refine ew_next ?_
  refine cw_set 13 (.bool false) rfl ((by rw [hlt] : (.bool (ford a 0 == some .lt) : Value) = _)) ?_
  refine cw_else rfl ?_
  refine cw_skip ?_
  refine ew_next ?_
  refine cw_seq ?_
  refine cw_block ?_
  refine cw_seq ?_
  refine cw_region ?_
  refine rs_op rfl (ow_move rfl ?_)
  refine rs_op rfl (ow_move rfl ?_)
  refine rs_op rfl (ow_fneq rfl rfl ?_)
  refine rs_op rfl (ow_assign rfl ?_)
  refine rs_nil ?_
  refine ew_next ?_
  refine cw_set 14 (.bool false) rfl ((by rw [ford_self, fin_notN hf] : (.bool (ford a a != some .eq) : Value) = _)) ?_
  refine cw_else rfl ?_
  refine cw_seq ?_
  refine cw_region ?_
  refine rs_op rfl (ow_move rfl ?_)
  refine rs_op rfl (ow_enter en61 rfl ((misinf_any _ a ha).mono ?_))
  rintro e w1 ⟨rfl, hb⟩
  refine ⟨_, rfl, ?_⟩
  have Ec := Ext.of_below hb No
  replace E := E.trans Ec.no
  clear hb Ec
  refine rs_set 20 (.bool false) rfl ((by rw [decide_eq_false (by omega)] : (.bool (decide (rg a = 9218868437227405312)) : Value) = _)) ?_
  refine rs_op rfl (ow_assign rfl ?_)
  refine rs_nil ?_
  refine ew_next ?_
  refine cw_else rfl ?_
  refine cw_skip ?_
  refine ew_block_normal ?_
  refine ew_next ?_
  refine cw_seq ?_
  refine cw_region ?_
  refine rs_op rfl (ow_move rfl ?_)
  refine rs_op rfl (ow_enter en71 rfl ((abs_any _ a ha).mono ?_))
  rintro e w2 ⟨rfl, hb⟩
  refine ⟨_, rfl, ?_⟩
  have Ec := Ext.of_below hb No
  replace E := E.trans Ec.no
  clear hb Ec
  refine rs_op rfl (ow_enter en70 rfl ((Frexp_zero _ (rg a) hr (by rw [rg_rg]; exact h0)).mono ?_))
  rintro e w3 ⟨rfl, hb⟩
  refine ⟨_, rfl, ?_⟩
  have Ec := Ext.of_below hb No
  replace E := E.trans Ec.no
  clear hb Ec
  refine rs_op rfl (ow_move rfl ?_)
  refine rs_op rfl (ow_extract rfl rfl ?_)
  refine rs_op rfl (ow_extract rfl rfl ?_)
  refine rs_op rfl (ow_assign rfl ?_)
  refine rs_op rfl (ow_assign rfl ?_)
  refine rs_nil ?_
  refine ew_next ?_
  refine cw_seq ?_
  refine cw_region ?_
  refine rs_op rfl (ow_move rfl ?_)
  refine rs_op rfl (ow_enter en72 rfl ((Ldexp_zero _ (rg a) hr (by rw [rg_rg]; exact h0) 53).mono ?_))
  rintro e w4 ⟨rfl, hb⟩
  refine ⟨_, rfl, ?_⟩
  have Ec := Ext.of_below hb No
  replace E := E.trans Ec.no
  clear hb Ec
  refine rs_op rfl (ow_f2i (z := 0) Tryz.underlying22 (by rw [Tryz.underlying57]; rfl) rfl (by rw [h0]; decide +kernel) ?_)
  refine rs_op rfl (ow_assign rfl ?_)
  refine rs_nil ?_
  refine ew_next ?_
  refine cw_seq ?_
  refine cw_region ?_
  refine rs_op rfl (ow_move rfl ?_)
  refine rs_op rfl (ow_sub (z := (-53)) rfl rfl (by kernel_rfl) ?_)
  refine rs_op rfl (ow_rem (z := (-22)) rfl rfl (by decide) (by kernel_rfl) ?_)
  refine rs_op rfl (ow_add (z := 9) rfl rfl (by kernel_rfl) ?_)
  refine rs_op rfl (ow_rem (z := 9) rfl rfl (by decide) (by kernel_rfl) ?_)
  refine rs_op rfl (ow_assign rfl ?_)
  refine rs_nil ?_
  refine ew_next ?_
  refine cw_seq ?_
  refine cw_region ?_
  refine rs_op rfl (ow_move rfl ?_)
  refine rs_op rfl (ow_rem (z := 0) rfl rfl (by decide) (by kernel_rfl) ?_)
  refine rs_op rfl (ow_move rfl ?_)
  refine rs_op rfl (ow_shl (z := 512) rfl rfl (by decide) (by kernel_rfl) ?_)
  refine rs_op rfl (ow_enter en73 rfl ((rh73_1 _).mono ?_))
  rintro e w5 ⟨rfl, hb⟩
  refine ⟨_, rfl, ?_⟩
  have Ec := Ext.of_below hb No
  replace E := E.trans Ec.no
  clear hb Ec
  refine rs_op rfl (ow_move rfl ?_)
  refine rs_op rfl (ow_extract rfl rfl ?_)
  refine rs_op rfl (ow_extract rfl rfl ?_)
  refine rs_op rfl (ow_assign rfl ?_)
  refine rs_op rfl (ow_assign rfl ?_)
  refine rs_nil ?_
  refine ew_next ?_
  refine cw_seq ?_
  refine cw_region ?_
  refine rs_op rfl (ow_move rfl ?_)
  refine rs_op rfl (ow_move rfl ?_)
  refine rs_op rfl (ow_move rfl ?_)
  refine rs_op rfl (ow_enter en74 rfl ((rh74_3 _).mono ?_))
  rintro e w6 ⟨rfl, hb⟩
  refine ⟨_, rfl, ?_⟩
  have Ec := Ext.of_below hb No
  replace E := E.trans Ec.no
  clear hb Ec
  refine rs_op rfl (ow_conv (z := 0) Tryz.underlying3 Tryz.underlying22 rfl (by kernel_rfl) ?_)
  refine rs_op rfl (ow_mul (z := 0) rfl rfl (by kernel_rfl) ?_)
  refine rs_op rfl (ow_assign rfl ?_)
  refine rs_nil ?_
  refine ew_next ?_
  refine cw_ret ?_
  refine ew_ret (rs := [.tmp 2]) (vs := [_]) rfl ⟨rfl, trivial⟩ ?_
  exact ⟨by rw [hF]; rfl, (LW.step E XLW).toBelow⟩
section
variable (w : World) (a : Nat) (ha : a < 18446744073709551616)
include ha
theorem hash_nan (hn : isN a = true) : Calls Tryz.prog 36 #[.int .u64 ((a : Nat) : Int)] w fun e w' => e = .returned (.int .i64 (hashF a)) ∧ Below w.heap.size w w' := by
  have _ := ha
  refine calls_cw Tryz.func36 rfl Tryz.ntmps36 rfl ?_
  have HF : Per (No) w (fun _ => True) := Per.true_
  have LW := Ext.refl (No) w
  have XLW : ∀ q9, (No) q9 → (No) q9 ∨ w.heap.size ≤ q9 := fun _ h => Or.inl h
  have E := Ext.refl (No) w
  refine cw_seq ?_
  refine cw_region ?_
  refine rs_op rfl (ow_assign rfl ?_)
  refine rs_nil ?_
  refine ew_next ?_
  refine cw_seq ?_
  refine cw_region ?_
  refine rs_op rfl (ow_move rfl ?_)
  refine rs_op rfl (ow_frombits (b := a) ex60 rfl ?_)
  refine rs_op rfl (ow_assign rfl ?_)
  refine rs_nil ?_
  refine ew_next ?_
  refine cw_seq ?_
  refine cw_region ?_
  refine rs_op rfl (ow_assign rfl ?_)
  refine rs_nil ?_
  refine ew_next ?_
  refine cw_seq ?_
  refine cw_seq ?_
  refine cw_region ?_
  refine rs_op rfl (ow_move rfl ?_)
  refine rs_op rfl (ow_flss rfl rfl ?_)
  refine rs_nil ?_
  refine ew_next ?_
  refine cw_set 13 (.bool false) rfl ((by rw [ford_nan_no hn] : (.bool (ford a 0 == some .lt) : Value) = _)) ?_
  refine cw_else rfl ?_
  refine cw_skip ?_
  refine ew_next ?_
  refine cw_seq ?_
  refine cw_block ?_
  refine cw_seq ?_
  refine cw_region ?_
  refine rs_op rfl (ow_move rfl ?_)
  refine rs_op rfl (ow_move rfl ?_)
  refine rs_op rfl (ow_fneq rfl rfl ?_)
  refine rs_op rfl (ow_assign rfl ?_)
  refine rs_nil ?_
  refine ew_next ?_
  refine cw_set 14 (.bool true) rfl ((by rw [ford_self, hn] : (.bool (ford a a != some .eq) : Value) = _)) ?_
  refine cw_then rfl ?_
  refine cw_seq ?_
  refine cw_region ?_
  refine rs_op rfl (ow_assign rfl ?_)
  refine rs_nil ?_
  refine ew_next ?_
  refine cw_ret ?_
  refine ew_block_ret ?_
  refine ew_then_ret ?_
  refine ew_ret (rs := [.tmp 2]) (vs := [_]) rfl ⟨rfl, trivial⟩ ?_
  exact ⟨by rw [hashF, if_pos hn]; rfl, (LW.step E XLW).toBelow⟩
theorem hash_inf (hi : rg a = 9218868437227405312) : Calls Tryz.prog 36 #[.int .u64 ((a : Nat) : Int)] w fun e w' => e = .returned (.int .i64 (hashF a)) ∧ Below w.heap.size w w' := by
  have hn : isN a = false := decide_eq_false (by omega)
  refine calls_cw Tryz.func36 rfl Tryz.ntmps36 rfl ?_
  have HF : Per (No) w (fun _ => True) := Per.true_
  have LW := Ext.refl (No) w
  have XLW : ∀ q9, (No) q9 → (No) q9 ∨ w.heap.size ≤ q9 := fun _ h => Or.inl h
  have E := Ext.refl (No) w
  refine cw_seq ?_
  refine cw_region ?_
  refine rs_op rfl (ow_assign rfl ?_)
  refine rs_nil ?_
  refine ew_next ?_
  refine cw_seq ?_
  refine cw_region ?_
  refine rs_op rfl (ow_move rfl ?_)
  refine rs_op rfl (ow_frombits (b := a) ex60 rfl ?_)
  refine rs_op rfl (ow_assign rfl ?_)
  refine rs_nil ?_
  refine ew_next ?_
  refine cw_seq ?_
  refine cw_region ?_
  refine rs_op rfl (ow_assign rfl ?_)
  refine rs_nil ?_
  refine ew_next ?_
  refine cw_seq ?_
  refine cw_seq ?_
  refine cw_region ?_
  refine rs_op rfl (ow_move rfl ?_)
  refine rs_op rfl (ow_flss rfl rfl ?_)
  refine rs_nil ?_
  refine ew_next ?_
  refine cw_set 13 (.bool (ng a)) rfl ((by rw [ford_neg hn (by omega)] : (.bool (ford a 0 == some .lt) : Value) = _)) ?_
  refine cw_cond rfl (fun h => ?_) (fun h => ?_)
  · have _way := True.intro
    refine cw_region ?_
    refine rs_op rfl (ow_assign rfl ?_)
    refine rs_nil ?_
    refine ew_next ?_
    refine cw_seq ?_
    refine cw_block ?_
    refine cw_seq ?_
    refine cw_region ?_
    refine rs_op rfl (ow_move rfl ?_)
    refine rs_op rfl (ow_move rfl ?_)
    refine rs_op rfl (ow_fneq rfl rfl ?_)
    refine rs_op rfl (ow_assign rfl ?_)
    refine rs_nil ?_
    refine ew_next ?_
    refine cw_set 14 (.bool false) rfl ((by rw [ford_self, hn] : (.bool (ford a a != some .eq) : Value) = _)) ?_
    refine cw_else rfl ?_
    refine cw_seq ?_
    refine cw_region ?_
    refine rs_op rfl (ow_move rfl ?_)
    refine rs_op rfl (ow_enter en61 rfl ((misinf_any _ a ha).mono ?_))
    rintro e w1 ⟨rfl, hb⟩
    refine ⟨_, rfl, ?_⟩
    have Ec := Ext.of_below hb No
    replace E := E.trans Ec.no
    clear hb Ec
    refine rs_set 20 (.bool true) rfl ((by rw [decide_eq_true hi] : (.bool (decide (rg a = 9218868437227405312)) : Value) = _)) ?_
    refine rs_op rfl (ow_assign rfl ?_)
    refine rs_nil ?_
    refine ew_next ?_
    refine cw_then rfl ?_
    refine cw_seq ?_
    refine cw_region ?_
    refine rs_op rfl (ow_move rfl ?_)
    refine rs_op rfl (ow_mul (z := (-314159)) rfl rfl (by kernel_rfl) ?_)
    refine rs_op rfl (ow_assign rfl ?_)
    refine rs_nil ?_
    refine ew_next ?_
    refine cw_ret ?_
    refine ew_block_ret ?_
    refine ew_then_ret ?_
    refine ew_ret (rs := [.tmp 2]) (vs := [_]) rfl ⟨rfl, trivial⟩ ?_
    exact ⟨by rw [hashF, if_neg (by rw [hn]; decide), h, if_pos hi]; rfl, (LW.step E XLW).toBelow⟩
  · have _way := True.intro
    refine cw_skip ?_
    refine ew_next ?_
    refine cw_seq ?_
    refine cw_block ?_
    refine cw_seq ?_
    refine cw_region ?_
    refine rs_op rfl (ow_move rfl ?_)
    refine rs_op rfl (ow_move rfl ?_)
    refine rs_op rfl (ow_fneq rfl rfl ?_)
    refine rs_op rfl (ow_assign rfl ?_)
    refine rs_nil ?_
    refine ew_next ?_
    refine cw_set 14 (.bool false) rfl ((by rw [ford_self, hn] : (.bool (ford a a != some .eq) : Value) = _)) ?_
    refine cw_else rfl ?_
    refine cw_seq ?_
    refine cw_region ?_
    refine rs_op rfl (ow_move rfl ?_)
    refine rs_op rfl (ow_enter en61 rfl ((misinf_any _ a ha).mono ?_))
    rintro e w2 ⟨rfl, hb⟩
    refine ⟨_, rfl, ?_⟩
    have Ec := Ext.of_below hb No
    replace E := E.trans Ec.no
    clear hb Ec
    refine rs_set 20 (.bool true) rfl ((by rw [decide_eq_true hi] : (.bool (decide (rg a = 9218868437227405312)) : Value) = _)) ?_
    refine rs_op rfl (ow_assign rfl ?_)
    refine rs_nil ?_
    refine ew_next ?_
    refine cw_then rfl ?_
    refine cw_seq ?_
    refine cw_region ?_
    refine rs_op rfl (ow_move rfl ?_)
    refine rs_op rfl (ow_mul (z := 314159) rfl rfl (by kernel_rfl) ?_)
    refine rs_op rfl (ow_assign rfl ?_)
    refine rs_nil ?_
    refine ew_next ?_
    refine cw_ret ?_
    refine ew_block_ret ?_
    refine ew_then_ret ?_
    refine ew_ret (rs := [.tmp 2]) (vs := [_]) rfl ⟨rfl, trivial⟩ ?_
    exact ⟨by rw [hashF, if_neg (by rw [hn]; decide), h, if_pos hi]; rfl, (LW.step E XLW).toBelow⟩
section
variable (hf : rg a < 9218868437227405312)
include hf
section
variable (h0 : rg a ≠ 0)
include h0
theorem hash_num : Calls Tryz.prog 36 #[.int .u64 ((a : Nat) : Int)] w fun e w' => e = .returned (.int .i64 (hashF a)) ∧ Below w.heap.size w w' := by
  have hr : rg a < 18446744073709551616 := by omega
  obtain ⟨f1, f2, f3⟩ := frF_parts hf h0
  have f0 := (rg_self (r := frF (rg a)) (by omega)).1
  have f00 := (rg_self (r := frF (rg a)) (by omega)).2
  obtain ⟨fq1, fq2⟩ := fullQ (r := rg a) h0
  have fq3 : vl (1074 * 4503599627370496 + mg (nr (rg a))) = vl (frF (rg a)) * 2 ^ 53 := by rewrite [fq1, f3]; exact pow_split (p := 1074) (q := 1021) (s := 53) (by decide) _
  have hmg := (mg_nr h0).2
  have fw := word_rg (ng (frF (rg a))) (1074 * 4503599627370496 + mg (nr (rg a))) (by omega)
  have fz : floatToIntVal .f64 (Ieee.double.word (ng (frF (rg a))) (1074 * 4503599627370496 + mg (nr (rg a)))) .u64 = some ((mg (nr (rg a)) : Nat) : Int) := by
    have h1 := wholeN_word (ng (frF (rg a))) fq2 fq1
    have h2 := f2i_u64 (a := Ieee.double.word (ng (frF (rg a))) (1074 * 4503599627370496 + mg (nr (rg a)))) (by rw [fw.1]; exact fq2) (by rw [fw.2.1]; exact f00) (by rw [h1]; omega)
    rw [h1] at h2
    exact h2
  obtain ⟨b1, b2⟩ := frE_bound hf
  obtain ⟨t1, t2, t3⟩ := tmod31 (frE (rg a) - 53)
  obtain ⟨k, hk⟩ : ∃ k : Nat, (frE (rg a) - 53) % 31 = (k : Int) := ⟨((frE (rg a) - 53) % 31).toNat, by omega⟩
  have hk31 : k < 31 := by omega
  have hpr := hash_prog (r := rg a) (rg_lt a) h0
  have hkt : ((frE (rg a) - 53) % 31).toNat = k := by omega
  rw [hkt] at hpr
  have hp2 : 2 ^ k ≤ 1073741824 := (Nat.pow_le_pow_right (by decide) (show k ≤ 30 by omega) : 2 ^ k ≤ 2 ^ 30)
  have hprod : mg (nr (rg a)) % 2147483647 * 2 ^ k ≤ 2147483647 * 1073741824 := Nat.mul_le_mul (Nat.le_of_lt (Nat.mod_lt _ (by decide))) hp2
  have hml := hashM_lt (rg a)
  have hni : ¬ rg a = 9218868437227405312 := by omega
  refine calls_cw Tryz.func36 rfl Tryz.ntmps36 rfl ?_
  have HF : Per (No) w (fun _ => True) := Per.true_
  have LW := Ext.refl (No) w
  have XLW : ∀ q9, (No) q9 → (No) q9 ∨ w.heap.size ≤ q9 := fun _ h => Or.inl h
  have E := Ext.refl (No) w
  refine cw_seq ?_
  refine cw_region ?_
  refine rs_op rfl (ow_assign rfl ?_)
  refine rs_nil ?_
  refine ew_next ?_
  refine cw_seq ?_
  refine cw_region ?_
  refine rs_op rfl (ow_move rfl ?_)
  refine rs_op rfl (ow_frombits (b := a) ex60 rfl ?_)
  refine rs_op rfl (ow_assign rfl ?_)
  refine rs_nil ?_
  refine ew_next ?_
  refine cw_seq ?_
  refine cw_region ?_
  refine rs_op rfl (ow_assign rfl ?_)
  refine rs_nil ?_
  refine ew_next ?_
  refine cw_seq ?_
  refine cw_seq ?_
  refine cw_region ?_
  refine rs_op rfl (ow_move rfl ?_)
  refine rs_op rfl (ow_flss rfl rfl ?_)
  refine rs_nil ?_
  refine ew_next ?_
  refine cw_set 13 (.bool (ng a)) rfl ((by rw [ford_neg (fin_notN hf) h0] : (.bool (ford a 0 == some .lt) : Value) = _)) ?_
  refine cw_cond rfl (fun h => ?_) (fun h => ?_)
  · have _way := True.intro
    refine cw_region ?_
    refine rs_op rfl (ow_assign rfl ?_)
    refine rs_nil ?_
    refine ew_next ?_
    refine cw_seq ?_
    refine cw_block ?_
    refine cw_seq ?_
    refine cw_region ?_
    refine rs_op rfl (ow_move rfl ?_)
    refine rs_op rfl (ow_move rfl ?_)
    refine rs_op rfl (ow_fneq rfl rfl ?_)
    refine rs_op rfl (ow_assign rfl ?_)
    refine rs_nil ?_
    refine ew_next ?_
    refine cw_set 14 (.bool false) rfl ((by rw [ford_self, fin_notN hf] : (.bool (ford a a != some .eq) : Value) = _)) ?_
    refine cw_else rfl ?_
    refine cw_seq ?_
    refine cw_region ?_
    refine rs_op rfl (ow_move rfl ?_)
    refine rs_op rfl (ow_enter en61 rfl ((misinf_any _ a ha).mono ?_))
    rintro e w1 ⟨rfl, hb⟩
    refine ⟨_, rfl, ?_⟩
    have Ec := Ext.of_below hb No
    replace E := E.trans Ec.no
    clear hb Ec
    refine rs_set 20 (.bool false) rfl ((by rw [decide_eq_false (by omega)] : (.bool (decide (rg a = 9218868437227405312)) : Value) = _)) ?_
    refine rs_op rfl (ow_assign rfl ?_)
    refine rs_nil ?_
    refine ew_next ?_
    refine cw_else rfl ?_
    refine cw_skip ?_
    refine ew_block_normal ?_
    refine ew_next ?_
    refine cw_seq ?_
    refine cw_region ?_
    refine rs_op rfl (ow_move rfl ?_)
    refine rs_op rfl (ow_enter en71 rfl ((abs_any _ a ha).mono ?_))
    rintro e w2 ⟨rfl, hb⟩
    refine ⟨_, rfl, ?_⟩
    have Ec := Ext.of_below hb No
    replace E := E.trans Ec.no
    clear hb Ec
    refine rs_op rfl (ow_enter en70 rfl ((Frexp_num _ (rg a) hr (by rw [rg_rg]; exact h0) (by rw [rg_rg]; exact hf)).mono ?_))
    rintro e w3 ⟨rfl, hb⟩
    refine ⟨_, rfl, ?_⟩
    have Ec := Ext.of_below hb No
    replace E := E.trans Ec.no
    clear hb Ec
    refine rs_op rfl (ow_move rfl ?_)
    refine rs_op rfl (ow_extract rfl rfl ?_)
    refine rs_op rfl (ow_extract rfl rfl ?_)
    refine rs_op rfl (ow_assign rfl ?_)
    refine rs_op rfl (ow_assign rfl ?_)
    refine rs_nil ?_
    refine ew_next ?_
    refine cw_seq ?_
    refine cw_region ?_
    refine rs_op rfl (ow_move rfl ?_)
    refine rs_op rfl (ow_enter en72 rfl ((Ldexp_num _ (frF (rg a)) (by omega) (by rw [f0]; exact f2) (by rw [f0]; exact f1) 53 (1074 * 4503599627370496 + mg (nr (rg a))) (by decide) fq2 (by rw [f0]; exact fq3)).mono ?_))
    rintro e w4 ⟨rfl, hb⟩
    refine ⟨_, rfl, ?_⟩
    have Ec := Ext.of_below hb No
    replace E := E.trans Ec.no
    clear hb Ec
    refine rs_op rfl (ow_f2i (z := ((mg (nr (rg a)) : Nat) : Int)) Tryz.underlying22 (by rw [Tryz.underlying57]; rfl) rfl fz ?_)
    refine rs_op rfl (ow_assign rfl ?_)
    refine rs_nil ?_
    refine ew_next ?_
    refine cw_seq ?_
    refine cw_region ?_
    refine rs_op rfl (ow_move rfl ?_)
    refine rs_op rfl (ow_sub rfl rfl (wrap_i64 (by omega)) ?_)
    refine rs_op rfl (ow_rem (z := (frE (rg a) - 53).tmod 31) rfl rfl (by decide) rfl ?_)
    refine rs_op rfl (ow_add rfl rfl (wrap_i64 (by omega)) ?_)
    refine rs_op rfl (ow_rem (z := ((k : Nat) : Int)) rfl rfl (by decide) (by rw [t1, hk]) ?_)
    refine rs_op rfl (ow_assign rfl ?_)
    refine rs_nil ?_
    refine ew_next ?_
    refine cw_seq ?_
    refine cw_region ?_
    refine rs_op rfl (ow_move rfl ?_)
    refine rs_op rfl (ow_rem (z := ((mg (nr (rg a)) % 2147483647 : Nat) : Int)) rfl rfl (by decide) (tmod_nat _ 2147483647) ?_)
    refine rs_op rfl (ow_move rfl ?_)
    refine rs_op rfl (ow_shl rfl rfl (by omega) (shl_nat 1 k (by omega)) ?_)
    refine rs_set 41 (.int .u64 ((2 ^ k : Nat) : Int)) rfl ((by rw [Nat.one_mul, Nat.mod_eq_of_lt (by omega)] : (.int .u64 ((1 * 2 ^ k % 18446744073709551616 : Nat) : Int) : Value) = _)) ?_
    refine rs_op rfl (ow_enter en73 rfl ((mul64_b (mg (nr (rg a)) % 2147483647) (2 ^ k) (by omega) (by omega) _).mono ?_))
    rintro e w5 ⟨rfl, hb⟩
    refine ⟨_, rfl, ?_⟩
    have Ec := Ext.of_below hb No
    replace E := E.trans Ec.no
    clear hb Ec
    refine rs_op rfl (ow_move rfl ?_)
    refine rs_op rfl (ow_extract rfl rfl ?_)
    refine rs_op rfl (ow_extract rfl rfl ?_)
    refine rs_op rfl (ow_assign rfl ?_)
    refine rs_op rfl (ow_assign rfl ?_)
    refine rs_nil ?_
    refine ew_next ?_
    refine cw_seq ?_
    refine cw_region ?_
    refine rs_op rfl (ow_move rfl ?_)
    refine rs_op rfl (ow_move rfl ?_)
    refine rs_op rfl (ow_move rfl ?_)
    refine rs_op rfl (ow_enter en74 rfl ((rem64_any _ (mg (nr (rg a)) % 2147483647 * 2 ^ k / 18446744073709551616) (mg (nr (rg a)) % 2147483647 * 2 ^ k % 18446744073709551616) (by omega) (Nat.mod_lt _ (by decide))).mono ?_))
    rintro e w6 ⟨rfl, hb⟩
    refine ⟨_, rfl, ?_⟩
    have Ec := Ext.of_below hb No
    replace E := E.trans Ec.no
    clear hb Ec
    refine rs_set 48 (.int .u64 ((hashM (rg a) : Nat) : Int)) rfl ((by rw [split_div rfl rfl, ← hpr] : (.int .u64 (((mg (nr (rg a)) % 2147483647 * 2 ^ k / 18446744073709551616 * 18446744073709551616 + mg (nr (rg a)) % 2147483647 * 2 ^ k % 18446744073709551616) % 2147483647 : Nat) : Int) : Value) = _)) ?_
    refine rs_op rfl (ow_conv Tryz.underlying3 Tryz.underlying22 rfl (wrap_i64 (by omega)) ?_)
    refine rs_op rfl (ow_mul rfl rfl (wrap_i64 (by omega)) ?_)
    refine rs_op rfl (ow_assign rfl ?_)
    refine rs_nil ?_
    refine ew_next ?_
    refine cw_ret ?_
    refine ew_ret (rs := [.tmp 2]) (vs := [_]) rfl ⟨rfl, trivial⟩ ?_
    exact ⟨by rw [hashF, if_neg (by rw [fin_notN hf]; decide), h, if_neg hni]; rfl, (LW.step E XLW).toBelow⟩
  · have _way := True.intro
    refine cw_skip ?_
    refine ew_next ?_
    refine cw_seq ?_
    refine cw_block ?_
    refine cw_seq ?_
    refine cw_region ?_
    refine rs_op rfl (ow_move rfl ?_)
    refine rs_op rfl (ow_move rfl ?_)
    refine rs_op rfl (ow_fneq rfl rfl ?_)
    refine rs_op rfl (ow_assign rfl ?_)
    refine rs_nil ?_
    refine ew_next ?_
    refine cw_set 14 (.bool false) rfl ((by rw [ford_self, fin_notN hf] : (.bool (ford a a != some .eq) : Value) = _)) ?_
    refine cw_else rfl ?_
    refine cw_seq ?_
    refine cw_region ?_
    refine rs_op rfl (ow_move rfl ?_)
    refine rs_op rfl (ow_enter en61 rfl ((misinf_any _ a ha).mono ?_))
    rintro e w7 ⟨rfl, hb⟩
    refine ⟨_, rfl, ?_⟩
    have Ec := Ext.of_below hb No
    replace E := E.trans Ec.no
    clear hb Ec
    refine rs_set 20 (.bool false) rfl ((by rw [decide_eq_false (by omega)] : (.bool (decide (rg a = 9218868437227405312)) : Value) = _)) ?_
    refine rs_op rfl (ow_assign rfl ?_)
    refine rs_nil ?_
    refine ew_next ?_
    refine cw_else rfl ?_
    refine cw_skip ?_
    refine ew_block_normal ?_
    refine ew_next ?_
    refine cw_seq ?_
    refine cw_region ?_
    refine rs_op rfl (ow_move rfl ?_)
    refine rs_op rfl (ow_enter en71 rfl ((abs_any _ a ha).mono ?_))
    rintro e w8 ⟨rfl, hb⟩
    refine ⟨_, rfl, ?_⟩
    have Ec := Ext.of_below hb No
    replace E := E.trans Ec.no
    clear hb Ec
    refine rs_op rfl (ow_enter en70 rfl ((Frexp_num _ (rg a) hr (by rw [rg_rg]; exact h0) (by rw [rg_rg]; exact hf)).mono ?_))
    rintro e w9 ⟨rfl, hb⟩
    refine ⟨_, rfl, ?_⟩
    have Ec := Ext.of_below hb No
    replace E := E.trans Ec.no
    clear hb Ec
    refine rs_op rfl (ow_move rfl ?_)
    refine rs_op rfl (ow_extract rfl rfl ?_)
    refine rs_op rfl (ow_extract rfl rfl ?_)
    refine rs_op rfl (ow_assign rfl ?_)
    refine rs_op rfl (ow_assign rfl ?_)
    refine rs_nil ?_
    refine ew_next ?_
    refine cw_seq ?_
    refine cw_region ?_
    refine rs_op rfl (ow_move rfl ?_)
    refine rs_op rfl (ow_enter en72 rfl ((Ldexp_num _ (frF (rg a)) (by omega) (by rw [f0]; exact f2) (by rw [f0]; exact f1) 53 (1074 * 4503599627370496 + mg (nr (rg a))) (by decide) fq2 (by rw [f0]; exact fq3)).mono ?_))
    rintro e w10 ⟨rfl, hb⟩
    refine ⟨_, rfl, ?_⟩
    have Ec := Ext.of_below hb No
    replace E := E.trans Ec.no
    clear hb Ec
    refine rs_op rfl (ow_f2i (z := ((mg (nr (rg a)) : Nat) : Int)) Tryz.underlying22 (by rw [Tryz.underlying57]; rfl) rfl fz ?_)
    refine rs_op rfl (ow_assign rfl ?_)
    refine rs_nil ?_
    refine ew_next ?_
    refine cw_seq ?_
    refine cw_region ?_
    refine rs_op rfl (ow_move rfl ?_)
    refine rs_op rfl (ow_sub rfl rfl (wrap_i64 (by omega)) ?_)
    refine rs_op rfl (ow_rem (z := (frE (rg a) - 53).tmod 31) rfl rfl (by decide) rfl ?_)
    refine rs_op rfl (ow_add rfl rfl (wrap_i64 (by omega)) ?_)
    refine rs_op rfl (ow_rem (z := ((k : Nat) : Int)) rfl rfl (by decide) (by rw [t1, hk]) ?_)
    refine rs_op rfl (ow_assign rfl ?_)
    refine rs_nil ?_
    refine ew_next ?_
    refine cw_seq ?_
    refine cw_region ?_
    refine rs_op rfl (ow_move rfl ?_)
    refine rs_op rfl (ow_rem (z := ((mg (nr (rg a)) % 2147483647 : Nat) : Int)) rfl rfl (by decide) (tmod_nat _ 2147483647) ?_)
    refine rs_op rfl (ow_move rfl ?_)
    refine rs_op rfl (ow_shl rfl rfl (by omega) (shl_nat 1 k (by omega)) ?_)
    refine rs_set 41 (.int .u64 ((2 ^ k : Nat) : Int)) rfl ((by rw [Nat.one_mul, Nat.mod_eq_of_lt (by omega)] : (.int .u64 ((1 * 2 ^ k % 18446744073709551616 : Nat) : Int) : Value) = _)) ?_
    refine rs_op rfl (ow_enter en73 rfl ((mul64_b (mg (nr (rg a)) % 2147483647) (2 ^ k) (by omega) (by omega) _).mono ?_))
    rintro e w11 ⟨rfl, hb⟩
    refine ⟨_, rfl, ?_⟩
    have Ec := Ext.of_below hb No
    replace E := E.trans Ec.no
    clear hb Ec
    refine rs_op rfl (ow_move rfl ?_)
    refine rs_op rfl (ow_extract rfl rfl ?_)
    refine rs_op rfl (ow_extract rfl rfl ?_)
    refine rs_op rfl (ow_assign rfl ?_)
    refine rs_op rfl (ow_assign rfl ?_)
    refine rs_nil ?_
    refine ew_next ?_
    refine cw_seq ?_
    refine cw_region ?_
    refine rs_op rfl (ow_move rfl ?_)
    refine rs_op rfl (ow_move rfl ?_)
    refine rs_op rfl (ow_move rfl ?_)
    refine rs_op rfl (ow_enter en74 rfl ((rem64_any _ (mg (nr (rg a)) % 2147483647 * 2 ^ k / 18446744073709551616) (mg (nr (rg a)) % 2147483647 * 2 ^ k % 18446744073709551616) (by omega) (Nat.mod_lt _ (by decide))).mono ?_))
    rintro e w12 ⟨rfl, hb⟩
    refine ⟨_, rfl, ?_⟩
    have Ec := Ext.of_below hb No
    replace E := E.trans Ec.no
    clear hb Ec
    refine rs_set 48 (.int .u64 ((hashM (rg a) : Nat) : Int)) rfl ((by rw [split_div rfl rfl, ← hpr] : (.int .u64 (((mg (nr (rg a)) % 2147483647 * 2 ^ k / 18446744073709551616 * 18446744073709551616 + mg (nr (rg a)) % 2147483647 * 2 ^ k % 18446744073709551616) % 2147483647 : Nat) : Int) : Value) = _)) ?_
    refine rs_op rfl (ow_conv Tryz.underlying3 Tryz.underlying22 rfl (wrap_i64 (by omega)) ?_)
    refine rs_op rfl (ow_mul rfl rfl (wrap_i64 (by omega)) ?_)
    refine rs_op rfl (ow_assign rfl ?_)
    refine rs_nil ?_
    refine ew_next ?_
    refine cw_ret ?_
    refine ew_ret (rs := [.tmp 2]) (vs := [_]) rfl ⟨rfl, trivial⟩ ?_
    exact ⟨by rw [hashF, if_neg (by rw [fin_notN hf]; decide), h, if_neg hni]; rfl, (LW.step E XLW).toBelow⟩
end
end
theorem hash_any : Calls Tryz.prog 36 #[.int .u64 ((a : Nat) : Int)] w fun e w' => e = .returned (.int .i64 (hashF a)) ∧ Below w.heap.size w w' := by
  cases hn : isN a with
  | true => exact hash_nan w a ha hn
  | false =>
    have h1 := of_decide_eq_false hn
    by_cases hi : rg a = 9218868437227405312
    · exact hash_inf w a ha hi
    · by_cases h0 : rg a = 0
      · exact hash_zero w a ha (by omega) h0
      · exact hash_num w a ha (by omega) h0
end
end Go.Proofs.YtljndllhmdpjlaaGreatDoor
namespace Go.Proofs.YtljndllhmdpjlaaGreatDoor
open Go.RowKit
set_option maxRecDepth 100000
theorem emod31 {x : Int} (h : 0 ≤ x) : x.tmod 31 = x % 31 := Int.tmod_eq_emod_of_nonneg h
section
variable (w : World) (a : Nat) (ha : a < 18446744073709551616)
include ha
theorem rhash_nan (hn : isN a = true) : Calls Tryz.prog 37 #[.int .u64 ((a : Nat) : Int)] w fun e w' => e = .returned (.int .i64 (hashF a)) ∧ Below w.heap.size w w' := by
  have hxa : ex (rg a) ≤ 9007199254740992 := by have := rg_lt a; unfold ex; split <;> omega
  refine calls_cw Tryz.func37 rfl Tryz.ntmps37 rfl ?_
  have HF : Per (No) w (fun _ => True) := Per.true_
  have LW := Ext.refl (No) w
  have XLW : ∀ q9, (No) q9 → (No) q9 ∨ w.heap.size ≤ q9 := fun _ h => Or.inl h
  have E := Ext.refl (No) w
  refine cw_seq ?_
  refine cw_region ?_
  refine rs_op rfl (ow_assign rfl ?_)
  refine rs_nil ?_
  refine ew_next ?_
  refine cw_seq ?_
  refine cw_region ?_
  refine rs_op rfl (ow_assign rfl ?_)
  refine rs_nil ?_
  refine ew_next ?_
  refine cw_seq ?_
  refine cw_seq ?_
  refine cw_region ?_
  refine rs_op rfl (ow_move rfl ?_)
  refine rs_op rfl (ow_enter en48 rfl ((below_any_r _ a ha).mono ?_))
  rintro e w1 ⟨rfl, hb⟩
  refine ⟨_, rfl, ?_⟩
  have Ec := Ext.of_below hb No
  replace E := E.trans Ec.no
  clear hb Ec
  refine rs_nil ?_
  refine ew_next ?_
  refine cw_cond rfl (fun h => ?_) (fun h => ?_)
  · have _way := True.intro
    refine cw_region ?_
    refine rs_op rfl (ow_assign rfl ?_)
    refine rs_nil ?_
    refine ew_next ?_
    refine cw_seq ?_
    refine cw_seq ?_
    refine cw_region ?_
    refine rs_op rfl (ow_move rfl ?_)
    refine rs_op rfl (ow_enter en18 rfl ((isnan_any _ a ha).mono ?_))
    rintro e w2 ⟨rfl, hb⟩
    refine ⟨_, rfl, ?_⟩
    have Ec := Ext.of_below hb No
    replace E := E.trans Ec.no
    clear hb Ec
    refine rs_set 11 (.bool true) rfl ((by rw [hn] : (.bool (isN a) : Value) = _)) ?_
    refine rs_nil ?_
    refine ew_next ?_
    refine cw_then rfl ?_
    refine cw_seq ?_
    refine cw_region ?_
    refine rs_op rfl (ow_assign rfl ?_)
    refine rs_nil ?_
    refine ew_next ?_
    refine cw_ret ?_
    refine ew_then_ret ?_
    refine ew_ret (rs := [.tmp 2]) (vs := [_]) rfl ⟨rfl, trivial⟩ ?_
    exact ⟨by rw [hashF, if_pos hn]; rfl, (LW.step E XLW).toBelow⟩
  · have _way := True.intro
    refine cw_skip ?_
    refine ew_next ?_
    refine cw_seq ?_
    refine cw_seq ?_
    refine cw_region ?_
    refine rs_op rfl (ow_move rfl ?_)
    refine rs_op rfl (ow_enter en18 rfl ((isnan_any _ a ha).mono ?_))
    rintro e w3 ⟨rfl, hb⟩
    refine ⟨_, rfl, ?_⟩
    have Ec := Ext.of_below hb No
    replace E := E.trans Ec.no
    clear hb Ec
    refine rs_set 11 (.bool true) rfl ((by rw [hn] : (.bool (isN a) : Value) = _)) ?_
    refine rs_nil ?_
    refine ew_next ?_
    refine cw_then rfl ?_
    refine cw_seq ?_
    refine cw_region ?_
    refine rs_op rfl (ow_assign rfl ?_)
    refine rs_nil ?_
    refine ew_next ?_
    refine cw_ret ?_
    refine ew_then_ret ?_
    refine ew_ret (rs := [.tmp 2]) (vs := [_]) rfl ⟨rfl, trivial⟩ ?_
    exact ⟨by rw [hashF, if_pos hn]; rfl, (LW.step E XLW).toBelow⟩
theorem rhash_inf (hn : isN a = false) (hi : rg a = 9218868437227405312) : Calls Tryz.prog 37 #[.int .u64 ((a : Nat) : Int)] w fun e w' => e = .returned (.int .i64 (hashF a)) ∧ Below w.heap.size w w' := by
  have hxa : ex (rg a) ≤ 9007199254740992 := by have := rg_lt a; unfold ex; split <;> omega
  refine calls_cw Tryz.func37 rfl Tryz.ntmps37 rfl ?_
  have HF : Per (No) w (fun _ => True) := Per.true_
  have LW := Ext.refl (No) w
  have XLW : ∀ q9, (No) q9 → (No) q9 ∨ w.heap.size ≤ q9 := fun _ h => Or.inl h
  have E := Ext.refl (No) w
  refine cw_seq ?_
  refine cw_region ?_
  refine rs_op rfl (ow_assign rfl ?_)
  refine rs_nil ?_
  refine ew_next ?_
  refine cw_seq ?_
  refine cw_region ?_
  refine rs_op rfl (ow_assign rfl ?_)
  refine rs_nil ?_
  refine ew_next ?_
  refine cw_seq ?_
  refine cw_seq ?_
  refine cw_region ?_
  refine rs_op rfl (ow_move rfl ?_)
  refine rs_op rfl (ow_enter en48 rfl ((below_any_r _ a ha).mono ?_))
  rintro e w1 ⟨rfl, hb⟩
  refine ⟨_, rfl, ?_⟩
  have Ec := Ext.of_below hb No
  replace E := E.trans Ec.no
  clear hb Ec
  refine rs_nil ?_
  refine ew_next ?_
  refine cw_cond rfl (fun h => ?_) (fun h => ?_)
  · have _way := True.intro
    refine cw_region ?_
    refine rs_op rfl (ow_assign rfl ?_)
    refine rs_nil ?_
    refine ew_next ?_
    refine cw_seq ?_
    refine cw_seq ?_
    refine cw_region ?_
    refine rs_op rfl (ow_move rfl ?_)
    refine rs_op rfl (ow_enter en18 rfl ((isnan_any _ a ha).mono ?_))
    rintro e w2 ⟨rfl, hb⟩
    refine ⟨_, rfl, ?_⟩
    have Ec := Ext.of_below hb No
    replace E := E.trans Ec.no
    clear hb Ec
    refine rs_set 11 (.bool false) rfl ((by rw [hn] : (.bool (isN a) : Value) = _)) ?_
    refine rs_nil ?_
    refine ew_next ?_
    refine cw_else rfl ?_
    refine cw_skip ?_
    refine ew_next ?_
    refine cw_seq ?_
    refine cw_seq ?_
    refine cw_region ?_
    refine rs_op rfl (ow_move rfl ?_)
    refine rs_op rfl (ow_enter en34 rfl ((isinf_any _ a ha).mono ?_))
    rintro e w3 ⟨rfl, hb⟩
    refine ⟨_, rfl, ?_⟩
    have Ec := Ext.of_below hb No
    replace E := E.trans Ec.no
    clear hb Ec
    refine rs_set 13 (.bool true) rfl ((by rw [decide_eq_true hi] : (.bool (decide (rg a = 9218868437227405312)) : Value) = _)) ?_
    refine rs_nil ?_
    refine ew_next ?_
    refine cw_then rfl ?_
    refine cw_seq ?_
    refine cw_region ?_
    refine rs_op rfl (ow_move rfl ?_)
    refine rs_op rfl (ow_mul (z := (-314159)) rfl rfl (by kernel_rfl) ?_)
    refine rs_op rfl (ow_assign rfl ?_)
    refine rs_nil ?_
    refine ew_next ?_
    refine cw_ret ?_
    refine ew_then_ret ?_
    refine ew_ret (rs := [.tmp 2]) (vs := [_]) rfl ⟨rfl, trivial⟩ ?_
    exact ⟨by rw [hashF, if_neg (by rw [hn]; decide), h, if_pos hi]; rfl, (LW.step E XLW).toBelow⟩
  · have _way := True.intro
    refine cw_skip ?_
    refine ew_next ?_
    refine cw_seq ?_
    refine cw_seq ?_
    refine cw_region ?_
    refine rs_op rfl (ow_move rfl ?_)
    refine rs_op rfl (ow_enter en18 rfl ((isnan_any _ a ha).mono ?_))
    rintro e w4 ⟨rfl, hb⟩
    refine ⟨_, rfl, ?_⟩
    have Ec := Ext.of_below hb No
    replace E := E.trans Ec.no
    clear hb Ec
    refine rs_set 11 (.bool false) rfl ((by rw [hn] : (.bool (isN a) : Value) = _)) ?_
    refine rs_nil ?_
    refine ew_next ?_
    refine cw_else rfl ?_
    refine cw_skip ?_
    refine ew_next ?_
    refine cw_seq ?_
    refine cw_seq ?_
    refine cw_region ?_
    refine rs_op rfl (ow_move rfl ?_)
    refine rs_op rfl (ow_enter en34 rfl ((isinf_any _ a ha).mono ?_))
    rintro e w5 ⟨rfl, hb⟩
    refine ⟨_, rfl, ?_⟩
    have Ec := Ext.of_below hb No
    replace E := E.trans Ec.no
    clear hb Ec
    refine rs_set 13 (.bool true) rfl ((by rw [decide_eq_true hi] : (.bool (decide (rg a = 9218868437227405312)) : Value) = _)) ?_
    refine rs_nil ?_
    refine ew_next ?_
    refine cw_then rfl ?_
    refine cw_seq ?_
    refine cw_region ?_
    refine rs_op rfl (ow_move rfl ?_)
    refine rs_op rfl (ow_mul (z := 314159) rfl rfl (by kernel_rfl) ?_)
    refine rs_op rfl (ow_assign rfl ?_)
    refine rs_nil ?_
    refine ew_next ?_
    refine cw_ret ?_
    refine ew_then_ret ?_
    refine ew_ret (rs := [.tmp 2]) (vs := [_]) rfl ⟨rfl, trivial⟩ ?_
    exact ⟨by rw [hashF, if_neg (by rw [hn]; decide), h, if_pos hi]; rfl, (LW.step E XLW).toBelow⟩
theorem rhash_num (hn : isN a = false) (hni : ¬ rg a = 9218868437227405312) (hf : rg a < 9218868437227405312) : Calls Tryz.prog 37 #[.int .u64 ((a : Nat) : Int)] w fun e w' => e = .returned (.int .i64 (hashF a)) ∧ Below w.heap.size w w' := by
  have hxa : ex (rg a) ≤ 9007199254740992 := by have := rg_lt a; unfold ex; split <;> omega
  refine calls_cw Tryz.func37 rfl Tryz.ntmps37 rfl ?_
  have HF : Per (No) w (fun _ => True) := Per.true_
  have LW := Ext.refl (No) w
  have XLW : ∀ q9, (No) q9 → (No) q9 ∨ w.heap.size ≤ q9 := fun _ h => Or.inl h
  have E := Ext.refl (No) w
  refine cw_seq ?_
  refine cw_region ?_
  refine rs_op rfl (ow_assign rfl ?_)
  refine rs_nil ?_
  refine ew_next ?_
  refine cw_seq ?_
  refine cw_region ?_
  refine rs_op rfl (ow_assign rfl ?_)
  refine rs_nil ?_
  refine ew_next ?_
  refine cw_seq ?_
  refine cw_seq ?_
  refine cw_region ?_
  refine rs_op rfl (ow_move rfl ?_)
  refine rs_op rfl (ow_enter en48 rfl ((below_any_r _ a ha).mono ?_))
  rintro e w1 ⟨rfl, hb⟩
  refine ⟨_, rfl, ?_⟩
  have Ec := Ext.of_below hb No
  replace E := E.trans Ec.no
  clear hb Ec
  refine rs_nil ?_
  refine ew_next ?_
  refine cw_cond rfl (fun h => ?_) (fun h => ?_)
  · have _way := True.intro
    refine cw_region ?_
    refine rs_op rfl (ow_assign rfl ?_)
    refine rs_nil ?_
    refine ew_next ?_
    refine cw_seq ?_
    refine cw_seq ?_
    refine cw_region ?_
    refine rs_op rfl (ow_move rfl ?_)
    refine rs_op rfl (ow_enter en18 rfl ((isnan_any _ a ha).mono ?_))
    rintro e w2 ⟨rfl, hb⟩
    refine ⟨_, rfl, ?_⟩
    have Ec := Ext.of_below hb No
    replace E := E.trans Ec.no
    clear hb Ec
    refine rs_set 11 (.bool false) rfl ((by rw [hn] : (.bool (isN a) : Value) = _)) ?_
    refine rs_nil ?_
    refine ew_next ?_
    refine cw_else rfl ?_
    refine cw_skip ?_
    refine ew_next ?_
    refine cw_seq ?_
    refine cw_seq ?_
    refine cw_region ?_
    refine rs_op rfl (ow_move rfl ?_)
    refine rs_op rfl (ow_enter en34 rfl ((isinf_any _ a ha).mono ?_))
    rintro e w3 ⟨rfl, hb⟩
    refine ⟨_, rfl, ?_⟩
    have Ec := Ext.of_below hb No
    replace E := E.trans Ec.no
    clear hb Ec
    refine rs_set 13 (.bool false) rfl ((by rw [decide_eq_false (by omega)] : (.bool (decide (rg a = 9218868437227405312)) : Value) = _)) ?_
    refine rs_nil ?_
    refine ew_next ?_
    refine cw_else rfl ?_
    refine cw_skip ?_
    refine ew_next ?_
    refine cw_seq ?_
    refine cw_region ?_
    refine rs_op rfl (ow_move rfl ?_)
    refine rs_op rfl (ow_enter en75 rfl ((parts_any _ a ha (by omega)).mono ?_))
    rintro e w4 ⟨rfl, hb⟩
    refine ⟨_, rfl, ?_⟩
    have Ec := Ext.of_below hb No
    replace E := E.trans Ec.no
    clear hb Ec
    refine rs_op rfl (ow_move rfl ?_)
    refine rs_op rfl (ow_extract rfl rfl ?_)
    refine rs_op rfl (ow_extract rfl rfl ?_)
    refine rs_op rfl (ow_assign rfl ?_)
    refine rs_op rfl (ow_assign rfl ?_)
    refine rs_nil ?_
    refine ew_next ?_
    refine cw_seq ?_
    refine cw_region ?_
    refine rs_op rfl (ow_move rfl ?_)
    refine rs_op rfl (ow_rem (z := ((mg (rg a) % 2147483647 : Nat) : Int)) rfl rfl (by decide) (tmod_nat _ 2147483647) ?_)
    refine rs_op rfl (ow_assign rfl ?_)
    refine rs_nil ?_
    refine ew_next ?_
    refine cw_seq ?_
    refine cw_block ?_
    replace HF := HF.on E
    replace LW := LW.step E XLW
    replace E := Ext.refl (No) w4
    refine cw_loop (ι := Nat) (fun j => [(3, .int .i64 (-1)), (5, .int .i64 (((ex (rg a) : Nat) : Int) - 1074 + 31 * ((j : Nat) : Int))), (6, .int .u64 ((mg (rg a) % 2147483647 : Nat) : Int))]) (fun j w' => Ext (No) w4 w' ∧ (j ≤ 35 ∧ (0 < j → ((ex (rg a) : Nat) : Int) - 1074 + 31 * ((j : Nat) : Int) < 31))) (fun j => 40 - j) 0 ⟨rfl, congrArg (fun z : Int => some (Value.int .i64 z)) (by omega), rfl, trivial⟩ ⟨Ext.refl _ _, ⟨by omega, fun h => by omega⟩⟩ ?_
    rintro j w6 ⟨M5, ⟨hj, hj2⟩⟩
    have XM5 : ∀ q9, (No) q9 → (No) q9 ∨ w4.heap.size ≤ q9 := fun _ h => Or.inl h
    replace E := E.trans M5
    replace HF := HF.on E
    replace LW := LW.step E XLW
    replace E := Ext.refl (No) w6
    refine cw_seq ?_
    refine cw_seq ?_
    refine cw_region ?_
    refine rs_op rfl (ow_move rfl ?_)
    refine rs_op rfl (ow_lss rfl rfl ?_)
    refine rs_nil ?_
    refine ew_next ?_
    refine cw_cond rfl (fun hl => ?_) (fun hl => ?_)
    · have _way := True.intro
      have hl := of_decide_eq_true hl
      refine cw_skip ?_
      refine ew_next ?_
      refine cw_seq ?_
      refine cw_block ?_
      refine cw_skip ?_
      refine ew_block_normal ?_
      refine ew_next ?_
      refine cw_region ?_
      refine rs_op rfl (ow_move rfl ?_)
      refine rs_op rfl (ow_add rfl rfl (wrap_i64 (by omega)) ?_)
      refine rs_op rfl (ow_assign rfl ?_)
      refine rs_nil ?_
      exact ew_round (ι := Nat) (s := fun j => [(3, .int .i64 (-1)), (5, .int .i64 (((ex (rg a) : Nat) : Int) - 1074 + 31 * ((j : Nat) : Int))), (6, .int .u64 ((mg (rg a) % 2147483647 : Nat) : Int))]) (R := fun j w' => Ext (No) w4 w' ∧ (j ≤ 35 ∧ (0 < j → ((ex (rg a) : Nat) : Int) - 1074 + 31 * ((j : Nat) : Int) < 31))) (m := fun j => 40 - j) (i := j) (j + 1) (by omega) ⟨rfl, congrArg (fun z : Int => some (Value.int .i64 z)) (by omega), rfl, trivial⟩ ⟨M5.step E XM5, ⟨by omega, fun _ => by omega⟩⟩
    · have _way := True.intro
      have hl := of_decide_eq_false hl
      obtain ⟨k, hk⟩ : ∃ k : Nat, (((ex (rg a) : Nat) : Int) - 1074) % 31 = (k : Int) := ⟨((((ex (rg a) : Nat) : Int) - 1074) % 31).toNat, by omega⟩
      have hkk : (((ex (rg a) : Nat) : Int) - 1074 + 31 * ((j : Nat) : Int)) % 31 = (k : Int) := by omega
      have hM : hashM (rg a) = mg (rg a) * 2 ^ k % 2147483647 := by rw [hashM, show ((((ex (rg a) : Nat) : Int) - 1074) % 31).toNat = k by omega]
      refine cw_exit ?_
      refine ew_then_exit ?_
      refine ew_then_exit ?_
      refine ew_block_here ?_
      refine ew_next ?_
      refine cw_seq ?_
      refine cw_seq ?_
      refine cw_region ?_
      refine rs_op rfl (ow_move rfl ?_)
      refine rs_op rfl (ow_rem (z := ((k : Nat) : Int)) rfl rfl (by decide) (by rw [emod31 (by omega), hkk]) ?_)
      refine rs_op rfl (ow_assign rfl ?_)
      refine rs_nil ?_
      refine ew_next ?_
      refine cw_block ?_
      replace HF := HF.on E
      replace LW := LW.step E XLW
      replace M5 := M5.step E XM5
      replace E := Ext.refl (No) w6
      refine cw_loop (ι := Nat) (fun i => [(3, .int .i64 (-1)), (6, .int .u64 ((mg (rg a) * 2 ^ i % 2147483647 : Nat) : Int)), (7, .int .i64 (((k : Nat) : Int) - ((i : Nat) : Int)))]) (fun i w' => Ext (No) w6 w' ∧ (i ≤ k)) (fun i => k - i) 0 ⟨rfl, congrArg (fun z : Nat => some (Value.int .u64 (z : Int))) (by rw [Nat.pow_zero, Nat.mul_one]), congrArg (fun z : Int => some (Value.int .i64 z)) (by omega), trivial⟩ ⟨Ext.refl _ _, Nat.zero_le _⟩ ?_
      rintro i w8 ⟨M7, hi⟩
      have XM7 : ∀ q9, (No) q9 → (No) q9 ∨ w6.heap.size ≤ q9 := fun _ h => Or.inl h
      replace E := E.trans M7
      replace HF := HF.on E
      replace LW := LW.step E XLW
      replace M5 := M5.step E XM5
      replace E := Ext.refl (No) w8
      refine cw_seq ?_
      refine cw_seq ?_
      refine cw_region ?_
      refine rs_op rfl (ow_move rfl ?_)
      refine rs_op rfl (ow_gtr rfl rfl ?_)
      refine rs_nil ?_
      refine ew_next ?_
      refine cw_set 30 (.bool (decide (i < k))) rfl (bool_dec (by omega)) ?_
      have hlt : mg (rg a) * 2 ^ i % 2147483647 < 2147483647 := Nat.mod_lt _ (by decide)
      refine cw_cond rfl (fun hil => ?_) (fun hil => ?_)
      · have _way := True.intro
        have hil := of_decide_eq_true hil
        refine cw_skip ?_
        refine ew_next ?_
        refine cw_seq ?_
        refine cw_block ?_
        refine cw_region ?_
        refine rs_op rfl (ow_move rfl ?_)
        refine rs_op rfl (ow_mul rfl rfl (wrap_u64 (by omega)) ?_)
        refine rs_op rfl (ow_rem (z := ((mg (rg a) * 2 ^ i % 2147483647 * 2 % 2147483647 : Nat) : Int)) rfl rfl (by decide) (tmod_nat _ 2147483647) ?_)
        refine rs_op rfl (ow_assign rfl ?_)
        refine rs_nil ?_
        refine ew_block_normal ?_
        refine ew_next ?_
        refine cw_region ?_
        refine rs_op rfl (ow_move rfl ?_)
        refine rs_op rfl (ow_sub rfl rfl (wrap_i64 (by omega)) ?_)
        refine rs_op rfl (ow_assign rfl ?_)
        refine rs_nil ?_
        exact ew_round (ι := Nat) (s := fun i => [(3, .int .i64 (-1)), (6, .int .u64 ((mg (rg a) * 2 ^ i % 2147483647 : Nat) : Int)), (7, .int .i64 (((k : Nat) : Int) - ((i : Nat) : Int)))]) (R := fun i w' => Ext (No) w6 w' ∧ (i ≤ k)) (m := fun i => k - i) (i := i) (i + 1) (by omega) ⟨rfl, congrArg (fun z : Nat => some (Value.int .u64 (z : Int))) (half_step _ _), congrArg (fun z : Int => some (Value.int .i64 z)) (by omega), trivial⟩ ⟨M7.step E XM7, by omega⟩
      · have _way := True.intro
        have hil := of_decide_eq_false hil
        have hik : i = k := by omega
        refine cw_exit ?_
        refine ew_then_exit ?_
        refine ew_then_exit ?_
        refine ew_block_here ?_
        refine ew_next ?_
        refine cw_seq ?_
        refine cw_region ?_
        refine rs_op rfl (ow_move rfl ?_)
        refine rs_op rfl (ow_move rfl ?_)
        refine rs_op rfl (ow_conv Tryz.underlying3 Tryz.underlying22 rfl (wrap_i64 (by omega)) ?_)
        refine rs_op rfl (ow_mul rfl rfl (wrap_i64 (by omega)) ?_)
        refine rs_op rfl (ow_assign rfl ?_)
        refine rs_nil ?_
        refine ew_next ?_
        refine cw_ret ?_
        refine ew_ret (rs := [.tmp 2]) (vs := [_]) rfl ⟨rfl, trivial⟩ ?_
        exact ⟨by rw [hashF, if_neg (by rw [hn]; decide), h, if_neg hni, hM, ← hik]; rfl, (LW.step E XLW).toBelow⟩
  · have _way := True.intro
    refine cw_skip ?_
    refine ew_next ?_
    refine cw_seq ?_
    refine cw_seq ?_
    refine cw_region ?_
    refine rs_op rfl (ow_move rfl ?_)
    refine rs_op rfl (ow_enter en18 rfl ((isnan_any _ a ha).mono ?_))
    rintro e w9 ⟨rfl, hb⟩
    refine ⟨_, rfl, ?_⟩
    have Ec := Ext.of_below hb No
    replace E := E.trans Ec.no
    clear hb Ec
    refine rs_set 11 (.bool false) rfl ((by rw [hn] : (.bool (isN a) : Value) = _)) ?_
    refine rs_nil ?_
    refine ew_next ?_
    refine cw_else rfl ?_
    refine cw_skip ?_
    refine ew_next ?_
    refine cw_seq ?_
    refine cw_seq ?_
    refine cw_region ?_
    refine rs_op rfl (ow_move rfl ?_)
    refine rs_op rfl (ow_enter en34 rfl ((isinf_any _ a ha).mono ?_))
    rintro e w10 ⟨rfl, hb⟩
    refine ⟨_, rfl, ?_⟩
    have Ec := Ext.of_below hb No
    replace E := E.trans Ec.no
    clear hb Ec
    refine rs_set 13 (.bool false) rfl ((by rw [decide_eq_false (by omega)] : (.bool (decide (rg a = 9218868437227405312)) : Value) = _)) ?_
    refine rs_nil ?_
    refine ew_next ?_
    refine cw_else rfl ?_
    refine cw_skip ?_
    refine ew_next ?_
    refine cw_seq ?_
    refine cw_region ?_
    refine rs_op rfl (ow_move rfl ?_)
    refine rs_op rfl (ow_enter en75 rfl ((parts_any _ a ha (by omega)).mono ?_))
    rintro e w11 ⟨rfl, hb⟩
    refine ⟨_, rfl, ?_⟩
    have Ec := Ext.of_below hb No
    replace E := E.trans Ec.no
    clear hb Ec
    refine rs_op rfl (ow_move rfl ?_)
    refine rs_op rfl (ow_extract rfl rfl ?_)
    refine rs_op rfl (ow_extract rfl rfl ?_)
    refine rs_op rfl (ow_assign rfl ?_)
    refine rs_op rfl (ow_assign rfl ?_)
    refine rs_nil ?_
    refine ew_next ?_
    refine cw_seq ?_
    refine cw_region ?_
    refine rs_op rfl (ow_move rfl ?_)
    refine rs_op rfl (ow_rem (z := ((mg (rg a) % 2147483647 : Nat) : Int)) rfl rfl (by decide) (tmod_nat _ 2147483647) ?_)
    refine rs_op rfl (ow_assign rfl ?_)
    refine rs_nil ?_
    refine ew_next ?_
    refine cw_seq ?_
    refine cw_block ?_
    replace HF := HF.on E
    replace LW := LW.step E XLW
    replace E := Ext.refl (No) w11
    refine cw_loop (ι := Nat) (fun j => [(3, .int .i64 1), (5, .int .i64 (((ex (rg a) : Nat) : Int) - 1074 + 31 * ((j : Nat) : Int))), (6, .int .u64 ((mg (rg a) % 2147483647 : Nat) : Int))]) (fun j w' => Ext (No) w11 w' ∧ (j ≤ 35 ∧ (0 < j → ((ex (rg a) : Nat) : Int) - 1074 + 31 * ((j : Nat) : Int) < 31))) (fun j => 40 - j) 0 ⟨rfl, congrArg (fun z : Int => some (Value.int .i64 z)) (by omega), rfl, trivial⟩ ⟨Ext.refl _ _, ⟨by omega, fun h => by omega⟩⟩ ?_
    rintro j w13 ⟨M12, ⟨hj, hj2⟩⟩
    have XM12 : ∀ q9, (No) q9 → (No) q9 ∨ w11.heap.size ≤ q9 := fun _ h => Or.inl h
    replace E := E.trans M12
    replace HF := HF.on E
    replace LW := LW.step E XLW
    replace E := Ext.refl (No) w13
    refine cw_seq ?_
    refine cw_seq ?_
    refine cw_region ?_
    refine rs_op rfl (ow_move rfl ?_)
    refine rs_op rfl (ow_lss rfl rfl ?_)
    refine rs_nil ?_
    refine ew_next ?_
    refine cw_cond rfl (fun hl => ?_) (fun hl => ?_)
    · have _way := True.intro
      have hl := of_decide_eq_true hl
      refine cw_skip ?_
      refine ew_next ?_
      refine cw_seq ?_
      refine cw_block ?_
      refine cw_skip ?_
      refine ew_block_normal ?_
      refine ew_next ?_
      refine cw_region ?_
      refine rs_op rfl (ow_move rfl ?_)
      refine rs_op rfl (ow_add rfl rfl (wrap_i64 (by omega)) ?_)
      refine rs_op rfl (ow_assign rfl ?_)
      refine rs_nil ?_
      exact ew_round (ι := Nat) (s := fun j => [(3, .int .i64 1), (5, .int .i64 (((ex (rg a) : Nat) : Int) - 1074 + 31 * ((j : Nat) : Int))), (6, .int .u64 ((mg (rg a) % 2147483647 : Nat) : Int))]) (R := fun j w' => Ext (No) w11 w' ∧ (j ≤ 35 ∧ (0 < j → ((ex (rg a) : Nat) : Int) - 1074 + 31 * ((j : Nat) : Int) < 31))) (m := fun j => 40 - j) (i := j) (j + 1) (by omega) ⟨rfl, congrArg (fun z : Int => some (Value.int .i64 z)) (by omega), rfl, trivial⟩ ⟨M12.step E XM12, ⟨by omega, fun _ => by omega⟩⟩
    · have _way := True.intro
      have hl := of_decide_eq_false hl
      obtain ⟨k, hk⟩ : ∃ k : Nat, (((ex (rg a) : Nat) : Int) - 1074) % 31 = (k : Int) := ⟨((((ex (rg a) : Nat) : Int) - 1074) % 31).toNat, by omega⟩
      have hkk : (((ex (rg a) : Nat) : Int) - 1074 + 31 * ((j : Nat) : Int)) % 31 = (k : Int) := by omega
      have hM : hashM (rg a) = mg (rg a) * 2 ^ k % 2147483647 := by rw [hashM, show ((((ex (rg a) : Nat) : Int) - 1074) % 31).toNat = k by omega]
      refine cw_exit ?_
      refine ew_then_exit ?_
      refine ew_then_exit ?_
      refine ew_block_here ?_
      refine ew_next ?_
      refine cw_seq ?_
      refine cw_seq ?_
      refine cw_region ?_
      refine rs_op rfl (ow_move rfl ?_)
      refine rs_op rfl (ow_rem (z := ((k : Nat) : Int)) rfl rfl (by decide) (by rw [emod31 (by omega), hkk]) ?_)
      refine rs_op rfl (ow_assign rfl ?_)
      refine rs_nil ?_
      refine ew_next ?_
      refine cw_block ?_
      replace HF := HF.on E
      replace LW := LW.step E XLW
      replace M12 := M12.step E XM12
      replace E := Ext.refl (No) w13
      refine cw_loop (ι := Nat) (fun i => [(3, .int .i64 1), (6, .int .u64 ((mg (rg a) * 2 ^ i % 2147483647 : Nat) : Int)), (7, .int .i64 (((k : Nat) : Int) - ((i : Nat) : Int)))]) (fun i w' => Ext (No) w13 w' ∧ (i ≤ k)) (fun i => k - i) 0 ⟨rfl, congrArg (fun z : Nat => some (Value.int .u64 (z : Int))) (by rw [Nat.pow_zero, Nat.mul_one]), congrArg (fun z : Int => some (Value.int .i64 z)) (by omega), trivial⟩ ⟨Ext.refl _ _, Nat.zero_le _⟩ ?_
      rintro i w15 ⟨M14, hi⟩
      have XM14 : ∀ q9, (No) q9 → (No) q9 ∨ w13.heap.size ≤ q9 := fun _ h => Or.inl h
      replace E := E.trans M14
      replace HF := HF.on E
      replace LW := LW.step E XLW
      replace M12 := M12.step E XM12
      replace E := Ext.refl (No) w15
      refine cw_seq ?_
      refine cw_seq ?_
      refine cw_region ?_
      refine rs_op rfl (ow_move rfl ?_)
      refine rs_op rfl (ow_gtr rfl rfl ?_)
      refine rs_nil ?_
      refine ew_next ?_
      refine cw_set 30 (.bool (decide (i < k))) rfl (bool_dec (by omega)) ?_
      have hlt : mg (rg a) * 2 ^ i % 2147483647 < 2147483647 := Nat.mod_lt _ (by decide)
      refine cw_cond rfl (fun hil => ?_) (fun hil => ?_)
      · have _way := True.intro
        have hil := of_decide_eq_true hil
        refine cw_skip ?_
        refine ew_next ?_
        refine cw_seq ?_
        refine cw_block ?_
        refine cw_region ?_
        refine rs_op rfl (ow_move rfl ?_)
        refine rs_op rfl (ow_mul rfl rfl (wrap_u64 (by omega)) ?_)
        refine rs_op rfl (ow_rem (z := ((mg (rg a) * 2 ^ i % 2147483647 * 2 % 2147483647 : Nat) : Int)) rfl rfl (by decide) (tmod_nat _ 2147483647) ?_)
        refine rs_op rfl (ow_assign rfl ?_)
        refine rs_nil ?_
        refine ew_block_normal ?_
        refine ew_next ?_
        refine cw_region ?_
        refine rs_op rfl (ow_move rfl ?_)
        refine rs_op rfl (ow_sub rfl rfl (wrap_i64 (by omega)) ?_)
        refine rs_op rfl (ow_assign rfl ?_)
        refine rs_nil ?_
        exact ew_round (ι := Nat) (s := fun i => [(3, .int .i64 1), (6, .int .u64 ((mg (rg a) * 2 ^ i % 2147483647 : Nat) : Int)), (7, .int .i64 (((k : Nat) : Int) - ((i : Nat) : Int)))]) (R := fun i w' => Ext (No) w13 w' ∧ (i ≤ k)) (m := fun i => k - i) (i := i) (i + 1) (by omega) ⟨rfl, congrArg (fun z : Nat => some (Value.int .u64 (z : Int))) (half_step _ _), congrArg (fun z : Int => some (Value.int .i64 z)) (by omega), trivial⟩ ⟨M14.step E XM14, by omega⟩
      · have _way := True.intro
        have hil := of_decide_eq_false hil
        have hik : i = k := by omega
        refine cw_exit ?_
        refine ew_then_exit ?_
        refine ew_then_exit ?_
        refine ew_block_here ?_
        refine ew_next ?_
        refine cw_seq ?_
        refine cw_region ?_
        refine rs_op rfl (ow_move rfl ?_)
        refine rs_op rfl (ow_move rfl ?_)
        refine rs_op rfl (ow_conv Tryz.underlying3 Tryz.underlying22 rfl (wrap_i64 (by omega)) ?_)
        refine rs_op rfl (ow_mul rfl rfl (wrap_i64 (by omega)) ?_)
        refine rs_op rfl (ow_assign rfl ?_)
        refine rs_nil ?_
        refine ew_next ?_
        refine cw_ret ?_
        refine ew_ret (rs := [.tmp 2]) (vs := [_]) rfl ⟨rfl, trivial⟩ ?_
        exact ⟨by rw [hashF, if_neg (by rw [hn]; decide), h, if_neg hni, hM, ← hik]; rfl, (LW.step E XLW).toBelow⟩
theorem rhash_any : Calls Tryz.prog 37 #[.int .u64 ((a : Nat) : Int)] w fun e w' => e = .returned (.int .i64 (hashF a)) ∧ Below w.heap.size w w' := by
  cases hn : isN a with
  | true => exact rhash_nan w a ha hn
  | false =>
    have h1 := of_decide_eq_false hn
    by_cases hi : rg a = 9218868437227405312
    · exact rhash_inf w a ha hn hi
    · exact rhash_num w a ha hn hi (by omega)
end
end Go.Proofs.YtljndllhmdpjlaaGreatDoor
namespace Go.Proofs.YtljndllhmdpjlaaGreatDoor
open Go.RowKit
set_option maxRecDepth 100000
theorem Per.nums8N {X : Nat → Prop} {w : World} {A : Option Addr} {xs : List Nat} (h : Nums8 w A xs) (hx : ∀ q, A = some q → ¬ X q.block) : Per X w (fun b => Nums8 b A xs) := fun b hb =>
  ⟨h.1, fun h0 => by
    obtain ⟨g, o, rfl, hg, hc⟩ := h.2 h0
    exact ⟨g, o, rfl, Nat.lt_of_lt_of_le hg hb.size, fun k hk => (hb.cell (p := ⟨g, o + k, none⟩) hg (hx ⟨g, o, none⟩ rfl)).trans (hc k hk)⟩⟩
theorem Per.nums80 {w : World} {A : Option Addr} {xs : List Nat} (h : Nums8 w A xs) : Per No w (fun b => Nums8 b A xs) := Per.nums8N h (fun _ _ => id)
theorem Per.own8X {X : Nat → Prop} {w : World} {base c : Nat} {A : Option Addr} {xs : List Nat} (h : Own8 w base A c xs) (hx : ∀ k, X k → k < base) : Per X w (fun b => Nums8 b A xs) := Per.nums8N h.nums (fun q hq e => by have := hx _ e; have := (h.ge q hq).1; omega)
theorem ten_pos {j : Int} (h0 : j ≠ 0) : 0 < (tens j).length := by rw [tens_eq]; exact digs_pos (by decide) (by omega)
theorem lim_pos {j : Int} (h0 : j ≠ 0) : 0 < (limbs j).length := by rw [limbs_eq]; exact digs_pos B18_two (by omega)
theorem rofI {i : Int} (A : Option Addr) (c : Nat) (w : World) (hi : i.natAbs < B18 ^ 30) (hx : Nums w A (limbs i)) : Calls Tryz.prog 78 #[.agg #[.bool (decide (i < 0)), .slice A (limbs i).length c]] w (RetNum w i) := by
  have h := rof_any (decide (i < 0)) A c (limbs i) w hx (good_limbs hi)
  rwa [num_limbs] at h
theorem rgoodI {i : Int} (A : Option Addr) (c : Nat) (w : World) (hi : i.natAbs < B18 ^ 30) (hx : Nums w A (limbs i)) : Calls Tryz.prog 51 #[.agg #[.bool (decide (i < 0)), .slice A (limbs i).length c]] w fun e w' => e = .returned (.bool true) ∧ Below w.heap.size w w' := by
  have h := rgood_any (decide (i < 0)) c w A (limbs i) (by have := limbs_length hi; omega) hx
  rwa [good_limbs hi] at h
theorem nth_nat (xs : List Nat) (k : Nat) : nth xs k = ((xs.getD k 0 : Nat) : Int) := by unfold nth; rfl
theorem val_dropL {b : Nat} (L : List Nat) (j : Nat) (h : j < L.length) : val b (L.drop j) = L.getD j 0 + b * val b (L.drop (j + 1)) := by
  rw [List.drop_eq_getElem_cons h, val, List.getD_eq_getElem?_getD, List.getElem?_eq_getElem h, Option.getD_some]
/-- What the first rounds have made of a number's upper limbs. -/
def upM (b : Nat) (L : List Nat) (k : Nat) : Nat := val b (L.drop (L.length - k)) % 2147483647
theorem upM_zero (b : Nat) (L : List Nat) : upM b L 0 = 0 := by rw [upM, Nat.sub_zero, List.drop_length]; rfl
theorem upM_lt (b : Nat) (L : List Nat) (k : Nat) : upM b L k < 2147483647 := Nat.mod_lt _ (by decide)
theorem upM_succ {b : Nat} {L : List Nat} {k : Nat} (h : k < L.length) : upM b L (k + 1) = (upM b L k * b + L.getD (L.length - 1 - k) 0) % 2147483647 := by
  have key : ∀ V l : Nat, (V % 2147483647 * b + l) % 2147483647 = (V * b + l) % 2147483647 := fun V l => by rw [← Nat.mod_add_mod, Nat.mod_mul_mod, Nat.mod_add_mod]
  unfold upM
  rw [val_dropL L (L.length - (k + 1)) (by omega), show L.length - (k + 1) + 1 = L.length - k by omega, show L.length - (k + 1) = L.length - 1 - k by omega, Nat.add_comm, Nat.mul_comm b]
  exact (key _ _).symm
theorem upM_limbs (i : Int) : upM B18 (limbs i) (limbs i).length = i.natAbs % 2147483647 := by rw [upM, Nat.sub_self, List.drop_zero, limbs_eq, val_digs B18_two]
theorem upM_tens (i : Int) : upM 10 (tens i) (tens i).length = i.natAbs % 2147483647 := by rw [upM, Nat.sub_self, List.drop_zero, val_tens]
/-- A whole number's hash. -/
def hashI (i : Int) : Int := if i < 0 then 0 - ((i.natAbs % 2147483647 : Nat) : Int) else ((i.natAbs % 2147483647 : Nat) : Int)
theorem ex_add64 : Ext_ Tryz.prog 77 add64Entry := ⟨_, Tryz.func77, by kernel_rfl, by kernel_rfl, by kernel_rfl, by kernel_rfl⟩
theorem run_add64N (x y : Nat) (w : World) : (add64Entry #[.int .u64 ((x : Nat) : Int), .int .u64 ((y : Nat) : Int), .int .u64 0]).run Tryz.prog w =
      .ok (.tuple #[.int .u64 (((x + y) % 18446744073709551616 : Nat) : Int), .int .u64 (((x + y) / 18446744073709551616 : Nat) : Int)]) w := by
  rw [run_add64 _ _ 0 (by omega) (by omega) (by omega) (by omega), Int.add_zero, ← Int.natCast_add]
  rfl
/-- One round of the hash. -/
theorem hash_round {h l hi lo c s : Nat} (h1 : hi * 18446744073709551616 + lo = h * B18) (h2 : c * 18446744073709551616 + s = lo + l) : ((hi + c) * 18446744073709551616 + s) % 2147483647 = (h * B18 + l) % 2147483647 := by
  have e : (hi + c) * 18446744073709551616 + s = h * B18 + l := by rw [Nat.add_mul, Nat.add_assoc, h2, ← Nat.add_assoc, h1]
  rw [e]
section
variable (i : Int) (A : Option Addr) (c : Nat) (w : World) (hi : i.natAbs < B18 ^ 30) (hx : Nums w A (limbs i))
include hi hx
theorem hashbig_zero (h0 : i = 0) : Calls Tryz.prog 38 #[.agg #[.bool (decide (i < 0)), .slice A (limbs i).length c]] w fun e w' => e = .returned (.int .i64 (hashI i)) ∧ Below w.heap.size w w' := by
  have hl : ((limbs i).length : Int) = 0 := by rw [h0, limbs_zero]; rfl
  refine calls_cw Tryz.func38 rfl Tryz.ntmps38 rfl ?_
  have HF : Per (No) w (fun _ => True) := Per.true_
  have LW := Ext.refl (No) w
  have XLW : ∀ q9, (No) q9 → (No) q9 ∨ w.heap.size ≤ q9 := fun _ h => Or.inl h
  have E := Ext.refl (No) w
  replace HF := HF.on E
  replace LW := LW.step E XLW
  replace E := Ext.refl (No) w
  replace HF := HF.and (Per.nums0 hx)
  refine cw_seq ?_
  refine cw_region ?_
  refine rs_op rfl (ow_boxB rfl ?_)
  intro gb1 w2 Bb1 Eb1 Gb1
  have Gb1 : _ ≤ gb1 := Nat.le_trans E.size Gb1
  have GLb1 := Nat.le_trans LW.size Gb1
  replace E := E.trans Eb1.no
  clear Eb1
  replace HF := HF.cons (some_ge Gb1)
  replace E := E.cons (some gb1)
  replace XLW := Mut.grow XLW (fun k e => Or.inr (Nat.le_trans LW.size ((some_ge Gb1) k e)))
  replace HF := HF.on E
  replace LW := LW.step E XLW
  have SB : ∀ q9, No q9 → Mut [(some gb1)] q9 := (Mut.skip Mut.nil_)
  replace HF := HF.less SB
  replace XLW := fun k h => XLW k (SB k h)
  clear SB
  replace E := Ext.refl (No) w2
  replace HF := HF.and (Per.blkN Bb1 NotIn.nil)
  clear Bb1
  refine rs_op rfl (ow_assign rfl ?_)
  refine rs_nil ?_
  refine ew_next ?_
  refine cw_seq ?_
  refine cw_seq ?_
  refine cw_region ?_
  refine rs_op rfl (ow_loadB Tryz.underlying41 rfl sz41 rfl (HF.on E).here.2 rfl ?_)
  refine rs_op rfl (ow_enter en76 rfl ((goodI A c _ hi (HF.on E).here.1.2).mono ?_))
  rintro e w3 ⟨rfl, hb⟩
  refine ⟨_, rfl, ?_⟩
  have Ec := Ext.of_below hb No
  replace E := E.trans Ec.no
  clear hb Ec
  refine rs_op rfl (ow_not rfl ?_)
  refine rs_nil ?_
  refine ew_next ?_
  refine cw_else rfl ?_
  refine cw_skip ?_
  refine ew_next ?_
  refine cw_seq ?_
  refine cw_region ?_
  refine rs_op rfl (ow_assign rfl ?_)
  refine rs_nil ?_
  refine ew_next ?_
  refine cw_seq ?_
  refine cw_seq ?_
  refine cw_region ?_
  refine rs_op rfl (ow_fieldAddr Tryz.underlying41 rfl sz39 (by decide) rfl ?_)
  refine rs_op rfl (ow_loadF Tryz.underlying39 rfl rfl (HF.on E).here.2 rfl ?_)
  refine rs_op rfl (ow_len Tryz.underlying39 rfl ?_)
  refine rs_op rfl (ow_sub rfl rfl (wrap_i64 (by omega)) ?_)
  refine rs_op rfl (ow_assign rfl ?_)
  refine rs_nil ?_
  refine ew_next ?_
  refine cw_block ?_
  refine cw_unroll ?_
  refine cw_seq ?_
  refine cw_seq ?_
  refine cw_region ?_
  refine rs_op rfl (ow_move rfl ?_)
  refine rs_op rfl (ow_geq rfl rfl ?_)
  refine rs_nil ?_
  refine ew_next ?_
  refine cw_set 16 (.bool false) rfl ((by rw [hl]; rfl : (.bool (decide (0 ≤ (((((limbs i).length : Nat)) : Int) - 1))) : Value) = _)) ?_
  refine cw_else rfl ?_
  refine cw_exit ?_
  refine ew_then_exit ?_
  refine ew_then_exit ?_
  refine ew_block_here ?_
  refine ew_next ?_
  refine cw_seq ?_
  refine cw_seq ?_
  refine cw_region ?_
  refine rs_op rfl (ow_fieldAddr Tryz.underlying41 rfl sz4 (by decide) rfl ?_)
  refine rs_op rfl (ow_loadF Tryz.underlying4 rfl rfl (HF.on E).here.2 rfl ?_)
  refine rs_nil ?_
  refine ew_next ?_
  refine cw_set 40 (.bool false) rfl ((by rw [h0]; rfl : (.bool (decide (i < 0)) : Value) = _)) ?_
  refine cw_else rfl ?_
  refine cw_skip ?_
  refine ew_next ?_
  refine cw_seq ?_
  refine cw_region ?_
  refine rs_op rfl (ow_move rfl ?_)
  refine rs_op rfl (ow_conv (z := 0) Tryz.underlying3 Tryz.underlying22 rfl (by kernel_rfl) ?_)
  refine rs_op rfl (ow_assign rfl ?_)
  refine rs_nil ?_
  refine ew_next ?_
  refine cw_ret ?_
  refine ew_ret (rs := [.tmp 2]) (vs := [_]) rfl ⟨rfl, trivial⟩ ?_
  exact ⟨by rw [h0]; rfl, (LW.step E XLW).toBelow⟩
theorem hashbig_num (h0 : i ≠ 0) : Calls Tryz.prog 38 #[.agg #[.bool (decide (i < 0)), .slice A (limbs i).length c]] w fun e w' => e = .returned (.int .i64 (hashI i)) ∧ Below w.heap.size w w' := by
  have hl2 := limbs_length hi
  obtain ⟨bx, ox, rfl, hbx, hcx⟩ := hx.2 (lim_pos h0)
  have hsm := limbs_small i
  refine calls_cw Tryz.func38 rfl Tryz.ntmps38 rfl ?_
  have HF : Per (No) w (fun _ => True) := Per.true_
  have LW := Ext.refl (No) w
  have XLW : ∀ q9, (No) q9 → (No) q9 ∨ w.heap.size ≤ q9 := fun _ h => Or.inl h
  have E := Ext.refl (No) w
  replace HF := HF.on E
  replace LW := LW.step E XLW
  replace E := Ext.refl (No) w
  replace HF := HF.and (Per.nums0 hx)
  refine cw_seq ?_
  refine cw_region ?_
  refine rs_op rfl (ow_boxB rfl ?_)
  intro gb1 w2 Bb1 Eb1 Gb1
  have Gb1 : _ ≤ gb1 := Nat.le_trans E.size Gb1
  have GLb1 := Nat.le_trans LW.size Gb1
  replace E := E.trans Eb1.no
  clear Eb1
  replace HF := HF.cons (some_ge Gb1)
  replace E := E.cons (some gb1)
  replace XLW := Mut.grow XLW (fun k e => Or.inr (Nat.le_trans LW.size ((some_ge Gb1) k e)))
  replace HF := HF.on E
  replace LW := LW.step E XLW
  have SB : ∀ q9, No q9 → Mut [(some gb1)] q9 := (Mut.skip Mut.nil_)
  replace HF := HF.less SB
  replace XLW := fun k h => XLW k (SB k h)
  clear SB
  replace E := Ext.refl (No) w2
  replace HF := HF.and (Per.blkN Bb1 NotIn.nil)
  clear Bb1
  refine rs_op rfl (ow_assign rfl ?_)
  refine rs_nil ?_
  refine ew_next ?_
  refine cw_seq ?_
  refine cw_seq ?_
  refine cw_region ?_
  refine rs_op rfl (ow_loadB Tryz.underlying41 rfl sz41 rfl (HF.on E).here.2 rfl ?_)
  refine rs_op rfl (ow_enter en76 rfl ((goodI (some ⟨bx, ox, none⟩) c _ hi (HF.on E).here.1.2).mono ?_))
  rintro e w3 ⟨rfl, hb⟩
  refine ⟨_, rfl, ?_⟩
  have Ec := Ext.of_below hb No
  replace E := E.trans Ec.no
  clear hb Ec
  refine rs_op rfl (ow_not rfl ?_)
  refine rs_nil ?_
  refine ew_next ?_
  refine cw_else rfl ?_
  refine cw_skip ?_
  refine ew_next ?_
  refine cw_seq ?_
  refine cw_region ?_
  refine rs_op rfl (ow_assign rfl ?_)
  refine rs_nil ?_
  refine ew_next ?_
  refine cw_seq ?_
  refine cw_seq ?_
  refine cw_region ?_
  refine rs_op rfl (ow_fieldAddr Tryz.underlying41 rfl sz39 (by decide) rfl ?_)
  refine rs_op rfl (ow_loadF Tryz.underlying39 rfl rfl (HF.on E).here.2 rfl ?_)
  refine rs_op rfl (ow_len Tryz.underlying39 rfl ?_)
  refine rs_op rfl (ow_sub rfl rfl (wrap_i64 (by omega)) ?_)
  refine rs_op rfl (ow_assign rfl ?_)
  refine rs_nil ?_
  refine ew_next ?_
  refine cw_block ?_
  replace HF := HF.on E
  replace LW := LW.step E XLW
  replace E := Ext.refl (No) w3
  refine cw_loop (ι := Nat) (fun k => [(1, .pointer (some ⟨gb1, 0, none⟩)), (3, .int .u64 ((upM B18 (limbs i) k : Nat) : Int)), (4, .int .i64 (((limbs i).length : Int) - 1 - ((k : Nat) : Int)))]) (fun k w' => Ext (No) w3 w' ∧ (k ≤ (limbs i).length)) (fun k => (limbs i).length - k) 0 ⟨rfl, congrArg (fun z : Nat => some (Value.int .u64 (z : Int))) (upM_zero _ _).symm, congrArg (fun z : Int => some (Value.int .i64 z)) (by omega), trivial⟩ ⟨Ext.refl _ _, Nat.zero_le _⟩ ?_
  rintro k w5 ⟨M4, hk⟩
  have XM4 : ∀ q9, (No) q9 → (No) q9 ∨ w3.heap.size ≤ q9 := fun _ h => Or.inl h
  replace E := E.trans M4
  replace HF := HF.on E
  replace LW := LW.step E XLW
  replace E := Ext.refl (No) w5
  refine cw_seq ?_
  refine cw_seq ?_
  refine cw_region ?_
  refine rs_op rfl (ow_move rfl ?_)
  refine rs_op rfl (ow_geq rfl rfl ?_)
  refine rs_nil ?_
  refine ew_next ?_
  refine cw_set 16 (.bool (decide (k < (limbs i).length))) rfl (bool_dec (by omega)) ?_
  have hup := upM_lt B18 (limbs i) k
  refine cw_cond rfl (fun hl => ?_) (fun hl => ?_)
  · have _way := True.intro
    have hl := of_decide_eq_true hl
    obtain ⟨h, hh⟩ : ∃ h, h = upM B18 (limbs i) k := ⟨_, rfl⟩
    obtain ⟨l, hll⟩ : ∃ l, l = (limbs i).getD ((limbs i).length - 1 - k) 0 := ⟨_, rfl⟩
    have hlb : l < 1000000000000000000 := by rw [hll]; exact small_getD (by decide) hsm _
    have hnx : upM B18 (limbs i) (k + 1) = (h * B18 + l) % 2147483647 := by rw [upM_succ hl, ← hh, ← hll]
    rw [← hh] at hup
    refine cw_set 3 (.int .u64 ((h : Nat) : Int)) rfl ((by rw [hh] : (.int .u64 ((upM B18 (limbs i) k : Nat) : Int) : Value) = _)) ?_
    obtain ⟨p, hp⟩ : ∃ p, p = h * 1000000000000000000 / 18446744073709551616 := ⟨_, rfl⟩
    obtain ⟨q, hq⟩ : ∃ q, q = h * 1000000000000000000 % 18446744073709551616 := ⟨_, rfl⟩
    have hpq : p * 18446744073709551616 + q = h * B18 := split_div hp hq
    have hpb : p < 2147483647 := by rw [hp]; exact Nat.div_lt_of_lt_mul (Nat.lt_of_lt_of_le (Nat.mul_lt_mul_of_pos_right hup (by decide)) (by decide))
    have hqb : q < 18446744073709551616 := mod_lt_of (by decide) hq
    obtain ⟨t, ht⟩ : ∃ t, t = (q + l) / 18446744073709551616 := ⟨_, rfl⟩
    obtain ⟨s, hs⟩ : ∃ s, s = (q + l) % 18446744073709551616 := ⟨_, rfl⟩
    have hts : t * 18446744073709551616 + s = q + l := split_div ht hs
    have hsb : s < 18446744073709551616 := mod_lt_of (by decide) hs
    have htb : t < 2 := by rw [ht]; exact Nat.div_lt_of_lt_mul (by omega)
    refine cw_skip ?_
    refine ew_next ?_
    refine cw_seq ?_
    refine cw_block ?_
    refine cw_seq ?_
    refine cw_region ?_
    refine rs_op rfl (ow_move rfl ?_)
    refine rs_op rfl (ow_enter en73 rfl ((mul64_b h 1000000000000000000 (by omega) (by decide) _).mono ?_))
    rintro e w6 ⟨rfl, hb⟩
    refine ⟨_, rfl, ?_⟩
    have Ec := Ext.of_below hb No
    replace E := E.trans Ec.no
    clear hb Ec
    refine rs_set 21 (.tuple #[.int .u64 ((p : Nat) : Int), .int .u64 ((q : Nat) : Int)]) rfl ((by rw [hp, hq] : (.tuple #[.int .u64 ((h * 1000000000000000000 / 18446744073709551616 : Nat) : Int), .int .u64 ((h * 1000000000000000000 % 18446744073709551616 : Nat) : Int)] : Value) = _)) ?_
    refine rs_op rfl (ow_move rfl ?_)
    refine rs_op rfl (ow_extract rfl rfl ?_)
    refine rs_op rfl (ow_extract rfl rfl ?_)
    refine rs_op rfl (ow_assign rfl ?_)
    refine rs_op rfl (ow_assign rfl ?_)
    refine rs_nil ?_
    refine ew_next ?_
    refine cw_seq ?_
    refine cw_region ?_
    refine rs_op rfl (ow_move rfl ?_)
    refine rs_op rfl (ow_fieldAddr Tryz.underlying41 rfl sz39 (by decide) rfl ?_)
    refine rs_op rfl (ow_loadF Tryz.underlying39 rfl rfl (HF.on E).here.2 rfl ?_)
    refine rs_op rfl (ow_move rfl ?_)
    refine rs_op rfl (ow_indexAddr1 (j := (limbs i).length - 1 - k) Tryz.underlying39 sz22 rfl rfl (by omega) (by omega) ?_)
    obtain ⟨b9, o9, hA9, _, hc9⟩ := ((HF.on E).here.1.2).2 (lim_pos h0)
    obtain ⟨rfl, rfl⟩ : b9 = bx ∧ o9 = ox := by simpa using hA9.symm
    refine rs_op rfl (ow_load1 Tryz.underlying22 rfl rfl (hc9 ((limbs i).length - 1 - k) (by omega)) ?_)
    refine rs_set 30 (.int .u64 ((l : Nat) : Int)) rfl ((by rw [nth_nat, hll] : (.int .u64 (nth (limbs i) ((limbs i).length - 1 - k)) : Value) = _)) ?_
    refine rs_op rfl (ow_ext (args := [.int .u64 ((q : Nat) : Int), .int .u64 ((l : Nat) : Int), .int .u64 0]) ex_add64 rfl (run_add64N q l _) ?_)
    refine rs_set 31 (.tuple #[.int .u64 ((s : Nat) : Int), .int .u64 ((t : Nat) : Int)]) rfl ((by rw [hs, ht] : (.tuple #[.int .u64 (((q + l) % 18446744073709551616 : Nat) : Int), .int .u64 (((q + l) / 18446744073709551616 : Nat) : Int)] : Value) = _)) ?_
    refine rs_op rfl (ow_move rfl ?_)
    refine rs_op rfl (ow_extract rfl rfl ?_)
    refine rs_op rfl (ow_extract rfl rfl ?_)
    refine rs_op rfl (ow_assign rfl ?_)
    refine rs_op rfl (ow_assign rfl ?_)
    refine rs_nil ?_
    refine ew_next ?_
    refine cw_region ?_
    refine rs_op rfl (ow_move rfl ?_)
    refine rs_op rfl (ow_move rfl ?_)
    refine rs_op rfl (ow_add rfl rfl (wrap_u64 (by omega)) ?_)
    refine rs_op rfl (ow_move rfl ?_)
    refine rs_set 36 (.int .u64 ((p + t : Nat) : Int)) rfl ((by rw [Int.natCast_add] : (.int .u64 (((p : Nat) : Int) + ((t : Nat) : Int)) : Value) = _)) ?_
    refine rs_op rfl (ow_enter en74 rfl ((rem64_any _ (p + t) s (by omega) hsb).mono ?_))
    rintro e w7 ⟨rfl, hb⟩
    refine ⟨_, rfl, ?_⟩
    have Ec := Ext.of_below hb No
    replace E := E.trans Ec.no
    clear hb Ec
    refine rs_set 38 (.int .u64 ((upM B18 (limbs i) (k + 1) : Nat) : Int)) rfl ((by rw [hash_round hpq hts, ← hnx] : (.int .u64 ((((p + t) * 18446744073709551616 + s) % 2147483647 : Nat) : Int) : Value) = _)) ?_
    refine rs_op rfl (ow_assign rfl ?_)
    refine rs_nil ?_
    refine ew_block_normal ?_
    refine ew_next ?_
    refine cw_region ?_
    refine rs_op rfl (ow_move rfl ?_)
    refine rs_op rfl (ow_sub rfl rfl (wrap_i64 (by omega)) ?_)
    refine rs_op rfl (ow_assign rfl ?_)
    refine rs_nil ?_
    exact ew_round (ι := Nat) (s := fun k => [(1, .pointer (some ⟨gb1, 0, none⟩)), (3, .int .u64 ((upM B18 (limbs i) k : Nat) : Int)), (4, .int .i64 (((limbs i).length : Int) - 1 - ((k : Nat) : Int)))]) (R := fun k w' => Ext (No) w3 w' ∧ (k ≤ (limbs i).length)) (m := fun k => (limbs i).length - k) (i := k) (k + 1) (by omega) ⟨rfl, rfl, congrArg (fun z : Int => some (Value.int .i64 z)) (by omega), trivial⟩ ⟨M4.step E XM4, by omega⟩
  · have _way := True.intro
    have hl := of_decide_eq_false hl
    have hke : k = (limbs i).length := by omega
    have hend : upM B18 (limbs i) k = i.natAbs % 2147483647 := by rw [hke, upM_limbs]
    refine cw_set 3 (.int .u64 ((i.natAbs % 2147483647 : Nat) : Int)) rfl ((by rw [hend] : (.int .u64 ((upM B18 (limbs i) k : Nat) : Int) : Value) = _)) ?_
    refine cw_exit ?_
    refine ew_then_exit ?_
    refine ew_then_exit ?_
    refine ew_block_here ?_
    refine ew_next ?_
    refine cw_seq ?_
    refine cw_seq ?_
    refine cw_region ?_
    refine rs_op rfl (ow_fieldAddr Tryz.underlying41 rfl sz4 (by decide) rfl ?_)
    refine rs_op rfl (ow_loadF Tryz.underlying4 rfl rfl (HF.on E).here.2 rfl ?_)
    refine rs_nil ?_
    refine ew_next ?_
    refine cw_cond rfl (fun hn => ?_) (fun hn => ?_)
    · have _way := True.intro
      refine cw_seq ?_
      refine cw_region ?_
      refine rs_op rfl (ow_move rfl ?_)
      refine rs_op rfl (ow_conv Tryz.underlying3 Tryz.underlying22 rfl (wrap_i64 (by omega)) ?_)
      refine rs_op rfl (ow_neg rfl (wrap_i64 (by omega)) ?_)
      refine rs_op rfl (ow_assign rfl ?_)
      refine rs_nil ?_
      refine ew_next ?_
      refine cw_ret ?_
      refine ew_then_ret ?_
      refine ew_ret (rs := [.tmp 2]) (vs := [_]) rfl ⟨rfl, trivial⟩ ?_
      exact ⟨by rw [hashI, if_pos (of_decide_eq_true hn)]; rfl, (LW.step E XLW).toBelow⟩
    · have _way := True.intro
      refine cw_skip ?_
      refine ew_next ?_
      refine cw_seq ?_
      refine cw_region ?_
      refine rs_op rfl (ow_move rfl ?_)
      refine rs_op rfl (ow_conv Tryz.underlying3 Tryz.underlying22 rfl (wrap_i64 (by omega)) ?_)
      refine rs_op rfl (ow_assign rfl ?_)
      refine rs_nil ?_
      refine ew_next ?_
      refine cw_ret ?_
      refine ew_ret (rs := [.tmp 2]) (vs := [_]) rfl ⟨rfl, trivial⟩ ?_
      exact ⟨by rw [hashI, if_neg (of_decide_eq_false hn)]; rfl, (LW.step E XLW).toBelow⟩
theorem hashbigI : Calls Tryz.prog 38 #[.agg #[.bool (decide (i < 0)), .slice A (limbs i).length c]] w fun e w' => e = .returned (.int .i64 (hashI i)) ∧ Below w.heap.size w w' := by
  by_cases h0 : i = 0
  · exact hashbig_zero i A c w hi hx h0
  · exact hashbig_num i A c w hi hx h0
/-! ### the document's -/
theorem rhashbig_zero (h0 : i = 0) : Calls Tryz.prog 39 #[.agg #[.bool (decide (i < 0)), .slice A (limbs i).length c]] w fun e w' => e = .returned (.int .i64 (hashI i)) ∧ Below w.heap.size w w' := by
  have hl : ((tens i).length : Int) = 0 := by rw [h0, tens_zero]; rfl
  refine calls_cw Tryz.func39 rfl Tryz.ntmps39 rfl ?_
  have HF : Per (No) w (fun _ => True) := Per.true_
  have LW := Ext.refl (No) w
  have XLW : ∀ q9, (No) q9 → (No) q9 ∨ w.heap.size ≤ q9 := fun _ h => Or.inl h
  have E := Ext.refl (No) w
  replace HF := HF.on E
  replace LW := LW.step E XLW
  replace E := Ext.refl (No) w
  replace HF := HF.and (Per.nums0 hx)
  refine cw_seq ?_
  refine cw_region ?_
  refine rs_op rfl (ow_boxB rfl ?_)
  intro gb1 w2 Bb1 Eb1 Gb1
  have Gb1 : _ ≤ gb1 := Nat.le_trans E.size Gb1
  have GLb1 := Nat.le_trans LW.size Gb1
  replace E := E.trans Eb1.no
  clear Eb1
  replace HF := HF.cons (some_ge Gb1)
  replace E := E.cons (some gb1)
  replace XLW := Mut.grow XLW (fun k e => Or.inr (Nat.le_trans LW.size ((some_ge Gb1) k e)))
  replace HF := HF.on E
  replace LW := LW.step E XLW
  have SB : ∀ q9, No q9 → Mut [(some gb1)] q9 := (Mut.skip Mut.nil_)
  replace HF := HF.less SB
  replace XLW := fun k h => XLW k (SB k h)
  clear SB
  replace E := Ext.refl (No) w2
  replace HF := HF.and (Per.blkN Bb1 NotIn.nil)
  clear Bb1
  refine rs_op rfl (ow_assign rfl ?_)
  refine rs_nil ?_
  refine ew_next ?_
  refine cw_seq ?_
  refine cw_seq ?_
  refine cw_region ?_
  refine rs_op rfl (ow_loadB Tryz.underlying41 rfl sz41 rfl (HF.on E).here.2 rfl ?_)
  refine rs_op rfl (ow_enter en51 rfl ((rgoodI A c _ hi (HF.on E).here.1.2).mono ?_))
  rintro e w3 ⟨rfl, hb⟩
  refine ⟨_, rfl, ?_⟩
  have Ec := Ext.of_below hb No
  replace E := E.trans Ec.no
  clear hb Ec
  refine rs_op rfl (ow_not rfl ?_)
  refine rs_nil ?_
  refine ew_next ?_
  refine cw_else rfl ?_
  refine cw_skip ?_
  refine ew_next ?_
  refine cw_seq ?_
  refine cw_region ?_
  refine rs_op rfl (ow_loadB Tryz.underlying41 rfl sz41 rfl (HF.on E).here.2 rfl ?_)
  refine rs_op rfl (ow_enter en78 rfl ((rofI A c _ hi (HF.on E).here.1.2).mono ?_))
  rintro e w4 ⟨A2, c2, rfl, o2, hb⟩
  refine ⟨_, rfl, ?_⟩
  have XC : ∀ q9, (No) q9 → q9 < w3.heap.size := Mut.none_
  have Ec := Ext.of_below hb No
  replace E := E.trans Ec.no
  clear hb Ec
  replace HF := HF.on E
  replace LW := LW.step E XLW
  replace E := Ext.refl (No) w4
  replace HF := HF.and (Per.own8X o2 XC)
  refine rs_op rfl (ow_allocB zr86 ?_)
  intro gb5 w6 Bb5 Eb5 Gb5
  have Gb5 : _ ≤ gb5 := Nat.le_trans E.size Gb5
  have GLb5 := Nat.le_trans LW.size Gb5
  replace E := E.trans Eb5.no
  clear Eb5
  replace HF := HF.cons (some_ge Gb5)
  replace E := E.cons (some gb5)
  replace XLW := Mut.grow XLW (fun k e => Or.inr (Nat.le_trans LW.size ((some_ge Gb5) k e)))
  refine rs_op0 (ow_storeM sz86 rfl rfl Bb5 rfl rfl (Nat.le_of_ble_eq_true rfl) ?_)
  intro w7 Bx Eb5
  replace Bb5 := Bx
  clear Bx
  replace E := E.step1 Eb5 Mut.head
  clear Eb5
  replace HF := HF.on E
  replace LW := LW.step E XLW
  have SB : ∀ q9, No q9 → Mut [(some gb5)] q9 := (Mut.skip Mut.nil_)
  replace HF := HF.less SB
  replace XLW := fun k h => XLW k (SB k h)
  clear SB
  replace E := Ext.refl (No) w7
  replace HF := HF.and (Per.blkN Bb5 NotIn.nil)
  clear Bb5
  refine rs_nil ?_
  refine ew_next ?_
  refine cw_seq ?_
  refine cw_region ?_
  refine rs_op rfl (ow_assign rfl ?_)
  refine rs_nil ?_
  refine ew_next ?_
  refine cw_seq ?_
  refine cw_seq ?_
  refine cw_region ?_
  refine rs_op rfl (ow_fieldAddr Tryz.underlying86 rfl sz84 (by decide) rfl ?_)
  refine rs_op rfl (ow_loadF Tryz.underlying84 rfl rfl (HF.on E).here.2 rfl ?_)
  refine rs_op rfl (ow_len Tryz.underlying84 rfl ?_)
  refine rs_op rfl (ow_sub rfl rfl (wrap_i64 (by omega)) ?_)
  refine rs_op rfl (ow_assign rfl ?_)
  refine rs_nil ?_
  refine ew_next ?_
  refine cw_block ?_
  refine cw_unroll ?_
  refine cw_seq ?_
  refine cw_seq ?_
  refine cw_region ?_
  refine rs_op rfl (ow_move rfl ?_)
  refine rs_op rfl (ow_geq rfl rfl ?_)
  refine rs_nil ?_
  refine ew_next ?_
  refine cw_set 16 (.bool false) rfl ((by rw [hl]; rfl : (.bool (decide (0 ≤ (((((tens i).length : Nat)) : Int) - 1))) : Value) = _)) ?_
  refine cw_else rfl ?_
  refine cw_exit ?_
  refine ew_then_exit ?_
  refine ew_then_exit ?_
  refine ew_block_here ?_
  refine ew_next ?_
  refine cw_seq ?_
  refine cw_seq ?_
  refine cw_region ?_
  refine rs_op rfl (ow_fieldAddr Tryz.underlying86 rfl sz4 (by decide) rfl ?_)
  refine rs_op rfl (ow_loadF Tryz.underlying4 rfl rfl (HF.on E).here.2 rfl ?_)
  refine rs_nil ?_
  refine ew_next ?_
  refine cw_set 30 (.bool false) rfl ((by rw [h0]; rfl : (.bool (decide (i < 0)) : Value) = _)) ?_
  refine cw_else rfl ?_
  refine cw_skip ?_
  refine ew_next ?_
  refine cw_seq ?_
  refine cw_region ?_
  refine rs_op rfl (ow_move rfl ?_)
  refine rs_op rfl (ow_assign rfl ?_)
  refine rs_nil ?_
  refine ew_next ?_
  refine cw_ret ?_
  refine ew_ret (rs := [.tmp 2]) (vs := [_]) rfl ⟨rfl, trivial⟩ ?_
  exact ⟨by rw [h0]; rfl, (LW.step E XLW).toBelow⟩
theorem rhashbig_num (h0 : i ≠ 0) : Calls Tryz.prog 39 #[.agg #[.bool (decide (i < 0)), .slice A (limbs i).length c]] w fun e w' => e = .returned (.int .i64 (hashI i)) ∧ Below w.heap.size w w' := by
  have hl2 := tens_length hi
  refine calls_cw Tryz.func39 rfl Tryz.ntmps39 rfl ?_
  have HF : Per (No) w (fun _ => True) := Per.true_
  have LW := Ext.refl (No) w
  have XLW : ∀ q9, (No) q9 → (No) q9 ∨ w.heap.size ≤ q9 := fun _ h => Or.inl h
  have E := Ext.refl (No) w
  replace HF := HF.on E
  replace LW := LW.step E XLW
  replace E := Ext.refl (No) w
  replace HF := HF.and (Per.nums0 hx)
  refine cw_seq ?_
  refine cw_region ?_
  refine rs_op rfl (ow_boxB rfl ?_)
  intro gb1 w2 Bb1 Eb1 Gb1
  have Gb1 : _ ≤ gb1 := Nat.le_trans E.size Gb1
  have GLb1 := Nat.le_trans LW.size Gb1
  replace E := E.trans Eb1.no
  clear Eb1
  replace HF := HF.cons (some_ge Gb1)
  replace E := E.cons (some gb1)
  replace XLW := Mut.grow XLW (fun k e => Or.inr (Nat.le_trans LW.size ((some_ge Gb1) k e)))
  replace HF := HF.on E
  replace LW := LW.step E XLW
  have SB : ∀ q9, No q9 → Mut [(some gb1)] q9 := (Mut.skip Mut.nil_)
  replace HF := HF.less SB
  replace XLW := fun k h => XLW k (SB k h)
  clear SB
  replace E := Ext.refl (No) w2
  replace HF := HF.and (Per.blkN Bb1 NotIn.nil)
  clear Bb1
  refine rs_op rfl (ow_assign rfl ?_)
  refine rs_nil ?_
  refine ew_next ?_
  refine cw_seq ?_
  refine cw_seq ?_
  refine cw_region ?_
  refine rs_op rfl (ow_loadB Tryz.underlying41 rfl sz41 rfl (HF.on E).here.2 rfl ?_)
  refine rs_op rfl (ow_enter en51 rfl ((rgoodI A c _ hi (HF.on E).here.1.2).mono ?_))
  rintro e w3 ⟨rfl, hb⟩
  refine ⟨_, rfl, ?_⟩
  have Ec := Ext.of_below hb No
  replace E := E.trans Ec.no
  clear hb Ec
  refine rs_op rfl (ow_not rfl ?_)
  refine rs_nil ?_
  refine ew_next ?_
  refine cw_else rfl ?_
  refine cw_skip ?_
  refine ew_next ?_
  refine cw_seq ?_
  refine cw_region ?_
  refine rs_op rfl (ow_loadB Tryz.underlying41 rfl sz41 rfl (HF.on E).here.2 rfl ?_)
  refine rs_op rfl (ow_enter en78 rfl ((rofI A c _ hi (HF.on E).here.1.2).mono ?_))
  rintro e w4 ⟨A2, c2, rfl, o2, hb⟩
  refine ⟨_, rfl, ?_⟩
  have XC : ∀ q9, (No) q9 → q9 < w3.heap.size := Mut.none_
  have Ec := Ext.of_below hb No
  replace E := E.trans Ec.no
  clear hb Ec
  replace HF := HF.on E
  replace LW := LW.step E XLW
  replace E := Ext.refl (No) w4
  replace HF := HF.and (Per.own8X o2 XC)
  obtain ⟨bx, ox, hAe, _, _⟩ := ((HF.on E).here.2).2 (ten_pos h0)
  refine rs_op rfl (ow_allocB zr86 ?_)
  intro gb5 w6 Bb5 Eb5 Gb5
  have Gb5 : _ ≤ gb5 := Nat.le_trans E.size Gb5
  have GLb5 := Nat.le_trans LW.size Gb5
  replace E := E.trans Eb5.no
  clear Eb5
  replace HF := HF.cons (some_ge Gb5)
  replace E := E.cons (some gb5)
  replace XLW := Mut.grow XLW (fun k e => Or.inr (Nat.le_trans LW.size ((some_ge Gb5) k e)))
  refine rs_op0 (ow_storeM sz86 rfl rfl Bb5 rfl rfl (Nat.le_of_ble_eq_true rfl) ?_)
  intro w7 Bx Eb5
  replace Bb5 := Bx
  clear Bx
  replace E := E.step1 Eb5 Mut.head
  clear Eb5
  replace HF := HF.on E
  replace LW := LW.step E XLW
  have SB : ∀ q9, No q9 → Mut [(some gb5)] q9 := (Mut.skip Mut.nil_)
  replace HF := HF.less SB
  replace XLW := fun k h => XLW k (SB k h)
  clear SB
  replace E := Ext.refl (No) w7
  replace HF := HF.and (Per.blkN Bb5 NotIn.nil)
  clear Bb5
  refine rs_nil ?_
  refine ew_next ?_
  refine cw_seq ?_
  refine cw_region ?_
  refine rs_op rfl (ow_assign rfl ?_)
  refine rs_nil ?_
  refine ew_next ?_
  refine cw_seq ?_
  refine cw_seq ?_
  refine cw_region ?_
  refine rs_op rfl (ow_fieldAddr Tryz.underlying86 rfl sz84 (by decide) rfl ?_)
  refine rs_op rfl (ow_loadF Tryz.underlying84 rfl rfl (HF.on E).here.2 rfl ?_)
  refine rs_op rfl (ow_len Tryz.underlying84 rfl ?_)
  refine rs_op rfl (ow_sub rfl rfl (wrap_i64 (by omega)) ?_)
  refine rs_op rfl (ow_assign rfl ?_)
  refine rs_nil ?_
  refine ew_next ?_
  refine cw_block ?_
  replace HF := HF.on E
  replace LW := LW.step E XLW
  replace E := Ext.refl (No) w7
  refine cw_loop (ι := Nat) (fun k => [(3, .pointer (some ⟨gb5, 0, none⟩)), (4, .int .i64 ((upM 10 (tens i) k : Nat) : Int)), (5, .int .i64 (((tens i).length : Int) - 1 - ((k : Nat) : Int)))]) (fun k w' => Ext (No) w7 w' ∧ (k ≤ (tens i).length)) (fun k => (tens i).length - k) 0 ⟨rfl, congrArg (fun z : Nat => some (Value.int .i64 (z : Int))) (upM_zero _ _).symm, congrArg (fun z : Int => some (Value.int .i64 z)) (by omega), trivial⟩ ⟨Ext.refl _ _, Nat.zero_le _⟩ ?_
  rintro k w9 ⟨M8, hk⟩
  have XM8 : ∀ q9, (No) q9 → (No) q9 ∨ w7.heap.size ≤ q9 := fun _ h => Or.inl h
  replace E := E.trans M8
  replace HF := HF.on E
  replace LW := LW.step E XLW
  replace E := Ext.refl (No) w9
  refine cw_seq ?_
  refine cw_seq ?_
  refine cw_region ?_
  refine rs_op rfl (ow_move rfl ?_)
  refine rs_op rfl (ow_geq rfl rfl ?_)
  refine rs_nil ?_
  refine ew_next ?_
  refine cw_set 16 (.bool (decide (k < (tens i).length))) rfl (bool_dec (by omega)) ?_
  have hup := upM_lt 10 (tens i) k
  refine cw_cond rfl (fun hl => ?_) (fun hl => ?_)
  · have _way := True.intro
    have hl := of_decide_eq_true hl
    obtain ⟨h, hh⟩ : ∃ h, h = upM 10 (tens i) k := ⟨_, rfl⟩
    obtain ⟨l, hll⟩ : ∃ l, l = (tens i).getD ((tens i).length - 1 - k) 0 := ⟨_, rfl⟩
    have hlb : l < 10 := by rw [hll]; exact small_getD (by decide) (tens_small i) _
    have hnx : upM 10 (tens i) (k + 1) = (10 * h + l) % 2147483647 := by rw [upM_succ hl, ← hh, ← hll, Nat.mul_comm]
    rw [← hh] at hup
    refine cw_set 4 (.int .i64 ((h : Nat) : Int)) rfl ((by rw [hh] : (.int .i64 ((upM 10 (tens i) k : Nat) : Int) : Value) = _)) ?_
    refine cw_skip ?_
    refine ew_next ?_
    refine cw_seq ?_
    refine cw_block ?_
    refine cw_region ?_
    refine rs_op rfl (ow_move rfl ?_)
    refine rs_op rfl (ow_mul rfl rfl (wrap_i64 (by omega)) ?_)
    refine rs_op rfl (ow_fieldAddr Tryz.underlying86 rfl sz84 (by decide) rfl ?_)
    refine rs_op rfl (ow_loadF Tryz.underlying84 rfl rfl (HF.on E).here.2 rfl ?_)
    refine rs_op rfl (ow_move rfl ?_)
    refine rs_set 22 (.slice (some ⟨bx, ox, none⟩) (tens i).length c2) rfl ((by rw [hAe] : (.slice A2 (tens i).length c2 : Value) = _)) ?_
    refine rs_op rfl (ow_indexAddr1 (j := (tens i).length - 1 - k) Tryz.underlying84 sz5 rfl rfl (by omega) (by omega) ?_)
    obtain ⟨b9, o9, hA9, _, hc9⟩ := ((HF.on E).here.1.2).2 (ten_pos h0)
    obtain ⟨rfl, rfl⟩ : b9 = bx ∧ o9 = ox := by rw [hAe] at hA9; simpa using hA9.symm
    refine rs_op rfl (ow_load1 Tryz.underlying5 rfl rfl (hc9 ((tens i).length - 1 - k) (by omega)) ?_)
    refine rs_set 25 (.int .u8 ((l : Nat) : Int)) rfl ((by rw [nth_nat, hll] : (.int .u8 (nth (tens i) ((tens i).length - 1 - k)) : Value) = _)) ?_
    refine rs_op rfl (ow_conv Tryz.underlying3 Tryz.underlying5 rfl (wrap_i64 (by omega)) ?_)
    refine rs_op rfl (ow_add rfl rfl (wrap_i64 (by omega)) ?_)
    refine rs_op rfl (ow_rem (z := (((10 * h + l) % 2147483647 : Nat) : Int)) rfl rfl (by decide) (by rw [← tmod_nat, Int.natCast_add, Int.natCast_mul]; rfl) ?_)
    refine rs_set 28 (.int .i64 ((upM 10 (tens i) (k + 1) : Nat) : Int)) rfl ((by rw [hnx] : (.int .i64 (((10 * h + l) % 2147483647 : Nat) : Int) : Value) = _)) ?_
    refine rs_op rfl (ow_assign rfl ?_)
    refine rs_nil ?_
    refine ew_block_normal ?_
    refine ew_next ?_
    refine cw_region ?_
    refine rs_op rfl (ow_move rfl ?_)
    refine rs_op rfl (ow_sub rfl rfl (wrap_i64 (by omega)) ?_)
    refine rs_op rfl (ow_assign rfl ?_)
    refine rs_nil ?_
    exact ew_round (ι := Nat) (s := fun k => [(3, .pointer (some ⟨gb5, 0, none⟩)), (4, .int .i64 ((upM 10 (tens i) k : Nat) : Int)), (5, .int .i64 (((tens i).length : Int) - 1 - ((k : Nat) : Int)))]) (R := fun k w' => Ext (No) w7 w' ∧ (k ≤ (tens i).length)) (m := fun k => (tens i).length - k) (i := k) (k + 1) (by omega) ⟨rfl, rfl, congrArg (fun z : Int => some (Value.int .i64 z)) (by omega), trivial⟩ ⟨M8.step E XM8, by omega⟩
  · have _way := True.intro
    have hl := of_decide_eq_false hl
    have hke : k = (tens i).length := by omega
    have hend : upM 10 (tens i) k = i.natAbs % 2147483647 := by rw [hke, upM_tens]
    refine cw_set 4 (.int .i64 ((i.natAbs % 2147483647 : Nat) : Int)) rfl ((by rw [hend] : (.int .i64 ((upM 10 (tens i) k : Nat) : Int) : Value) = _)) ?_
    refine cw_exit ?_
    refine ew_then_exit ?_
    refine ew_then_exit ?_
    refine ew_block_here ?_
    refine ew_next ?_
    refine cw_seq ?_
    refine cw_seq ?_
    refine cw_region ?_
    refine rs_op rfl (ow_fieldAddr Tryz.underlying86 rfl sz4 (by decide) rfl ?_)
    refine rs_op rfl (ow_loadF Tryz.underlying4 rfl rfl (HF.on E).here.2 rfl ?_)
    refine rs_nil ?_
    refine ew_next ?_
    refine cw_cond rfl (fun hn => ?_) (fun hn => ?_)
    · have _way := True.intro
      refine cw_seq ?_
      refine cw_region ?_
      refine rs_op rfl (ow_move rfl ?_)
      refine rs_op rfl (ow_neg rfl (wrap_i64 (by omega)) ?_)
      refine rs_op rfl (ow_assign rfl ?_)
      refine rs_nil ?_
      refine ew_next ?_
      refine cw_ret ?_
      refine ew_then_ret ?_
      refine ew_ret (rs := [.tmp 2]) (vs := [_]) rfl ⟨rfl, trivial⟩ ?_
      exact ⟨by rw [hashI, if_pos (of_decide_eq_true hn)]; rfl, (LW.step E XLW).toBelow⟩
    · have _way := True.intro
      refine cw_skip ?_
      refine ew_next ?_
      refine cw_seq ?_
      refine cw_region ?_
      refine rs_op rfl (ow_move rfl ?_)
      refine rs_op rfl (ow_assign rfl ?_)
      refine rs_nil ?_
      refine ew_next ?_
      refine cw_ret ?_
      refine ew_ret (rs := [.tmp 2]) (vs := [_]) rfl ⟨rfl, trivial⟩ ?_
      exact ⟨by rw [hashI, if_neg (of_decide_eq_false hn)]; rfl, (LW.step E XLW).toBelow⟩
theorem rhashbigI : Calls Tryz.prog 39 #[.agg #[.bool (decide (i < 0)), .slice A (limbs i).length c]] w fun e w' => e = .returned (.int .i64 (hashI i)) ∧ Below w.heap.size w w' := by
  by_cases h0 : i = 0
  · exact rhashbig_zero i A c w hi hx h0
  · exact rhashbig_num i A c w hi hx h0
end
/-! ### numbers that are not in form -/
section
variable (n1 : Bool) (A : Option Addr) (c : Nat) (xs : List Nat) (w : World) (hx : Nums w A xs) (hl : xs.length ≤ 9223372036854775807) (hg : goodB n1 xs = false)
include hx hl hg
theorem hashbig_bad : Calls Tryz.prog 38 #[.agg #[.bool n1, .slice A xs.length c]] w fun e w' => e = .returned (.int .i64 0) ∧ Below w.heap.size w w' := by
  refine calls_cw Tryz.func38 rfl Tryz.ntmps38 rfl ?_
  have HF : Per (No) w (fun _ => True) := Per.true_
  have LW := Ext.refl (No) w
  have XLW : ∀ q9, (No) q9 → (No) q9 ∨ w.heap.size ≤ q9 := fun _ h => Or.inl h
  have E := Ext.refl (No) w
  replace HF := HF.on E
  replace LW := LW.step E XLW
  replace E := Ext.refl (No) w
  replace HF := HF.and (Per.nums0 hx)
  refine cw_seq ?_
  refine cw_region ?_
  refine rs_op rfl (ow_boxB rfl ?_)
  intro gb1 w2 Bb1 Eb1 Gb1
  have Gb1 : _ ≤ gb1 := Nat.le_trans E.size Gb1
  have GLb1 := Nat.le_trans LW.size Gb1
  replace E := E.trans Eb1.no
  clear Eb1
  replace HF := HF.cons (some_ge Gb1)
  replace E := E.cons (some gb1)
  replace XLW := Mut.grow XLW (fun k e => Or.inr (Nat.le_trans LW.size ((some_ge Gb1) k e)))
  replace HF := HF.on E
  replace LW := LW.step E XLW
  have SB : ∀ q9, No q9 → Mut [(some gb1)] q9 := (Mut.skip Mut.nil_)
  replace HF := HF.less SB
  replace XLW := fun k h => XLW k (SB k h)
  clear SB
  replace E := Ext.refl (No) w2
  replace HF := HF.and (Per.blkN Bb1 NotIn.nil)
  clear Bb1
  refine rs_op rfl (ow_assign rfl ?_)
  refine rs_nil ?_
  refine ew_next ?_
  refine cw_seq ?_
  refine cw_seq ?_
  refine cw_region ?_
  refine rs_op rfl (ow_loadB Tryz.underlying41 rfl sz41 rfl (HF.on E).here.2 rfl ?_)
  refine rs_op rfl (ow_enter en76 rfl ((good_any n1 c _ A xs hl (HF.on E).here.1.2).mono ?_))
  rintro e w3 ⟨rfl, hb⟩
  refine ⟨_, rfl, ?_⟩
  have Ec := Ext.of_below hb No
  replace E := E.trans Ec.no
  clear hb Ec
  refine rs_set 9 (.bool false) rfl ((by rw [hg] : (.bool (goodB n1 xs) : Value) = _)) ?_
  refine rs_op rfl (ow_not rfl ?_)
  refine rs_nil ?_
  refine ew_next ?_
  refine cw_then rfl ?_
  refine cw_seq ?_
  refine cw_region ?_
  refine rs_op rfl (ow_assign rfl ?_)
  refine rs_nil ?_
  refine ew_next ?_
  refine cw_ret ?_
  refine ew_then_ret ?_
  refine ew_ret (rs := [.tmp 2]) (vs := [_]) rfl ⟨rfl, trivial⟩ ?_
  exact ⟨rfl, (LW.step E XLW).toBelow⟩
theorem rhashbig_bad : Calls Tryz.prog 39 #[.agg #[.bool n1, .slice A xs.length c]] w fun e w' => e = .returned (.int .i64 0) ∧ Below w.heap.size w w' := by
  refine calls_cw Tryz.func39 rfl Tryz.ntmps39 rfl ?_
  have HF : Per (No) w (fun _ => True) := Per.true_
  have LW := Ext.refl (No) w
  have XLW : ∀ q9, (No) q9 → (No) q9 ∨ w.heap.size ≤ q9 := fun _ h => Or.inl h
  have E := Ext.refl (No) w
  replace HF := HF.on E
  replace LW := LW.step E XLW
  replace E := Ext.refl (No) w
  replace HF := HF.and (Per.nums0 hx)
  refine cw_seq ?_
  refine cw_region ?_
  refine rs_op rfl (ow_boxB rfl ?_)
  intro gb1 w2 Bb1 Eb1 Gb1
  have Gb1 : _ ≤ gb1 := Nat.le_trans E.size Gb1
  have GLb1 := Nat.le_trans LW.size Gb1
  replace E := E.trans Eb1.no
  clear Eb1
  replace HF := HF.cons (some_ge Gb1)
  replace E := E.cons (some gb1)
  replace XLW := Mut.grow XLW (fun k e => Or.inr (Nat.le_trans LW.size ((some_ge Gb1) k e)))
  replace HF := HF.on E
  replace LW := LW.step E XLW
  have SB : ∀ q9, No q9 → Mut [(some gb1)] q9 := (Mut.skip Mut.nil_)
  replace HF := HF.less SB
  replace XLW := fun k h => XLW k (SB k h)
  clear SB
  replace E := Ext.refl (No) w2
  replace HF := HF.and (Per.blkN Bb1 NotIn.nil)
  clear Bb1
  refine rs_op rfl (ow_assign rfl ?_)
  refine rs_nil ?_
  refine ew_next ?_
  refine cw_seq ?_
  refine cw_seq ?_
  refine cw_region ?_
  refine rs_op rfl (ow_loadB Tryz.underlying41 rfl sz41 rfl (HF.on E).here.2 rfl ?_)
  refine rs_op rfl (ow_enter en51 rfl ((rgood_any n1 c _ A xs hl (HF.on E).here.1.2).mono ?_))
  rintro e w3 ⟨rfl, hb⟩
  refine ⟨_, rfl, ?_⟩
  have Ec := Ext.of_below hb No
  replace E := E.trans Ec.no
  clear hb Ec
  refine rs_set 7 (.bool false) rfl ((by rw [hg] : (.bool (goodB n1 xs) : Value) = _)) ?_
  refine rs_op rfl (ow_not rfl ?_)
  refine rs_nil ?_
  refine ew_next ?_
  refine cw_then rfl ?_
  refine cw_seq ?_
  refine cw_region ?_
  refine rs_op rfl (ow_assign rfl ?_)
  refine rs_nil ?_
  refine ew_next ?_
  refine cw_ret ?_
  refine ew_then_ret ?_
  refine ew_ret (rs := [.tmp 2]) (vs := [_]) rfl ⟨rfl, trivial⟩ ?_
  exact ⟨rfl, (LW.step E XLW).toBelow⟩
end
/-- Both at every number that can be read. -/
noncomputable def hashO (n1 : Bool) (xs : List Nat) : Int := if goodB n1 xs then hashI (num n1 xs) else 0
section
variable (n1 : Bool) (A : Option Addr) (c : Nat) (xs : List Nat) (w : World) (hx : Nums w A xs) (hl : xs.length ≤ 9223372036854775807)
include hx hl
theorem hashbig_any : Calls Tryz.prog 38 #[.agg #[.bool n1, .slice A xs.length c]] w fun e w' => e = .returned (.int .i64 (hashO n1 xs)) ∧ Below w.heap.size w w' := by
  cases hg : goodB n1 xs with
  | false =>
    rw [hashO, if_neg (by rw [hg]; decide)]
    exact hashbig_bad n1 A c xs w hx hl hg
  | true =>
    rw [hashO, if_pos hg]
    obtain ⟨i, rfl, rfl, hi⟩ := good_is hg
    rw [num_limbs]
    exact hashbigI i A c w hi hx
theorem rhashbig_any : Calls Tryz.prog 39 #[.agg #[.bool n1, .slice A xs.length c]] w fun e w' => e = .returned (.int .i64 (hashO n1 xs)) ∧ Below w.heap.size w w' := by
  cases hg : goodB n1 xs with
  | false =>
    rw [hashO, if_neg (by rw [hg]; decide)]
    exact rhashbig_bad n1 A c xs w hx hl hg
  | true =>
    rw [hashO, if_pos hg]
    obtain ⟨i, rfl, rfl, hi⟩ := good_is hg
    rw [num_limbs]
    exact rhashbigI i A c w hi hx
end
end Go.Proofs.YtljndllhmdpjlaaGreatDoor
namespace Go.Proofs.YtljndllhmdpjlaaGreatDoor
open Go.RowKit
set_option maxRecDepth 100000
theorem per_later {F : World → Prop} {w : World} (h : ∀ b, Below w.heap.size w b → F b) : Per No w (fun b => ∀ b', Below b.heap.size b b' → F b') := fun _ hb => later h hb.toBelow
theorem ri71_7 : Gives 71 #[.float .f64 13840687554816376832] (.float .f64 4617315517961601024) := by
  intro w
  refine calls_cw Tryz.func71 rfl Tryz.ntmps71 rfl ?_
  have HF : Per (No) w (fun _ => True) := Per.true_
  have LW := Ext.refl (No) w
  have XLW : ∀ q9, (No) q9 → (No) q9 ∨ w.heap.size ≤ q9 := fun _ h => Or.inl h
  have E := Ext.refl (No) w
  refine cw_seq ?_
  refine cw_region ?_
  refine rs_op rfl (ow_assign rfl ?_)
  refine rs_nil ?_
  refine ew_next ?_
  refine cw_seq ?_
  refine cw_region ?_
  refine rs_op rfl (ow_move rfl ?_)
  refine rs_op rfl (ow_bits ex59 rfl ?_)
  refine rs_op rfl (ow_andNot (z := 4617315517961601024) rfl rfl (by kernel_rfl) ?_)
  refine rs_op rfl (ow_frombits (b := 4617315517961601024) ex60 rfl ?_)
  refine rs_op rfl (ow_assign rfl ?_)
  refine rs_nil ?_
  refine ew_next ?_
  refine cw_ret ?_
  refine ew_ret (rs := [.tmp 2]) (vs := [.float .f64 4617315517961601024]) rfl ⟨rfl, trivial⟩ ?_
  exact ⟨rfl, (LW.step E XLW).toBelow⟩
theorem ri61_7 : Gives 61 #[.float .f64 13840687554816376832, .int .i64 0] (.bool false) := by
  intro w
  refine calls_cw Tryz.func61 rfl Tryz.ntmps61 rfl ?_
  have HF : Per (No) w (fun _ => True) := Per.true_
  have LW := Ext.refl (No) w
  have XLW : ∀ q9, (No) q9 → (No) q9 ∨ w.heap.size ≤ q9 := fun _ h => Or.inl h
  have E := Ext.refl (No) w
  refine cw_seq ?_
  refine cw_region ?_
  refine rs_op rfl (ow_assign rfl ?_)
  refine rs_nil ?_
  refine ew_next ?_
  refine cw_seq ?_
  refine cw_seq ?_
  refine cw_region ?_
  refine rs_op rfl (ow_move rfl ?_)
  refine rs_op rfl (ow_eql rfl rfl ?_)
  refine rs_nil ?_
  refine ew_next ?_
  refine cw_then rfl ?_
  refine cw_region ?_
  refine rs_op rfl (ow_move rfl ?_)
  refine rs_op rfl (ow_enter en71 rfl ((ri71_7 _).mono ?_))
  rintro e w1 ⟨rfl, hb⟩
  refine ⟨_, rfl, ?_⟩
  have Ec := Ext.of_below hb No
  replace E := E.trans Ec.no
  clear hb Ec
  refine rs_op rfl (ow_assign rfl ?_)
  refine rs_nil ?_
  refine ew_next ?_
  refine cw_seq ?_
  refine cw_region ?_
  refine rs_op rfl (ow_move rfl ?_)
  refine rs_op rfl (ow_fgtr rfl rfl ?_)
  refine rs_set 14 (.bool false) rfl (by kernel_rfl : (.bool (ford 4617315517961601024 9218868437227405311 == some .gt) : Value) = _) ?_
  refine rs_op rfl (ow_assign rfl ?_)
  refine rs_nil ?_
  refine ew_next ?_
  refine cw_ret ?_
  refine ew_ret (rs := [.tmp 4]) (vs := [.bool false]) rfl ⟨rfl, trivial⟩ ?_
  exact ⟨rfl, (LW.step E XLW).toBelow⟩
theorem ri138_8 : Gives 138 #[.float .f64 13840687554816376832] (.bool false) := by
  intro w
  refine calls_cw Tryz.func138 rfl Tryz.ntmps138 rfl ?_
  have HF : Per (No) w (fun _ => True) := Per.true_
  have LW := Ext.refl (No) w
  have XLW : ∀ q9, (No) q9 → (No) q9 ∨ w.heap.size ≤ q9 := fun _ h => Or.inl h
  have E := Ext.refl (No) w
  refine cw_seq ?_
  refine cw_region ?_
  refine rs_op rfl (ow_assign rfl ?_)
  refine rs_nil ?_
  refine ew_next ?_
  refine cw_seq ?_
  refine cw_region ?_
  refine rs_op rfl (ow_move rfl ?_)
  refine rs_op rfl (ow_move rfl ?_)
  refine rs_op rfl (ow_fneq rfl rfl ?_)
  refine rs_set 5 (.bool false) rfl (by kernel_rfl : (.bool (ford 13840687554816376832 13840687554816376832 != some .eq) : Value) = _) ?_
  refine rs_op rfl (ow_assign rfl ?_)
  refine rs_nil ?_
  refine ew_next ?_
  refine cw_ret ?_
  refine ew_ret (rs := [.tmp 2]) (vs := [.bool false]) rfl ⟨rfl, trivial⟩ ?_
  exact ⟨rfl, (LW.step E XLW).toBelow⟩
theorem ri138_9 : Gives 138 #[.float .f64 9218868437227405312] (.bool false) := by
  intro w
  refine calls_cw Tryz.func138 rfl Tryz.ntmps138 rfl ?_
  have HF : Per (No) w (fun _ => True) := Per.true_
  have LW := Ext.refl (No) w
  have XLW : ∀ q9, (No) q9 → (No) q9 ∨ w.heap.size ≤ q9 := fun _ h => Or.inl h
  have E := Ext.refl (No) w
  refine cw_seq ?_
  refine cw_region ?_
  refine rs_op rfl (ow_assign rfl ?_)
  refine rs_nil ?_
  refine ew_next ?_
  refine cw_seq ?_
  refine cw_region ?_
  refine rs_op rfl (ow_move rfl ?_)
  refine rs_op rfl (ow_move rfl ?_)
  refine rs_op rfl (ow_fneq rfl rfl ?_)
  refine rs_set 5 (.bool false) rfl (by kernel_rfl : (.bool (ford 9218868437227405312 9218868437227405312 != some .eq) : Value) = _) ?_
  refine rs_op rfl (ow_assign rfl ?_)
  refine rs_nil ?_
  refine ew_next ?_
  refine cw_ret ?_
  refine ew_ret (rs := [.tmp 2]) (vs := [.bool false]) rfl ⟨rfl, trivial⟩ ?_
  exact ⟨rfl, (LW.step E XLW).toBelow⟩
theorem ri71_10 : Gives 71 #[.float .f64 9218868437227405312] (.float .f64 9218868437227405312) := by
  intro w
  refine calls_cw Tryz.func71 rfl Tryz.ntmps71 rfl ?_
  have HF : Per (No) w (fun _ => True) := Per.true_
  have LW := Ext.refl (No) w
  have XLW : ∀ q9, (No) q9 → (No) q9 ∨ w.heap.size ≤ q9 := fun _ h => Or.inl h
  have E := Ext.refl (No) w
  refine cw_seq ?_
  refine cw_region ?_
  refine rs_op rfl (ow_assign rfl ?_)
  refine rs_nil ?_
  refine ew_next ?_
  refine cw_seq ?_
  refine cw_region ?_
  refine rs_op rfl (ow_move rfl ?_)
  refine rs_op rfl (ow_bits ex59 rfl ?_)
  refine rs_op rfl (ow_andNot (z := 9218868437227405312) rfl rfl (by kernel_rfl) ?_)
  refine rs_op rfl (ow_frombits (b := 9218868437227405312) ex60 rfl ?_)
  refine rs_op rfl (ow_assign rfl ?_)
  refine rs_nil ?_
  refine ew_next ?_
  refine cw_ret ?_
  refine ew_ret (rs := [.tmp 2]) (vs := [.float .f64 9218868437227405312]) rfl ⟨rfl, trivial⟩ ?_
  exact ⟨rfl, (LW.step E XLW).toBelow⟩
theorem ri61_13 : Gives 61 #[.float .f64 9218868437227405312, .int .i64 0] (.bool true) := by
  intro w
  refine calls_cw Tryz.func61 rfl Tryz.ntmps61 rfl ?_
  have HF : Per (No) w (fun _ => True) := Per.true_
  have LW := Ext.refl (No) w
  have XLW : ∀ q9, (No) q9 → (No) q9 ∨ w.heap.size ≤ q9 := fun _ h => Or.inl h
  have E := Ext.refl (No) w
  refine cw_seq ?_
  refine cw_region ?_
  refine rs_op rfl (ow_assign rfl ?_)
  refine rs_nil ?_
  refine ew_next ?_
  refine cw_seq ?_
  refine cw_seq ?_
  refine cw_region ?_
  refine rs_op rfl (ow_move rfl ?_)
  refine rs_op rfl (ow_eql rfl rfl ?_)
  refine rs_nil ?_
  refine ew_next ?_
  refine cw_then rfl ?_
  refine cw_region ?_
  refine rs_op rfl (ow_move rfl ?_)
  refine rs_op rfl (ow_enter en71 rfl ((ri71_10 _).mono ?_))
  rintro e w1 ⟨rfl, hb⟩
  refine ⟨_, rfl, ?_⟩
  have Ec := Ext.of_below hb No
  replace E := E.trans Ec.no
  clear hb Ec
  refine rs_op rfl (ow_assign rfl ?_)
  refine rs_nil ?_
  refine ew_next ?_
  refine cw_seq ?_
  refine cw_region ?_
  refine rs_op rfl (ow_move rfl ?_)
  refine rs_op rfl (ow_fgtr rfl rfl ?_)
  refine rs_set 14 (.bool true) rfl (by kernel_rfl : (.bool (ford 9218868437227405312 9218868437227405311 == some .gt) : Value) = _) ?_
  refine rs_op rfl (ow_assign rfl ?_)
  refine rs_nil ?_
  refine ew_next ?_
  refine cw_ret ?_
  refine ew_ret (rs := [.tmp 4]) (vs := [.bool true]) rfl ⟨rfl, trivial⟩ ?_
  exact ⟨rfl, (LW.step E XLW).toBelow⟩
theorem ri106_13 : Gives 106 #[.float .f64 9218868437227405312] (.tuple #[.float .f64 9218868437227405312, .int .i64 0]) := by
  intro w
  refine calls_cw Tryz.func106 rfl Tryz.ntmps106 rfl ?_
  have HF : Per (No) w (fun _ => True) := Per.true_
  have LW := Ext.refl (No) w
  have XLW : ∀ q9, (No) q9 → (No) q9 ∨ w.heap.size ≤ q9 := fun _ h => Or.inl h
  have E := Ext.refl (No) w
  refine cw_seq ?_
  refine cw_region ?_
  refine rs_op rfl (ow_assign rfl ?_)
  refine rs_op rfl (ow_assign rfl ?_)
  refine rs_nil ?_
  refine ew_next ?_
  refine cw_seq ?_
  refine cw_block ?_
  refine cw_seq ?_
  refine cw_region ?_
  refine rs_op rfl (ow_move rfl ?_)
  refine rs_op rfl (ow_feql rfl rfl ?_)
  refine rs_set 7 (.bool false) rfl (by kernel_rfl : (.bool (ford 9218868437227405312 0 == some .eq) : Value) = _) ?_
  refine rs_op rfl (ow_assign rfl ?_)
  refine rs_nil ?_
  refine ew_next ?_
  refine cw_else rfl ?_
  refine cw_seq ?_
  refine cw_region ?_
  refine rs_op rfl (ow_move rfl ?_)
  refine rs_op rfl (ow_enter en61 rfl ((ri61_13 _).mono ?_))
  rintro e w1 ⟨rfl, hb⟩
  refine ⟨_, rfl, ?_⟩
  have Ec := Ext.of_below hb No
  replace E := E.trans Ec.no
  clear hb Ec
  refine rs_op rfl (ow_move rfl ?_)
  refine rs_op rfl (ow_off rfl ?_)
  refine rs_op rfl (ow_off rfl ?_)
  refine rs_op rfl (ow_pickT rfl rfl ?_)
  refine rs_op rfl (ow_assign rfl ?_)
  refine rs_nil ?_
  refine ew_next ?_
  refine cw_then rfl ?_
  refine cw_seq ?_
  refine cw_region ?_
  refine rs_op rfl (ow_move rfl ?_)
  refine rs_op rfl (ow_assign rfl ?_)
  refine rs_op rfl (ow_assign rfl ?_)
  refine rs_nil ?_
  refine ew_next ?_
  refine cw_ret ?_
  refine ew_block_ret ?_
  refine ew_then_ret ?_
  refine ew_ret (rs := [.tmp 2, .tmp 3]) (vs := [.float .f64 9218868437227405312, .int .i64 0]) rfl ⟨rfl, rfl, trivial⟩ ?_
  exact ⟨rfl, (LW.step E XLW).toBelow⟩
theorem ri70_13 : Gives 70 #[.float .f64 9218868437227405312] (.tuple #[.float .f64 9218868437227405312, .int .i64 0]) := by
  intro w
  refine calls_cw Tryz.func70 rfl Tryz.ntmps70 rfl ?_
  have HF : Per (No) w (fun _ => True) := Per.true_
  have LW := Ext.refl (No) w
  have XLW : ∀ q9, (No) q9 → (No) q9 ∨ w.heap.size ≤ q9 := fun _ h => Or.inl h
  have E := Ext.refl (No) w
  refine cw_seq ?_
  refine cw_region ?_
  refine rs_op rfl (ow_assign rfl ?_)
  refine rs_op rfl (ow_assign rfl ?_)
  refine rs_nil ?_
  refine ew_next ?_
  refine cw_seq ?_
  refine cw_else rfl ?_
  refine cw_skip ?_
  refine ew_next ?_
  refine cw_seq ?_
  refine cw_region ?_
  refine rs_op rfl (ow_move rfl ?_)
  refine rs_op rfl (ow_enter en106 rfl ((ri106_13 _).mono ?_))
  rintro e w1 ⟨rfl, hb⟩
  refine ⟨_, rfl, ?_⟩
  have Ec := Ext.of_below hb No
  replace E := E.trans Ec.no
  clear hb Ec
  refine rs_op rfl (ow_extract rfl rfl ?_)
  refine rs_op rfl (ow_extract rfl rfl ?_)
  refine rs_op rfl (ow_assign rfl ?_)
  refine rs_op rfl (ow_assign rfl ?_)
  refine rs_nil ?_
  refine ew_next ?_
  refine cw_ret ?_
  refine ew_ret (rs := [.tmp 2, .tmp 3]) (vs := [.float .f64 9218868437227405312, .int .i64 0]) rfl ⟨rfl, rfl, trivial⟩ ?_
  exact ⟨rfl, (LW.step E XLW).toBelow⟩
theorem ri135_13 : Gives 135 #[.float .f64 13840687554816376832, .float .f64 9218868437227405312] (.float .f64 13840687554816376832) := by
  intro w
  refine calls_cw Tryz.func135 rfl Tryz.ntmps135 rfl ?_
  have HF : Per (No) w (fun _ => True) := Per.true_
  have LW := Ext.refl (No) w
  have XLW : ∀ q9, (No) q9 → (No) q9 ∨ w.heap.size ≤ q9 := fun _ h => Or.inl h
  have E := Ext.refl (No) w
  refine cw_seq ?_
  refine cw_region ?_
  refine rs_op rfl (ow_assign rfl ?_)
  refine rs_nil ?_
  refine ew_next ?_
  refine cw_seq ?_
  refine cw_seq ?_
  refine cw_region ?_
  refine rs_op rfl (ow_move rfl ?_)
  refine rs_op rfl (ow_feql rfl rfl ?_)
  refine rs_set 11 (.bool false) rfl (by kernel_rfl : (.bool (ford 9218868437227405312 0 == some .eq) : Value) = _) ?_
  refine rs_op rfl (ow_move rfl ?_)
  refine rs_op rfl (ow_on rfl (ow_move rfl ?_))
  refine rs_op rfl (ow_on rfl (ow_enter en61 rfl ((ri61_7 _).mono ?_)))
  rintro e w1 ⟨rfl, hb⟩
  refine ⟨_, rfl, ?_⟩
  have Ec := Ext.of_below hb No
  replace E := E.trans Ec.no
  clear hb Ec
  refine rs_op rfl (ow_pickF rfl rfl ?_)
  refine rs_op rfl (ow_move rfl ?_)
  refine rs_op rfl (ow_on rfl (ow_move rfl ?_))
  refine rs_op rfl (ow_on rfl (ow_enter en138 rfl ((ri138_8 _).mono ?_)))
  rintro e w2 ⟨rfl, hb⟩
  refine ⟨_, rfl, ?_⟩
  have Ec := Ext.of_below hb No
  replace E := E.trans Ec.no
  clear hb Ec
  refine rs_op rfl (ow_pickF rfl rfl ?_)
  refine rs_op rfl (ow_move rfl ?_)
  refine rs_op rfl (ow_on rfl (ow_move rfl ?_))
  refine rs_op rfl (ow_on rfl (ow_enter en138 rfl ((ri138_9 _).mono ?_)))
  rintro e w3 ⟨rfl, hb⟩
  refine ⟨_, rfl, ?_⟩
  have Ec := Ext.of_below hb No
  replace E := E.trans Ec.no
  clear hb Ec
  refine rs_op rfl (ow_pickF rfl rfl ?_)
  refine rs_nil ?_
  refine ew_next ?_
  refine cw_else rfl ?_
  refine cw_skip ?_
  refine ew_next ?_
  refine cw_seq ?_
  refine cw_region ?_
  refine rs_op rfl (ow_move rfl ?_)
  refine rs_op rfl (ow_enter en71 rfl ((ri71_10 _).mono ?_))
  rintro e w4 ⟨rfl, hb⟩
  refine ⟨_, rfl, ?_⟩
  have Ec := Ext.of_below hb No
  replace E := E.trans Ec.no
  clear hb Ec
  refine rs_op rfl (ow_assign rfl ?_)
  refine rs_nil ?_
  refine ew_next ?_
  refine cw_seq ?_
  refine cw_region ?_
  refine rs_op rfl (ow_move rfl ?_)
  refine rs_op rfl (ow_enter en70 rfl ((ri70_13 _).mono ?_))
  rintro e w5 ⟨rfl, hb⟩
  refine ⟨_, rfl, ?_⟩
  have Ec := Ext.of_below hb No
  replace E := E.trans Ec.no
  clear hb Ec
  refine rs_op rfl (ow_move rfl ?_)
  refine rs_op rfl (ow_extract rfl rfl ?_)
  refine rs_op rfl (ow_extract rfl rfl ?_)
  refine rs_op rfl (ow_assign rfl ?_)
  refine rs_op rfl (ow_assign rfl ?_)
  refine rs_nil ?_
  refine ew_next ?_
  refine cw_seq ?_
  refine cw_region ?_
  refine rs_op rfl (ow_move rfl ?_)
  refine rs_op rfl (ow_assign rfl ?_)
  refine rs_nil ?_
  refine ew_next ?_
  refine cw_seq ?_
  refine cw_seq ?_
  refine cw_region ?_
  refine rs_op rfl (ow_move rfl ?_)
  refine rs_op rfl (ow_flss rfl rfl ?_)
  refine rs_set 34 (.bool true) rfl (by kernel_rfl : (.bool (ford 13840687554816376832 0 == some .lt) : Value) = _) ?_
  refine rs_nil ?_
  refine ew_next ?_
  refine cw_then rfl ?_
  refine cw_region ?_
  refine rs_op rfl (ow_move rfl ?_)
  refine rs_op rfl (ow_fneg rfl ?_)
  refine rs_set 36 (.float .f64 4617315517961601024) rfl (by kernel_rfl : (.float .f64 (13840687554816376832 ^^^ 9223372036854775808) : Value) = _) ?_
  refine rs_op rfl (ow_assign rfl ?_)
  refine rs_nil ?_
  refine ew_next ?_
  refine cw_seq ?_
  refine cw_block ?_
  refine cw_unroll ?_
  refine cw_seq ?_
  refine cw_seq ?_
  refine cw_region ?_
  refine rs_op rfl (ow_move rfl ?_)
  refine rs_op rfl (ow_move rfl ?_)
  refine rs_op rfl (ow_fgeq rfl rfl ?_)
  refine rs_set 39 (.bool false) rfl (by kernel_rfl : (.bool (ford 4617315517961601024 9218868437227405312 == some .gt || ford 4617315517961601024 9218868437227405312 == some .eq) : Value) = _) ?_
  refine rs_nil ?_
  refine ew_next ?_
  refine cw_else rfl ?_
  refine cw_exit ?_
  refine ew_then_exit ?_
  refine ew_then_exit ?_
  refine ew_block_here ?_
  refine ew_next ?_
  refine cw_seq ?_
  refine cw_seq ?_
  refine cw_region ?_
  refine rs_op rfl (ow_move rfl ?_)
  refine rs_op rfl (ow_flss rfl rfl ?_)
  refine rs_set 58 (.bool true) rfl (by kernel_rfl : (.bool (ford 13840687554816376832 0 == some .lt) : Value) = _) ?_
  refine rs_nil ?_
  refine ew_next ?_
  refine cw_then rfl ?_
  refine cw_region ?_
  refine rs_op rfl (ow_move rfl ?_)
  refine rs_op rfl (ow_fneg rfl ?_)
  refine rs_set 60 (.float .f64 13840687554816376832) rfl (by kernel_rfl : (.float .f64 (4617315517961601024 ^^^ 9223372036854775808) : Value) = _) ?_
  refine rs_op rfl (ow_assign rfl ?_)
  refine rs_nil ?_
  refine ew_next ?_
  refine cw_seq ?_
  refine cw_region ?_
  refine rs_op rfl (ow_move rfl ?_)
  refine rs_op rfl (ow_assign rfl ?_)
  refine rs_nil ?_
  refine ew_next ?_
  refine cw_ret ?_
  refine ew_ret (rs := [.tmp 4]) (vs := [.float .f64 13840687554816376832]) rfl ⟨rfl, trivial⟩ ?_
  exact ⟨rfl, (LW.step E XLW).toBelow⟩
theorem ri102_13 : Gives 102 #[.float .f64 13840687554816376832, .float .f64 9218868437227405312] (.float .f64 13840687554816376832) := by
  intro w
  refine calls_cw Tryz.func102 rfl Tryz.ntmps102 rfl ?_
  have HF : Per (No) w (fun _ => True) := Per.true_
  have LW := Ext.refl (No) w
  have XLW : ∀ q9, (No) q9 → (No) q9 ∨ w.heap.size ≤ q9 := fun _ h => Or.inl h
  have E := Ext.refl (No) w
  refine cw_seq ?_
  refine cw_region ?_
  refine rs_op rfl (ow_assign rfl ?_)
  refine rs_nil ?_
  refine ew_next ?_
  refine cw_seq ?_
  refine cw_else rfl ?_
  refine cw_skip ?_
  refine ew_next ?_
  refine cw_seq ?_
  refine cw_region ?_
  refine rs_op rfl (ow_move rfl ?_)
  refine rs_op rfl (ow_move rfl ?_)
  refine rs_op rfl (ow_enter en135 rfl ((ri135_13 _).mono ?_))
  rintro e w1 ⟨rfl, hb⟩
  refine ⟨_, rfl, ?_⟩
  have Ec := Ext.of_below hb No
  replace E := E.trans Ec.no
  clear hb Ec
  refine rs_op rfl (ow_assign rfl ?_)
  refine rs_nil ?_
  refine ew_next ?_
  refine cw_ret ?_
  refine ew_ret (rs := [.tmp 4]) (vs := [.float .f64 13840687554816376832]) rfl ⟨rfl, trivial⟩ ?_
  exact ⟨rfl, (LW.step E XLW).toBelow⟩
theorem ri103_14 : Gives 103 #[.float .f64 13830554455654793216] (.float .f64 13830554455654793216) := by
  intro w
  refine calls_cw Tryz.func103 rfl Tryz.ntmps103 rfl ?_
  have HF : Per (No) w (fun _ => True) := Per.true_
  have LW := Ext.refl (No) w
  have XLW : ∀ q9, (No) q9 → (No) q9 ∨ w.heap.size ≤ q9 := fun _ h => Or.inl h
  have E := Ext.refl (No) w
  refine cw_seq ?_
  refine cw_region ?_
  refine rs_op rfl (ow_assign rfl ?_)
  refine rs_nil ?_
  refine ew_next ?_
  refine cw_seq ?_
  refine cw_then rfl ?_
  refine cw_seq ?_
  refine cw_region ?_
  refine rs_op rfl (ow_move rfl ?_)
  refine rs_op rfl (ow_round ex136 rfl (by kernel_rfl) ?_)
  refine rs_set 4 (.float .f64 13830554455654793216) rfl (by kernel_rfl : (.float .f64 (fround .down 13830554455654793216) : Value) = _) ?_
  refine rs_op rfl (ow_assign rfl ?_)
  refine rs_nil ?_
  refine ew_next ?_
  refine cw_ret ?_
  refine ew_then_ret ?_
  refine ew_ret (rs := [.tmp 2]) (vs := [.float .f64 13830554455654793216]) rfl ⟨rfl, trivial⟩ ?_
  exact ⟨rfl, (LW.step E XLW).toBelow⟩
theorem ri66_14 : Gives 66 #[.float .f64 13840687554816376832, .float .f64 9218868437227405312] (.tuple #[.float .f64 13830554455654793216, .float .f64 9218868437227405312]) := by
  intro w
  refine calls_cw Tryz.func66 rfl Tryz.ntmps66 rfl ?_
  have HF : Per (No) w (fun _ => True) := Per.true_
  have LW := Ext.refl (No) w
  have XLW : ∀ q9, (No) q9 → (No) q9 ∨ w.heap.size ≤ q9 := fun _ h => Or.inl h
  have E := Ext.refl (No) w
  refine cw_seq ?_
  refine cw_region ?_
  refine rs_op rfl (ow_assign rfl ?_)
  refine rs_op rfl (ow_assign rfl ?_)
  refine rs_nil ?_
  refine ew_next ?_
  refine cw_seq ?_
  refine cw_region ?_
  refine rs_op rfl (ow_move rfl ?_)
  refine rs_op rfl (ow_move rfl ?_)
  refine rs_op rfl (ow_enter en102 rfl ((ri102_13 _).mono ?_))
  rintro e w1 ⟨rfl, hb⟩
  refine ⟨_, rfl, ?_⟩
  have Ec := Ext.of_below hb No
  replace E := E.trans Ec.no
  clear hb Ec
  refine rs_op rfl (ow_assign rfl ?_)
  refine rs_nil ?_
  refine ew_next ?_
  refine cw_seq ?_
  refine cw_region ?_
  refine rs_op rfl (ow_move rfl ?_)
  refine rs_op rfl (ow_move rfl ?_)
  refine rs_op rfl (ow_fV (z := 0) (.inr (.inl rfl)) rfl rfl (by kernel_rfl) ?_)
  refine rs_op rfl (ow_move rfl ?_)
  refine rs_op rfl (ow_fV (z := 0) (.inr (.inr (.inr rfl))) rfl rfl (by kernel_rfl) ?_)
  refine rs_op rfl (ow_assign rfl ?_)
  refine rs_nil ?_
  refine ew_next ?_
  refine cw_seq ?_
  refine cw_seq ?_
  refine cw_region ?_
  refine rs_op rfl (ow_move rfl ?_)
  refine rs_op rfl (ow_fneq rfl rfl ?_)
  refine rs_set 18 (.bool true) rfl (by kernel_rfl : (.bool (ford 13840687554816376832 0 != some .eq) : Value) = _) ?_
  refine rs_nil ?_
  refine ew_next ?_
  refine cw_then rfl ?_
  refine cw_seq ?_
  refine cw_region ?_
  refine rs_op rfl (ow_move rfl ?_)
  refine rs_op rfl (ow_flss rfl rfl ?_)
  refine rs_set 20 (.bool true) rfl (by kernel_rfl : (.bool (ford 13840687554816376832 0 == some .lt) : Value) = _) ?_
  refine rs_op rfl (ow_move rfl ?_)
  refine rs_op rfl (ow_flss rfl rfl ?_)
  refine rs_set 22 (.bool false) rfl (by kernel_rfl : (.bool (ford 9218868437227405312 0 == some .lt) : Value) = _) ?_
  refine rs_op rfl (ow_neqB Tryz.underlying4 rfl rfl ?_)
  refine rs_nil ?_
  refine ew_next ?_
  refine cw_then rfl ?_
  refine cw_seq ?_
  refine cw_region ?_
  refine rs_op rfl (ow_move rfl ?_)
  refine rs_op rfl (ow_move rfl ?_)
  refine rs_op rfl (ow_fV (z := 9218868437227405312) (.inl rfl) rfl rfl (by kernel_rfl) ?_)
  refine rs_op rfl (ow_assign rfl ?_)
  refine rs_nil ?_
  refine ew_next ?_
  refine cw_region ?_
  refine rs_op rfl (ow_move rfl ?_)
  refine rs_op rfl (ow_fV (z := 13830554455654793216) (.inr (.inl rfl)) rfl rfl (by kernel_rfl) ?_)
  refine rs_op rfl (ow_assign rfl ?_)
  refine rs_nil ?_
  refine ew_next ?_
  refine cw_seq ?_
  refine cw_seq ?_
  refine cw_region ?_
  refine rs_op rfl (ow_move rfl ?_)
  refine rs_op rfl (ow_feql rfl rfl ?_)
  refine rs_set 32 (.bool false) rfl (by kernel_rfl : (.bool (ford 13830554455654793216 0 == some .eq) : Value) = _) ?_
  refine rs_nil ?_
  refine ew_next ?_
  refine cw_else rfl ?_
  refine cw_skip ?_
  refine ew_next ?_
  refine cw_seq ?_
  refine cw_region ?_
  refine rs_op rfl (ow_move rfl ?_)
  refine rs_op rfl (ow_enter en103 rfl ((ri103_14 _).mono ?_))
  rintro e w2 ⟨rfl, hb⟩
  refine ⟨_, rfl, ?_⟩
  have Ec := Ext.of_below hb No
  replace E := E.trans Ec.no
  clear hb Ec
  refine rs_op rfl (ow_assign rfl ?_)
  refine rs_nil ?_
  refine ew_next ?_
  refine cw_seq ?_
  refine cw_seq ?_
  refine cw_region ?_
  refine rs_op rfl (ow_move rfl ?_)
  refine rs_op rfl (ow_move rfl ?_)
  refine rs_op rfl (ow_fV (z := 0) (.inr (.inl rfl)) rfl rfl (by kernel_rfl) ?_)
  refine rs_op rfl (ow_fgtr rfl rfl ?_)
  refine rs_set 43 (.bool false) rfl (by kernel_rfl : (.bool (ford 0 4602678819172646912 == some .gt) : Value) = _) ?_
  refine rs_nil ?_
  refine ew_next ?_
  refine cw_else rfl ?_
  refine cw_skip ?_
  refine ew_next ?_
  refine cw_seq ?_
  refine cw_region ?_
  refine rs_op rfl (ow_move rfl ?_)
  refine rs_op rfl (ow_move rfl ?_)
  refine rs_op rfl (ow_assign rfl ?_)
  refine rs_op rfl (ow_assign rfl ?_)
  refine rs_nil ?_
  refine ew_next ?_
  refine cw_ret ?_
  refine ew_ret (rs := [.tmp 4, .tmp 5]) (vs := [.float .f64 13830554455654793216, .float .f64 9218868437227405312]) rfl ⟨rfl, rfl, trivial⟩ ?_
  exact ⟨rfl, (LW.step E XLW).toBelow⟩
theorem ri57_15 : Gives 57 #[.float .f64 9218868437227405312] (.int .u64 9218868437227405312) := by
  intro w
  refine calls_cw Tryz.func57 rfl Tryz.ntmps57 rfl ?_
  have HF : Per (No) w (fun _ => True) := Per.true_
  have LW := Ext.refl (No) w
  have XLW : ∀ q9, (No) q9 → (No) q9 ∨ w.heap.size ≤ q9 := fun _ h => Or.inl h
  have E := Ext.refl (No) w
  refine cw_seq ?_
  refine cw_region ?_
  refine rs_op rfl (ow_assign rfl ?_)
  refine rs_nil ?_
  refine ew_next ?_
  refine cw_seq ?_
  refine cw_seq ?_
  refine cw_region ?_
  refine rs_op rfl (ow_move rfl ?_)
  refine rs_op rfl (ow_move rfl ?_)
  refine rs_op rfl (ow_fneq rfl rfl ?_)
  refine rs_set 5 (.bool false) rfl (by kernel_rfl : (.bool (ford 9218868437227405312 9218868437227405312 != some .eq) : Value) = _) ?_
  refine rs_nil ?_
  refine ew_next ?_
  refine cw_else rfl ?_
  refine cw_skip ?_
  refine ew_next ?_
  refine cw_seq ?_
  refine cw_region ?_
  refine rs_op rfl (ow_move rfl ?_)
  refine rs_op rfl (ow_bits ex59 rfl ?_)
  refine rs_op rfl (ow_assign rfl ?_)
  refine rs_nil ?_
  refine ew_next ?_
  refine cw_ret ?_
  refine ew_ret (rs := [.tmp 2]) (vs := [.int .u64 9218868437227405312]) rfl ⟨rfl, trivial⟩ ?_
  exact ⟨rfl, (LW.step E XLW).toBelow⟩
theorem ri21_15 : Gives 21 #[.int .u64 13840687554816376832, .int .u64 9218868437227405312] (.tuple #[.int .u64 9218868437227405312, .int .i64 0]) := by
  intro w
  refine calls_cw Tryz.func21 rfl Tryz.ntmps21 rfl ?_
  have HF : Per (No) w (fun _ => True) := Per.true_
  have LW := Ext.refl (No) w
  have XLW : ∀ q9, (No) q9 → (No) q9 ∨ w.heap.size ≤ q9 := fun _ h => Or.inl h
  have E := Ext.refl (No) w
  refine cw_seq ?_
  refine cw_region ?_
  refine rs_op rfl (ow_assign rfl ?_)
  refine rs_op rfl (ow_assign rfl ?_)
  refine rs_nil ?_
  refine ew_next ?_
  refine cw_seq ?_
  refine cw_region ?_
  refine rs_op rfl (ow_move rfl ?_)
  refine rs_op rfl (ow_frombits (b := 9218868437227405312) ex60 rfl ?_)
  refine rs_op rfl (ow_assign rfl ?_)
  refine rs_nil ?_
  refine ew_next ?_
  refine cw_seq ?_
  refine cw_seq ?_
  refine cw_region ?_
  refine rs_op rfl (ow_move rfl ?_)
  refine rs_op rfl (ow_feql rfl rfl ?_)
  refine rs_set 12 (.bool false) rfl (by kernel_rfl : (.bool (ford 9218868437227405312 0 == some .eq) : Value) = _) ?_
  refine rs_nil ?_
  refine ew_next ?_
  refine cw_else rfl ?_
  refine cw_skip ?_
  refine ew_next ?_
  refine cw_seq ?_
  refine cw_region ?_
  refine rs_op rfl (ow_move rfl ?_)
  refine rs_op rfl (ow_frombits (b := 13840687554816376832) ex60 rfl ?_)
  refine rs_op rfl (ow_move rfl ?_)
  refine rs_op rfl (ow_enter en66 rfl ((ri66_14 _).mono ?_))
  rintro e w1 ⟨rfl, hb⟩
  refine ⟨_, rfl, ?_⟩
  have Ec := Ext.of_below hb No
  replace E := E.trans Ec.no
  clear hb Ec
  refine rs_op rfl (ow_move rfl ?_)
  refine rs_op rfl (ow_extract rfl rfl ?_)
  refine rs_op rfl (ow_extract rfl rfl ?_)
  refine rs_op rfl (ow_assign rfl ?_)
  refine rs_op rfl (ow_assign rfl ?_)
  refine rs_nil ?_
  refine ew_next ?_
  refine cw_seq ?_
  refine cw_region ?_
  refine rs_op rfl (ow_move rfl ?_)
  refine rs_op rfl (ow_enter en57 rfl ((ri57_15 _).mono ?_))
  rintro e w2 ⟨rfl, hb⟩
  refine ⟨_, rfl, ?_⟩
  have Ec := Ext.of_below hb No
  replace E := E.trans Ec.no
  clear hb Ec
  refine rs_op rfl (ow_assign rfl ?_)
  refine rs_op rfl (ow_assign rfl ?_)
  refine rs_nil ?_
  refine ew_next ?_
  refine cw_ret ?_
  refine ew_ret (rs := [.tmp 4, .tmp 5]) (vs := [.int .u64 9218868437227405312, .int .i64 0]) rfl ⟨rfl, rfl, trivial⟩ ?_
  exact ⟨rfl, (LW.step E XLW).toBelow⟩
theorem ri123_19 : Gives 123 #[.string ⟨#[45, 110, 97, 110]⟩, .string ⟨#[45]⟩] (.bool true) := by
  intro w
  refine calls_cw Tryz.func123 rfl Tryz.ntmps123 rfl ?_
  have HF : Per (No) w (fun _ => True) := Per.true_
  have LW := Ext.refl (No) w
  have XLW : ∀ q9, (No) q9 → (No) q9 ∨ w.heap.size ≤ q9 := fun _ h => Or.inl h
  have E := Ext.refl (No) w
  refine cw_seq ?_
  refine cw_region ?_
  refine rs_op rfl (ow_assign rfl ?_)
  refine rs_nil ?_
  refine ew_next ?_
  refine cw_seq ?_
  refine cw_region ?_
  refine rs_op rfl (ow_move rfl ?_)
  refine rs_op rfl (ow_lenS Tryz.underlying9 rfl ?_)
  refine rs_op rfl (ow_move rfl ?_)
  refine rs_op rfl (ow_lenS Tryz.underlying9 rfl ?_)
  refine rs_op rfl (ow_geq rfl rfl ?_)
  refine rs_op rfl (ow_move rfl ?_)
  refine rs_op rfl (ow_on rfl (ow_move rfl ?_))
  refine rs_op rfl (ow_on rfl (ow_move rfl ?_))
  refine rs_op rfl (ow_on rfl (ow_lenS Tryz.underlying9 rfl ?_))
  refine rs_op rfl (ow_on rfl (ow_sliceS (l := 0) (h := 1) Tryz.underlying9 rfl rfl ⟨_, rfl⟩ (by decide) (by decide) ?_))
  refine rs_set 14 (.string ⟨#[45]⟩) rfl (by kernel_rfl : (.string ((⟨#[45, 110, 97, 110]⟩ : ByteArray).extract 0 1) : Value) = _) ?_
  refine rs_op rfl (ow_on rfl (ow_move rfl ?_))
  refine rs_op rfl (ow_on rfl (ow_eqlS rfl rfl ?_))
  refine rs_set 16 (.bool true) rfl (by simp only [bytes_list]; rfl : (.bool ((⟨#[45]⟩ : ByteArray).toList == (⟨#[45]⟩ : ByteArray).toList) : Value) = _) ?_
  refine rs_op rfl (ow_pickT rfl rfl ?_)
  refine rs_op rfl (ow_assign rfl ?_)
  refine rs_nil ?_
  refine ew_next ?_
  refine cw_ret ?_
  refine ew_ret (rs := [.tmp 4]) (vs := [.bool true]) rfl ⟨rfl, trivial⟩ ?_
  exact ⟨rfl, (LW.step E XLW).toBelow⟩
theorem ri92_19 : Gives 92 #[.string ⟨#[45, 110, 97, 110]⟩, .string ⟨#[45]⟩] (.tuple #[.string ⟨#[110, 97, 110]⟩, .bool true]) := by
  intro w
  refine calls_cw Tryz.func92 rfl Tryz.ntmps92 rfl ?_
  have HF : Per (No) w (fun _ => True) := Per.true_
  have LW := Ext.refl (No) w
  have XLW : ∀ q9, (No) q9 → (No) q9 ∨ w.heap.size ≤ q9 := fun _ h => Or.inl h
  have E := Ext.refl (No) w
  refine cw_seq ?_
  refine cw_region ?_
  refine rs_op rfl (ow_assign rfl ?_)
  refine rs_op rfl (ow_assign rfl ?_)
  refine rs_nil ?_
  refine ew_next ?_
  refine cw_seq ?_
  refine cw_seq ?_
  refine cw_region ?_
  refine rs_op rfl (ow_move rfl ?_)
  refine rs_op rfl (ow_move rfl ?_)
  refine rs_op rfl (ow_enter en123 rfl ((ri123_19 _).mono ?_))
  rintro e w1 ⟨rfl, hb⟩
  refine ⟨_, rfl, ?_⟩
  have Ec := Ext.of_below hb No
  replace E := E.trans Ec.no
  clear hb Ec
  refine rs_op rfl (ow_not rfl ?_)
  refine rs_nil ?_
  refine ew_next ?_
  refine cw_else rfl ?_
  refine cw_skip ?_
  refine ew_next ?_
  refine cw_seq ?_
  refine cw_region ?_
  refine rs_op rfl (ow_move rfl ?_)
  refine rs_op rfl (ow_move rfl ?_)
  refine rs_op rfl (ow_lenS Tryz.underlying9 rfl ?_)
  refine rs_op rfl (ow_sliceS (l := 1) (h := 4) Tryz.underlying9 rfl ⟨_, rfl⟩ rfl (by decide) (by decide) ?_)
  refine rs_set 14 (.string ⟨#[110, 97, 110]⟩) rfl (by kernel_rfl : (.string ((⟨#[45, 110, 97, 110]⟩ : ByteArray).extract 1 4) : Value) = _) ?_
  refine rs_op rfl (ow_assign rfl ?_)
  refine rs_op rfl (ow_assign rfl ?_)
  refine rs_nil ?_
  refine ew_next ?_
  refine cw_ret ?_
  refine ew_ret (rs := [.tmp 4, .tmp 5]) (vs := [.string ⟨#[110, 97, 110]⟩, .bool true]) rfl ⟨rfl, rfl, trivial⟩ ?_
  exact ⟨rfl, (LW.step E XLW).toBelow⟩
theorem ri52_19 : Gives 52 #[.string ⟨#[45, 110, 97, 110]⟩, .string ⟨#[45]⟩] (.tuple #[.string ⟨#[110, 97, 110]⟩, .bool true]) := by
  intro w
  refine calls_cw Tryz.func52 rfl Tryz.ntmps52 rfl ?_
  have HF : Per (No) w (fun _ => True) := Per.true_
  have LW := Ext.refl (No) w
  have XLW : ∀ q9, (No) q9 → (No) q9 ∨ w.heap.size ≤ q9 := fun _ h => Or.inl h
  have E := Ext.refl (No) w
  refine cw_seq ?_
  refine cw_region ?_
  refine rs_op rfl (ow_assign rfl ?_)
  refine rs_op rfl (ow_assign rfl ?_)
  refine rs_nil ?_
  refine ew_next ?_
  refine cw_seq ?_
  refine cw_region ?_
  refine rs_op rfl (ow_move rfl ?_)
  refine rs_op rfl (ow_move rfl ?_)
  refine rs_op rfl (ow_enter en92 rfl ((ri92_19 _).mono ?_))
  rintro e w1 ⟨rfl, hb⟩
  refine ⟨_, rfl, ?_⟩
  have Ec := Ext.of_below hb No
  replace E := E.trans Ec.no
  clear hb Ec
  refine rs_op rfl (ow_extract rfl rfl ?_)
  refine rs_op rfl (ow_extract rfl rfl ?_)
  refine rs_op rfl (ow_assign rfl ?_)
  refine rs_op rfl (ow_assign rfl ?_)
  refine rs_nil ?_
  refine ew_next ?_
  refine cw_ret ?_
  refine ew_ret (rs := [.tmp 4, .tmp 5]) (vs := [.string ⟨#[110, 97, 110]⟩, .bool true]) rfl ⟨rfl, rfl, trivial⟩ ?_
  exact ⟨rfl, (LW.step E XLW).toBelow⟩
theorem ri14_19 : Gives 14 #[.string ⟨#[45, 110, 97, 110]⟩] (.tuple #[.int .u64 9221120237041090560, .int .i64 0]) := by
  intro w
  refine calls_cw Tryz.func14 rfl Tryz.ntmps14 rfl ?_
  have HF : Per (No) w (fun _ => True) := Per.true_
  have LW := Ext.refl (No) w
  have XLW : ∀ q9, (No) q9 → (No) q9 ∨ w.heap.size ≤ q9 := fun _ h => Or.inl h
  have E := Ext.refl (No) w
  refine cw_seq ?_
  refine cw_region ?_
  refine rs_op rfl (ow_assign rfl ?_)
  refine rs_op rfl (ow_assign rfl ?_)
  refine rs_nil ?_
  refine ew_next ?_
  refine cw_seq ?_
  refine cw_seq ?_
  refine cw_region ?_
  refine rs_op rfl (ow_move rfl ?_)
  refine rs_op rfl (ow_lenS Tryz.underlying9 rfl ?_)
  refine rs_op rfl (ow_gtr rfl rfl ?_)
  refine rs_nil ?_
  refine ew_next ?_
  refine cw_else rfl ?_
  refine cw_skip ?_
  refine ew_next ?_
  refine cw_seq ?_
  refine cw_region ?_
  refine rs_op rfl (ow_move rfl ?_)
  refine rs_op rfl (ow_enter en52 rfl ((ri52_19 _).mono ?_))
  rintro e w1 ⟨rfl, hb⟩
  refine ⟨_, rfl, ?_⟩
  have Ec := Ext.of_below hb No
  replace E := E.trans Ec.no
  clear hb Ec
  refine rs_op rfl (ow_move rfl ?_)
  refine rs_op rfl (ow_extract rfl rfl ?_)
  refine rs_op rfl (ow_extract rfl rfl ?_)
  refine rs_op rfl (ow_assign rfl ?_)
  refine rs_op rfl (ow_assign rfl ?_)
  refine rs_nil ?_
  refine ew_next ?_
  refine cw_seq ?_
  refine cw_region ?_
  refine rs_op rfl (ow_assign rfl ?_)
  refine rs_nil ?_
  refine ew_next ?_
  refine cw_seq ?_
  refine cw_block ?_
  refine cw_seq ?_
  refine cw_region ?_
  refine rs_op rfl (ow_move rfl ?_)
  refine rs_op rfl (ow_eqlS rfl rfl ?_)
  refine rs_set 17 (.bool false) rfl (by simp only [bytes_list]; rfl : (.bool ((⟨#[110, 97, 110]⟩ : ByteArray).toList == (⟨#[105, 110, 102]⟩ : ByteArray).toList) : Value) = _) ?_
  refine rs_op rfl (ow_assign rfl ?_)
  refine rs_nil ?_
  refine ew_next ?_
  refine cw_else rfl ?_
  refine cw_seq ?_
  refine cw_region ?_
  refine rs_op rfl (ow_move rfl ?_)
  refine rs_op rfl (ow_eqlS rfl rfl ?_)
  refine rs_set 21 (.bool true) rfl (by simp only [bytes_list]; rfl : (.bool ((⟨#[110, 97, 110]⟩ : ByteArray).toList == (⟨#[110, 97, 110]⟩ : ByteArray).toList) : Value) = _) ?_
  refine rs_op rfl (ow_assign rfl ?_)
  refine rs_nil ?_
  refine ew_next ?_
  refine cw_then rfl ?_
  refine cw_seq ?_
  refine cw_region ?_
  refine rs_op rfl (ow_assign rfl ?_)
  refine rs_op rfl (ow_assign rfl ?_)
  refine rs_nil ?_
  refine ew_next ?_
  refine cw_ret ?_
  refine ew_block_ret ?_
  refine ew_then_ret ?_
  refine ew_ret (rs := [.tmp 2, .tmp 3]) (vs := [.int .u64 9221120237041090560, .int .i64 0]) rfl ⟨rfl, rfl, trivial⟩ ?_
  exact ⟨rfl, (LW.step E XLW).toBelow⟩
theorem ri71_22 : Gives 71 #[.float .f64 9223372036854775808] (.float .f64 0) := by
  intro w
  refine calls_cw Tryz.func71 rfl Tryz.ntmps71 rfl ?_
  have HF : Per (No) w (fun _ => True) := Per.true_
  have LW := Ext.refl (No) w
  have XLW : ∀ q9, (No) q9 → (No) q9 ∨ w.heap.size ≤ q9 := fun _ h => Or.inl h
  have E := Ext.refl (No) w
  refine cw_seq ?_
  refine cw_region ?_
  refine rs_op rfl (ow_assign rfl ?_)
  refine rs_nil ?_
  refine ew_next ?_
  refine cw_seq ?_
  refine cw_region ?_
  refine rs_op rfl (ow_move rfl ?_)
  refine rs_op rfl (ow_bits ex59 rfl ?_)
  refine rs_op rfl (ow_andNot (z := 0) rfl rfl (by kernel_rfl) ?_)
  refine rs_op rfl (ow_frombits (b := 0) ex60 rfl ?_)
  refine rs_op rfl (ow_assign rfl ?_)
  refine rs_nil ?_
  refine ew_next ?_
  refine cw_ret ?_
  refine ew_ret (rs := [.tmp 2]) (vs := [.float .f64 0]) rfl ⟨rfl, trivial⟩ ?_
  exact ⟨rfl, (LW.step E XLW).toBelow⟩
theorem ri61_22 : Gives 61 #[.float .f64 9223372036854775808, .int .i64 0] (.bool false) := by
  intro w
  refine calls_cw Tryz.func61 rfl Tryz.ntmps61 rfl ?_
  have HF : Per (No) w (fun _ => True) := Per.true_
  have LW := Ext.refl (No) w
  have XLW : ∀ q9, (No) q9 → (No) q9 ∨ w.heap.size ≤ q9 := fun _ h => Or.inl h
  have E := Ext.refl (No) w
  refine cw_seq ?_
  refine cw_region ?_
  refine rs_op rfl (ow_assign rfl ?_)
  refine rs_nil ?_
  refine ew_next ?_
  refine cw_seq ?_
  refine cw_seq ?_
  refine cw_region ?_
  refine rs_op rfl (ow_move rfl ?_)
  refine rs_op rfl (ow_eql rfl rfl ?_)
  refine rs_nil ?_
  refine ew_next ?_
  refine cw_then rfl ?_
  refine cw_region ?_
  refine rs_op rfl (ow_move rfl ?_)
  refine rs_op rfl (ow_enter en71 rfl ((ri71_22 _).mono ?_))
  rintro e w1 ⟨rfl, hb⟩
  refine ⟨_, rfl, ?_⟩
  have Ec := Ext.of_below hb No
  replace E := E.trans Ec.no
  clear hb Ec
  refine rs_op rfl (ow_assign rfl ?_)
  refine rs_nil ?_
  refine ew_next ?_
  refine cw_seq ?_
  refine cw_region ?_
  refine rs_op rfl (ow_move rfl ?_)
  refine rs_op rfl (ow_fgtr rfl rfl ?_)
  refine rs_set 14 (.bool false) rfl (by kernel_rfl : (.bool (ford 0 9218868437227405311 == some .gt) : Value) = _) ?_
  refine rs_op rfl (ow_assign rfl ?_)
  refine rs_nil ?_
  refine ew_next ?_
  refine cw_ret ?_
  refine ew_ret (rs := [.tmp 4]) (vs := [.bool false]) rfl ⟨rfl, trivial⟩ ?_
  exact ⟨rfl, (LW.step E XLW).toBelow⟩
theorem hashes_law (w : World) (a : Nat) (n1 : Bool) (A : Option Addr) (c : Nat) (xs : List Nat) (ha : a < 18446744073709551616) (hx : Nums w A xs) (hl : xs.length ≤ 9223372036854775807) (hT : ∀ b, Below w.heap.size w b → Ten b) (hD : ∀ b, Below w.heap.size w b → TabD b) :
    Calls Tryz.prog 8 #[.int .u64 ((a : Nat) : Int), .agg #[.bool n1, .slice A xs.length c]] w fun e w' => e = .returned (.bool true) ∧ Below w.heap.size w w' := by
  refine calls_cw Tryz.func8 rfl Tryz.ntmps8 rfl ?_
  have HF : Per (No) w (fun _ => True) := Per.true_
  have LW := Ext.refl (No) w
  have XLW : ∀ q9, (No) q9 → (No) q9 ∨ w.heap.size ≤ q9 := fun _ h => Or.inl h
  have E := Ext.refl (No) w
  replace HF := HF.on E
  replace LW := LW.step E XLW
  replace E := Ext.refl (No) w
  replace HF := HF.and (Per.nums0 hx)
  replace HF := HF.on E
  replace LW := LW.step E XLW
  replace E := Ext.refl (No) w
  replace HF := HF.and (per_later hT)
  replace HF := HF.on E
  replace LW := LW.step E XLW
  replace E := Ext.refl (No) w
  replace HF := HF.and (per_later hD)
  refine cw_seq ?_
  refine cw_region ?_
  refine rs_op rfl (ow_boxB rfl ?_)
  intro gb1 w2 Bb1 Eb1 Gb1
  have Gb1 : _ ≤ gb1 := Nat.le_trans E.size Gb1
  have GLb1 := Nat.le_trans LW.size Gb1
  replace E := E.trans Eb1.no
  clear Eb1
  replace HF := HF.cons (some_ge Gb1)
  replace E := E.cons (some gb1)
  replace XLW := Mut.grow XLW (fun k e => Or.inr (Nat.le_trans LW.size ((some_ge Gb1) k e)))
  replace HF := HF.on E
  replace LW := LW.step E XLW
  have SB : ∀ q9, No q9 → Mut [(some gb1)] q9 := (Mut.skip Mut.nil_)
  replace HF := HF.less SB
  replace XLW := fun k h => XLW k (SB k h)
  clear SB
  replace E := Ext.refl (No) w2
  replace HF := HF.and (Per.blkN Bb1 NotIn.nil)
  clear Bb1
  refine rs_op rfl (ow_assign rfl ?_)
  refine rs_nil ?_
  refine ew_next ?_
  refine cw_seq ?_
  have OY : ∀ q9, (Mut (outM [])) q9 → q9 < (World.drew w2).heap.size → (No) q9 := fun k h _ => (Mut.none_) k h
  refine cw_drawn (No) Mut.none_ [] [] (fxAt [Fx.of (.bool true),
      Fx.of (.bool true),
      Fx.of (.int .u64 ((a : Nat) : Int)),
      Fx.of (.int .i64 (hashF a)),
      Fx.of (.int .u64 ((a : Nat) : Int)),
      Fx.of (.int .i64 (hashF a)),
      Fx.of (.bool true),
      Fx.of (.bool true),
      Fx.of (.bool true),
      Fx.of (.agg #[.bool n1, .slice A xs.length c]),
      Fx.of (.int .i64 (hashO n1 xs)),
      Fx.of (.agg #[.bool n1, .slice A xs.length c]),
      Fx.of (.int .i64 (hashO n1 xs)),
      Fx.of (.bool true),
      Fx.of (.bool true),
      Fx.of (.bool true)]) mixed rfl trivial (fun _ h => by cases h) ?_ ?_
  · refine ⟨?_, ?_, ?_, ?_, ?_, ?_, ?_, ?_, ?_, ?_, ?_, ?_, ?_, ?_, ?_, ?_, trivial⟩
    · intro vs X wq K
      have LE := K.1
      have XN := K.2.1
      have SQ := Nat.le_trans LW.size (Nat.le_trans E.size LE.size)
      refine ow_enter en16 rfl ((known_any _ (HF.on (E.drew.trans (LE.mono OY))).here.1.1.2 (HF.on (E.drew.trans (LE.mono OY))).here.1.2).mono ?_)
      rintro e w2 ⟨rfl, hb⟩
      exact ⟨_, rfl, hb, Left.of rfl⟩
    · intro vs X wq K
      have LE := K.1
      have XN := K.2.1
      have SQ := Nat.le_trans LW.size (Nat.le_trans E.size LE.size)
      obtain ⟨_, e0, k0⟩ := K.dep 0 rfl rfl rfl
      refine ow_set 5 (.bool true) rfl e0 ?_
      exact ow_move rfl ⟨Below.refl _ _, Left.of rfl⟩
    · intro vs X wq K
      have LE := K.1
      have XN := K.2.1
      have SQ := Nat.le_trans LW.size (Nat.le_trans E.size LE.size)
      obtain ⟨_, e1, k1⟩ := K.dep 1 rfl rfl rfl
      refine ow_set 6 (.bool true) rfl e1 ?_
      exact ow_on rfl (ow_move rfl ⟨Below.refl _ _, Left.of rfl⟩)
    · intro vs X wq K
      have LE := K.1
      have XN := K.2.1
      have SQ := Nat.le_trans LW.size (Nat.le_trans E.size LE.size)
      obtain ⟨_, e2, k2⟩ := K.dep 2 rfl rfl rfl
      refine ow_set 7 (.int .u64 ((a : Nat) : Int)) rfl e2 ?_
      obtain ⟨_, e1, k1⟩ := K.dep 1 rfl rfl rfl
      refine ow_set 6 (.bool true) rfl e1 ?_
      refine ow_on rfl (ow_enter en36 rfl ((hash_any _ a ha).mono ?_))
      rintro e w2 ⟨rfl, hb⟩
      exact ⟨_, rfl, hb, Left.of rfl⟩
    · intro vs X wq K
      have LE := K.1
      have XN := K.2.1
      have SQ := Nat.le_trans LW.size (Nat.le_trans E.size LE.size)
      obtain ⟨_, e1, k1⟩ := K.dep 1 rfl rfl rfl
      refine ow_set 6 (.bool true) rfl e1 ?_
      exact ow_on rfl (ow_move rfl ⟨Below.refl _ _, Left.of rfl⟩)
    · intro vs X wq K
      have LE := K.1
      have XN := K.2.1
      have SQ := Nat.le_trans LW.size (Nat.le_trans E.size LE.size)
      obtain ⟨_, e4, k4⟩ := K.dep 4 rfl rfl rfl
      refine ow_set 9 (.int .u64 ((a : Nat) : Int)) rfl e4 ?_
      obtain ⟨_, e1, k1⟩ := K.dep 1 rfl rfl rfl
      refine ow_set 6 (.bool true) rfl e1 ?_
      refine ow_on rfl (ow_enter en37 rfl ((rhash_any _ a ha).mono ?_))
      rintro e w2 ⟨rfl, hb⟩
      exact ⟨_, rfl, hb, Left.of rfl⟩
    · intro vs X wq K
      have LE := K.1
      have XN := K.2.1
      have SQ := Nat.le_trans LW.size (Nat.le_trans E.size LE.size)
      obtain ⟨_, e3, k3⟩ := K.dep 3 rfl rfl rfl
      refine ow_set 8 (.int .i64 (hashF a)) rfl e3 ?_
      obtain ⟨_, e5, k5⟩ := K.dep 5 rfl rfl rfl
      refine ow_set 10 (.int .i64 (hashF a)) rfl e5 ?_
      obtain ⟨_, e1, k1⟩ := K.dep 1 rfl rfl rfl
      refine ow_set 6 (.bool true) rfl e1 ?_
      exact ow_on rfl (ow_eql rfl rfl ⟨Below.refl _ _, Left.of (by simp)⟩)
    · intro vs X wq K
      have LE := K.1
      have XN := K.2.1
      have SQ := Nat.le_trans LW.size (Nat.le_trans E.size LE.size)
      obtain ⟨_, e1, k1⟩ := K.dep 1 rfl rfl rfl
      refine ow_set 6 (.bool true) rfl e1 ?_
      obtain ⟨_, e6, k6⟩ := K.dep 6 rfl rfl rfl
      refine ow_set 11 (.bool true) rfl e6 ?_
      exact ow_pickT rfl rfl ⟨Below.refl _ _, Left.of rfl⟩
    · intro vs X wq K
      have LE := K.1
      have XN := K.2.1
      have SQ := Nat.le_trans LW.size (Nat.le_trans E.size LE.size)
      obtain ⟨_, e7, k7⟩ := K.dep 7 rfl rfl rfl
      refine ow_set 12 (.bool true) rfl e7 ?_
      exact ow_move rfl ⟨Below.refl _ _, Left.of rfl⟩
    · intro vs X wq K
      have LE := K.1
      have XN := K.2.1
      have SQ := Nat.le_trans LW.size (Nat.le_trans E.size LE.size)
      obtain ⟨_, e8, k8⟩ := K.dep 8 rfl rfl rfl
      refine ow_set 13 (.bool true) rfl e8 ?_
      exact ow_on rfl (ow_loadB Tryz.underlying41 rfl sz41 rfl (HF.on (E.drew.trans (LE.mono OY))).here.2 rfl ⟨Below.refl _ _, Left.of rfl⟩)
    · intro vs X wq K
      have LE := K.1
      have XN := K.2.1
      have SQ := Nat.le_trans LW.size (Nat.le_trans E.size LE.size)
      obtain ⟨_, e9, k9⟩ := K.dep 9 rfl rfl rfl
      refine ow_set 14 (.agg #[.bool n1, .slice A xs.length c]) rfl e9 ?_
      obtain ⟨_, e8, k8⟩ := K.dep 8 rfl rfl rfl
      refine ow_set 13 (.bool true) rfl e8 ?_
      refine ow_on rfl (ow_enter en38 rfl ((hashbig_any n1 A c xs _ (HF.on (E.drew.trans (LE.mono OY))).here.1.1.1.2 hl).mono ?_))
      rintro e w2 ⟨rfl, hb⟩
      exact ⟨_, rfl, hb, Left.of rfl⟩
    · intro vs X wq K
      have LE := K.1
      have XN := K.2.1
      have SQ := Nat.le_trans LW.size (Nat.le_trans E.size LE.size)
      obtain ⟨_, e8, k8⟩ := K.dep 8 rfl rfl rfl
      refine ow_set 13 (.bool true) rfl e8 ?_
      exact ow_on rfl (ow_loadB Tryz.underlying41 rfl sz41 rfl (HF.on (E.drew.trans (LE.mono OY))).here.2 rfl ⟨Below.refl _ _, Left.of rfl⟩)
    · intro vs X wq K
      have LE := K.1
      have XN := K.2.1
      have SQ := Nat.le_trans LW.size (Nat.le_trans E.size LE.size)
      obtain ⟨_, e11, k11⟩ := K.dep 11 rfl rfl rfl
      refine ow_set 16 (.agg #[.bool n1, .slice A xs.length c]) rfl e11 ?_
      obtain ⟨_, e8, k8⟩ := K.dep 8 rfl rfl rfl
      refine ow_set 13 (.bool true) rfl e8 ?_
      refine ow_on rfl (ow_enter en39 rfl ((rhashbig_any n1 A c xs _ (HF.on (E.drew.trans (LE.mono OY))).here.1.1.1.2 hl).mono ?_))
      rintro e w2 ⟨rfl, hb⟩
      exact ⟨_, rfl, hb, Left.of rfl⟩
    · intro vs X wq K
      have LE := K.1
      have XN := K.2.1
      have SQ := Nat.le_trans LW.size (Nat.le_trans E.size LE.size)
      obtain ⟨_, e10, k10⟩ := K.dep 10 rfl rfl rfl
      refine ow_set 15 (.int .i64 (hashO n1 xs)) rfl e10 ?_
      obtain ⟨_, e12, k12⟩ := K.dep 12 rfl rfl rfl
      refine ow_set 17 (.int .i64 (hashO n1 xs)) rfl e12 ?_
      obtain ⟨_, e8, k8⟩ := K.dep 8 rfl rfl rfl
      refine ow_set 13 (.bool true) rfl e8 ?_
      exact ow_on rfl (ow_eql rfl rfl ⟨Below.refl _ _, Left.of (by simp)⟩)
    · intro vs X wq K
      have LE := K.1
      have XN := K.2.1
      have SQ := Nat.le_trans LW.size (Nat.le_trans E.size LE.size)
      obtain ⟨_, e8, k8⟩ := K.dep 8 rfl rfl rfl
      refine ow_set 13 (.bool true) rfl e8 ?_
      obtain ⟨_, e13, k13⟩ := K.dep 13 rfl rfl rfl
      refine ow_set 18 (.bool true) rfl e13 ?_
      exact ow_pickT rfl rfl ⟨Below.refl _ _, Left.of rfl⟩
    · intro vs X wq K
      have LE := K.1
      have XN := K.2.1
      have SQ := Nat.le_trans LW.size (Nat.le_trans E.size LE.size)
      obtain ⟨_, e14, k14⟩ := K.dep 14 rfl rfl rfl
      refine ow_set 19 (.bool true) rfl e14 ?_
      exact ow_assign rfl ⟨Below.refl _ _, Left.of rfl⟩
  intro vs w3 LE AO AL AF AA
  replace E := E.drew.trans (LE.mono OY)
  obtain ⟨_, e15, k15⟩ := AL.2.2.2.2.2.2.2.2.2.2.2.2.2.2.2.1
  refine ew_sub (τ := [(4, .bool true)]) ⟨congrArg some e15, trivial⟩ ?_
  clear AL AF AA LE AO OY e15 k15
  refine ew_next ?_
  refine cw_ret ?_
  refine ew_ret (rs := [.tmp 4]) (vs := [_]) rfl ⟨rfl, trivial⟩ ?_
  exact ⟨rfl, (LW.step E XLW).toBelow⟩
end Go.Proofs.YtljndllhmdpjlaaGreatDoor
