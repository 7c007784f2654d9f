/- The walk of the law WholeForms. -/
import Derived.Test.YteggjfmcpodepaaDoorLawWords
import Derived.Test.YteggjfmcpodepaaDoorRSmall
namespace Go.Proofs.YteggjfmcpodepaaDoor
open Go.RowKit
theorem int_lt30 {n : Int} (h0 : -9223372036854775808 ≤ n) (h1 : n ≤ 9223372036854775807) : n.natAbs < B18 ^ 30 := by
  have h : n.natAbs ≤ 9223372036854775808 := by omega
  have h2 : B18 ^ 2 ≤ B18 ^ 30 := Nat.pow_le_pow_right (by unfold B18; omega) (by decide)
  have h3 : (9223372036854775808 : Nat) < B18 ^ 2 := by unfold B18; decide
  omega
set_option maxRecDepth 100000
set_option maxHeartbeats 1000000 in
theorem forms_any (n1 : Bool) (A : Option Addr) (c : Nat) (xs : List Nat) (n : Int) (w : World) (hx : Nums w A xs) (hl : xs.length ≤ 9223372036854775807) (h0 : -9223372036854775808 ≤ n) (h1 : n ≤ 9223372036854775807) :
    Calls Tryd.prog 4 #[.agg #[.bool n1, .slice A xs.length c], .int .i64 n] w fun e w' => e = .returned (.bool true) ∧ Below w.heap.size w w' := by
  have HX := Lib.hid hx
  have HLL := Lib.hid (show (limbs n).length ≤ 1048576 by have := limbs_length (int_lt30 h0 h1); omega)
  have HLT := Lib.hid (show (tens n).length ≤ 1048576 by have := tens_length (int_lt30 h0 h1); omega)
  have HL := Lib.hid hl
  have H0 := Lib.hid h0
  have H1 := Lib.hid h1
  have hgg : (goodB n1 xs != goodB n1 xs) = false := by simp
  obtain ⟨W0, hW0⟩ : ∃ W0, W0 = w.alloc (.cells #[.bool n1, .slice A xs.length c] 24) := ⟨_, rfl⟩
  have LW : Below w.heap.size w W0 := by rw [hW0]; exact (Below.refl _ _).alloc (Nat.le_refl _) _
  have HF : Hid (∀ b, Below W0.heap.size W0 b → b.cell? ⟨w.heap.size, 0, none⟩ = some (.bool n1) ∧ b.cell? ⟨w.heap.size, 1, none⟩ = some (.slice A xs.length c) ∧ Nums b A xs) := by
    intro b hb
    have B1 : Blk W0 w.heap.size 24 #[.bool n1, .slice A xs.length c] := by rw [hW0]; exact Blk.new _ _ _
    have := (B1.below hb B1.lt).two
    exact ⟨this.1, this.2.1, (hx.since LW).since hb⟩
  clear hx hl h0 h1
  have HW0 := Lib.hid hW0
  go_enter Tryd.func4, Tryd.ntmps4
  go_upto_region 1 with fail
  rw [← hW0]
  clear hW0
  have L : Below W0.heap.size W0 W0 := Below.refl _ _
  go_cut [26] (fun v wx => v = .bool false ∧ Below W0.heap.size W0 wx)
  case first =>
    go_region_with (first
      | (go_at_call 13; refine (known_any _).mono ?_; rintro e w1 ⟨rfl, hb⟩; have L := below_on L (by first | exact hb | exact below_undrew hb); obtain ⟨r0, r1, hx⟩ := HF.out _ L; clear hb)
      | (go_at_call 19; refine (good_any n1 c _ A xs HL.out (by first | exact hx | exact hx.drew)).mono ?_; rintro e w1 ⟨rfl, hb⟩; have L := below_on L (by first | exact hb | exact below_undrew hb); clear r0 r1 hx; obtain ⟨r0, r1, hx⟩ := HF.out _ L; clear hb)
      | (go_at_call 20; refine (rgood_any n1 c _ A xs HL.out (by first | exact hx | exact hx.drew)).mono ?_; rintro e w1 ⟨rfl, hb⟩; have L := below_on L (by first | exact hb | exact below_undrew hb); clear r0 r1 hx; obtain ⟨r0, r1, hx⟩ := HF.out _ L; clear hb)
      | (go_at_call 22; refine (of_any n _ H0.out H1.out).mono ?_; rintro e w1 ⟨A1, c1, rfl, ho1, hb⟩; have ho1 := ho1.nums; (try (have ho2 := ho2.since hb)); have L := below_on L (by first | exact hb | exact below_undrew hb); clear r0 r1 hx; obtain ⟨r0, r1, hx⟩ := HF.out _ L; clear hb)
      | (go_at_call 24; refine (rint_any n _ H0.out H1.out).mono ?_; rintro e w1 ⟨A3, c3, rfl, ho3, hb⟩; have ho3 := ho3.nums; (try (have ho1 := ho1.since hb)); have L := below_on L (by first | exact hb | exact below_undrew hb); clear r0 r1 hx; obtain ⟨r0, r1, hx⟩ := HF.out _ L; clear hb)
      | (go_at_call 23; refine (rto_any _ _ n _ ho3 HLT.out).mono ?_; rintro e w1 ⟨A2, c2, rfl, ho2, hb⟩; have ho2 := ho2.nums; (try (have ho1 := ho1.since hb)); have L := below_on L (by first | exact hb | exact below_undrew hb); clear r0 r1 hx; obtain ⟨r0, r1, hx⟩ := HF.out _ L; clear hb)
      | (go_at_call 21; refine (rsame_self _ _ _ _ _ _ _ ho1 ho2 HLL.out).mono ?_; rintro e w1 ⟨rfl, hb⟩; have L := below_on L (by first | exact hb | exact below_undrew hb); clear r0 r1 hx; obtain ⟨r0, r1, hx⟩ := HF.out _ L; clear hb))
    all_goals
      clear ho1 ho2 ho3
      go_wp2_with fail
      go_meet
      exact ⟨rfl, L⟩
  case rest =>
    obtain ⟨rfl, L⟩ := hcut
    obtain ⟨r0, r1, hx⟩ := HF.out _ L
    go_wp2_with (go_at_call 25; refine (int_any A c xs _ n1 hx HL.out).mono ?_; rintro e w1 ⟨rfl, hb⟩; have L := below_on L hb; clear r0 r1 hx; obtain ⟨r0, r1, hx⟩ := HF.out _ L; clear hb; refine Hid.out ?_)
    refine Lib.hid ?_
    cases hg : goodB n1 xs
    · have hv : intV false (num n1 xs) = 0 := by unfold intV; simp
      have he : intE false (num n1 xs) = 3 := by unfold intE; simp
      rw [hv, he]
      have hgood := fun w hx => rgood_any n1 c w A xs HL.out hx
      rw [hg] at hgood
      have HG := Lib.hid hg
      clear hv he hg hgg
      go_wp2_with (go_at_call 20; refine (hgood _ hx).mono ?_; rintro e w1 ⟨rfl, hb⟩; have L := below_on L hb; clear r0 r1 hx; obtain ⟨r0, r1, hx⟩ := HF.out _ L; clear hb)
      go_ret
      exact ⟨rfl, LW.trans (L.mono LW.size)⟩
    · have hgood := fun w hx => rgood_any n1 c w A xs HL.out hx
      rw [hg] at hgood
      have HG := Lib.hid hg
      have HLX := Lib.hid (show (tens (num n1 xs)).length ≤ 1048576 by have := tens_length (num_lt hg); omega)
      have hof := fun w hx => rof_any n1 A c xs w hx hg
      clear hg hgg
      generalize num n1 xs = i at *
      by_cases hr : inR i
      · have hv : intV true i = i := by unfold intV; simp [hr]
        have he : intE true i = 0 := by unfold intE; simp [hr]
        have hs : smV i = i := by unfold smV; simp [hr]
        have hsm := fun A c w hx => rsmall_any A c i w hx HLX.out
        unfold RetSmall at hsm
        rw [hs, show decide (inR i) = true by simp [hr]] at hsm
        rw [hv, he]
        clear hv he hs hr
        go_wp2_with (go_at_call 20; refine (hgood _ hx).mono ?_; rintro e w1 ⟨rfl, hb⟩; have L := below_on L hb; clear r0 r1 hx; obtain ⟨r0, r1, hx⟩ := HF.out _ L; clear hb; refine Hid.out ?_)
        refine Lib.hid ?_
        go_wp2_with (go_at_call 18; refine (hof _ hx).mono ?_; rintro e w1 ⟨A1, c1, rfl, ho1, hb⟩; have L := below_on L hb; have ho1 := ho1.nums; clear r0 r1 hx hb; refine Hid.out ?_)
        refine Lib.hid ?_
        go_wp2_with (go_at_call 26; refine (hsm _ _ _ ho1).mono ?_; rintro e w1 ⟨rfl, hb⟩; have L := below_on L hb; clear hb)
        go_ret
        exact ⟨rfl, LW.trans (L.mono LW.size)⟩
      · have hv : intV true i = 0 := by unfold intV; simp [hr]
        have he : intE true i = 7 := by unfold intE; simp [hr]
        have hs : smV i = 0 := by unfold smV; simp [hr]
        have hsm := fun A c w hx => rsmall_any A c i w hx HLX.out
        unfold RetSmall at hsm
        rw [hs, show decide (inR i) = false by simp [hr]] at hsm
        rw [hv, he]
        clear hv he hs hr
        go_wp2_with (go_at_call 20; refine (hgood _ hx).mono ?_; rintro e w1 ⟨rfl, hb⟩; have L := below_on L hb; clear r0 r1 hx; obtain ⟨r0, r1, hx⟩ := HF.out _ L; clear hb; refine Hid.out ?_)
        refine Lib.hid ?_
        go_wp2_with (go_at_call 18; refine (hof _ hx).mono ?_; rintro e w1 ⟨A1, c1, rfl, ho1, hb⟩; have L := below_on L hb; have ho1 := ho1.nums; clear r0 r1 hx hb; refine Hid.out ?_)
        refine Lib.hid ?_
        go_wp2_with (go_at_call 26; refine (hsm _ _ _ ho1).mono ?_; rintro e w1 ⟨rfl, hb⟩; have L := below_on L hb; clear hb)
        go_ret
        exact ⟨rfl, LW.trans (L.mono LW.size)⟩
end Go.Proofs.YteggjfmcpodepaaDoor
