/- Texts of this claim. -/
import Derived.Test.YtdofcnodhgaedaaGreatDoorG22
set_option maxRecDepth 100000
set_option maxHeartbeats 20000000
namespace Go.Proofs.YtdofcnodhgaedaaGreatDoor
open Go.RowKit Proofs.Tryz
section
attribute [local irreducible] OW RS CW EW
theorem qax (w:World) (ua:PV) (A1 B1:Option Addr) (c1 d1:Nat) (hx:ay w A1 ua.xs) (hl:ua.xs.length≤9223372036854775807) (r:Bool) (hr:PV.good ua=r):Calls prog 7 #[bI ua A1 c1 B1 d1] w (aD w (.bool r)):=by
 subst hr;exact Dz w ua.k ua.yes ua.neg A1 B1 ua.xs c1 ua.bits ua.ni d1 ua.s hx hl
section
variable (w:World) (ua ub:PV) (A1 B1 A2 B2:Option Addr) (c1 d1 c2 d2:Nat) (hx:ay w A1 ua.xs) (hl:ua.xs.length≤9223372036854775807) (ha:ua.bits<18446744073709551616) (hy:ay w A2 ub.xs) (hl':ub.xs.length≤9223372036854775807) (hb0:ub.bits<18446744073709551616)
include hx hl
theorem pt0 (g1:ua.good=false):Calls prog 8 #[bI ua A1 c1 B1 d1] w (aD w (.bool (vg ua))):=by
 refine zh func8 ntmps8 fun HF LW ak E=>?_;replace HF:=HF.and (Per.aF hx);refine zo ?_;refine zl HF LW E ak fun aK w2 HF LW E=>?_;refine zn ?_;refine zb fC (qc _ ua A1 B1 c1 d1 (HF.on E).here.1.2 hl false g1) E fun w3 E=>(vc ?_);exact ⟨by unfold vg;rw[g1];rfl,aT LW E ak⟩
theorem pt1 (g1:ua.good=true) (h1:ua.k=1):Calls prog 8 #[bI ua A1 c1 B1 d1] w (aD w (.bool (vg ua))):=by
 refine zh func8 ntmps8 fun HF LW ak E=>?_;replace HF:=HF.and (Per.aF hx);refine zo ?_;refine zl HF LW E ak fun aK w2 HF LW E=>?_;refine zn ?_;refine zb fC (qc _ ua A1 B1 c1 d1 (HF.on E).here.1.2 hl true g1) E fun w3 E=>(JR ?_);refine qk 8 rfl (sw h1) (vc ?_);exact ⟨by unfold vg;rw[g1,if_pos rfl,if_pos h1];rfl,aT LW E ak⟩
theorem pt2 (g1:ua.good=true) (h1:¬ua.k=1) (h2:ua.k=2):Calls prog 8 #[bI ua A1 c1 B1 d1] w (aD w (.bool (vg ua))):=by
 refine zh func8 ntmps8 fun HF LW ak E=>?_;replace HF:=HF.and (Per.aF hx);refine zo ?_;refine zl HF LW E ak fun aK w2 HF LW E=>?_;refine zn ?_;refine zb fC (qc _ ua A1 B1 c1 d1 (HF.on E).here.1.2 hl true g1) E fun w3 E=>(JR ?_);refine yn 8 rfl (sw h1) (zn ?_);refine qk 12 rfl (sw h2) (oe ?_);exact ⟨by unfold vg;rw[g1,if_pos rfl,if_neg h1,if_pos h2];rfl,aT LW E ak⟩
theorem pt3 (g1:ua.good=true) (h1:¬ua.k=1) (h2:¬ua.k=2) (h3:ua.k=3):Calls prog 8 #[bI ua A1 c1 B1 d1] w (aD w (.bool (vg ua))):=by
 refine zh func8 ntmps8 fun HF LW ak E=>?_;replace HF:=HF.and (Per.aF hx);refine zo ?_;refine zl HF LW E ak fun aK w2 HF LW E=>?_;refine zn ?_;refine zb fC (qc _ ua A1 B1 c1 d1 (HF.on E).here.1.2 hl true g1) E fun w3 E=>(JR ?_);refine yn 8 rfl (sw h1) (zn ?_);refine yn 12 rfl (sw h2) (zn ?_);refine qk 19 rfl (sw h3) (ya ?_);refine za rfl (gl rfl rfl de rfl (yu ?_));exact ⟨by unfold vg;rw[g1,if_pos rfl,if_neg h1,if_neg h2,if_pos h3];rfl,aT LW E ak⟩
theorem pt4 (g1:ua.good=true) (h1:¬ua.k=1) (h2:¬ua.k=2) (h3:¬ua.k=3):Calls prog 8 #[bI ua A1 c1 B1 d1] w (aD w (.bool (vg ua))):=by
 refine zh func8 ntmps8 fun HF LW ak E=>?_;replace HF:=HF.and (Per.aF hx);refine zo ?_;refine zl HF LW E ak fun aK w2 HF LW E=>?_;refine zn ?_;refine zb fC (qc _ ua A1 B1 c1 d1 (HF.on E).here.1.2 hl true g1) E fun w3 E=>(JR ?_);refine yn 8 rfl (sw h1) (zn ?_);refine yn 12 rfl (sw h2) (zn ?_);refine yn 19 rfl (sw h3) (yu ?_);refine za rfl (zzv rfl rfl (ya ?_));exact ⟨by unfold vg;rw[g1,if_pos rfl,if_neg h1,if_neg h2,if_neg h3];rfl,aT LW E ak⟩
theorem Ay:Calls prog 8 #[bI ua A1 c1 B1 d1] w (aD w (.bool (vg ua))):=by
 cases g1:ua.good
 · exact pt0 w ua A1 B1 c1 d1 hx hl g1
 by_cases h1:ua.k=1
 · exact pt1 w ua A1 B1 c1 d1 hx hl g1 h1
 by_cases h2:ua.k=2
 · exact pt2 w ua A1 B1 c1 d1 hx hl g1 h1 h2
 by_cases h3:ua.k=3
 · exact pt3 w ua A1 B1 c1 d1 hx hl g1 h1 h2 h3
 · exact pt4 w ua A1 B1 c1 d1 hx hl g1 h1 h2 h3
include ha hy hl' hb0
end
end
section
attribute [local irreducible] OW RS CW EW
section
variable (w:World) {bp op cp bf of cf bl ol cl:Nat}
end
end
end Go.Proofs.YtdofcnodhgaedaaGreatDoor
