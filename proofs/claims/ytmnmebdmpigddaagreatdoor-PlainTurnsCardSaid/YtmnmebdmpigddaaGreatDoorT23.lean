/- Texts of this claim. -/
import Derived.Test.YtmnmebdmpigddaaGreatDoorT22
import Derived.Shelf.Strings.Builder1
import Derived.Shelf.Strings.Builder2
import Derived.Shelf.Strings.BuilderF
import Derived.Shelf.Strings.Builder2Cap
import Derived.Shelf.Strconv.Itoa0
import Derived.Shelf.Strconv.Itoa1
import Derived.Shelf.LaysM
import Derived.Shelf.Strconv.Itoa2
import Derived.Shelf.Pu.ParseUintPublic10
import Derived.Shelf.Strings.Search1
import Derived.Shelf.Strings.Search2
import Derived.Shelf.Strings.Search3
import Derived.Shelf.Strings.Shaped
import Derived.Shelf.Strings.Prefix
import Derived.Test.YtmnmebdmpigddaaGreatDoorProg
set_option maxRecDepth 100000
set_option maxHeartbeats 20000000
namespace Go.Proofs
open Go.Shelf
def Tryz.lays169_ren:Go.Shelf.Ren:=⟨fun | 169=>61 | n=>n,fun | 70=>79 | 9=>9 | 0=>0 | 72=>81 | 37=>46 | 127=>139 | 3=>3 | 5=>5 | n=>n,fun | n=>n⟩
theorem Tryz.lays169:Go.Proofs.Lays.n169 Tryz.prog Tryz.lays169_ren:={
 mixed:=by kernel_rfl
 f169:=Tryz.func61.trans (congrArg some (by kernel_rfl))
 t0:=Tryz.underlying0
 a0:=Tryz.isAgg0
 z0:=Tryz.sizeOf0
 v0:=Tryz.zeroValue0
 t3:=Tryz.underlying3
 a3:=Tryz.isAgg3
 z3:=Tryz.sizeOf3
 v3:=Tryz.zeroValue3
 t9:=u9
 a9:=Tryz.isAgg9
 z9:=Tryz.sizeOf9
 v9:=Tryz.zeroValue9
 t37:=u46
 a37:=Tryz.isAgg46
 z37:=Tryz.sizeOf46
 v37:=Tryz.zeroValue46
 t70:=u79
 a70:=Tryz.isAgg79
 z70:=Tryz.sizeOf79
 v70:=Tryz.zeroValue79
 t72:=Tryz.underlying81
 a72:=Tryz.isAgg81
 z72:=Tryz.sizeOf81
 v72:=Tryz.zeroValue81
 t127:=Tryz.underlying139
 a127:=Tryz.isAgg139
 z127:=Tryz.sizeOf139
 v127:=Tryz.zeroValue139 }
theorem Tryz.Builder_Extra_169:Builder.Extra Tryz.prog Tryz.lays169_ren:={
 sizeBuilder:=by kernel_rfl
 liesBuilder:=by kernel_rfl
 t5:=u5
 a5:=Tryz.isAgg5
 z5:=Tryz.sizeOf5
 v5:=Tryz.zeroValue5
 infoByte:=by kernel_rfl
 cellsByte:=by kernel_rfl
 sizeByte:=by kernel_rfl
 neB5:=by decide }
open Go.RowKit in
theorem Tryz.Builder_String_any (B b:Nat) (l:List UInt8) (w:World) (h:Lib.IsBuilder 81 5 B b (Lib.byteCells l) w) (hBw:B≤w.heap.size) :
 Calls Tryz.prog 61 #[.pointer (some ⟨b,0,none⟩)] w fun e w'=>e= .returned (.string ⟨l.toArray⟩)∧Below B w w':=Any.Builder_String_any Tryz.lays169 Tryz.Builder_Extra_169 B b l w h hBw
def Tryz.lays283_ren:Go.Shelf.Ren:=⟨fun | 283=>202 | n=>n,fun | 3=>3 | 9=>9 | 4=>4 | n=>n,fun | n=>n⟩
theorem Tryz.lays283:Go.Proofs.Lays.n283 Tryz.prog Tryz.lays283_ren:={
 mixed:=by kernel_rfl
 f283:=Tryz.func202.trans (congrArg some (by kernel_rfl))
 t3:=Tryz.underlying3
 a3:=Tryz.isAgg3
 z3:=Tryz.sizeOf3
 v3:=Tryz.zeroValue3
 t4:=u4
 a4:=Tryz.isAgg4
 z4:=Tryz.sizeOf4
 v4:=Tryz.zeroValue4
 t9:=u9
 a9:=Tryz.isAgg9
 z9:=Tryz.sizeOf9
 v9:=Tryz.zeroValue9 }
open Go.Lib in
theorem Tryz.internal_strconv_small (i:Nat) (h:i<100) (w:World) :
 Calls Tryz.prog 202 #[.int .i64 i] w fun e w'=>e= .returned (.string ⟨(Lib.decDigits i).toArray⟩)∧w'=w:=Any.internal_strconv_small Tryz.lays283 i h w
def Tryz.laysM284_ren:Go.Shelf.Ren:=⟨fun | 284=>203 | 129=>196 | 317=>228 | 318=>229 | n=>n,fun | 53=>25 | 3=>3 | 212=>238 | 0=>0 | 4=>4 | 46=>87 | 5=>5 | 9=>9 | n=>n,fun | 17=>9 | n=>n⟩
theorem Tryz.laysM284:Go.Proofs.LaysM.n284 Tryz.prog Tryz.laysM284_ren:={
 mixed:=by kernel_rfl
 f129:=Tryz.func196.trans (congrArg some (by kernel_rfl))
 f284:=Tryz.func203.trans (congrArg some (by kernel_rfl))
 f317:=Tryz.func228.trans (congrArg some (by kernel_rfl))
 f318:=Tryz.func229.trans (congrArg some (by kernel_rfl))
 t0:=Tryz.underlying0
 a0:=Tryz.isAgg0
 z0:=Tryz.sizeOf0
 v0:=Tryz.zeroValue0
 t3:=Tryz.underlying3
 a3:=Tryz.isAgg3
 z3:=Tryz.sizeOf3
 v3:=Tryz.zeroValue3
 t4:=u4
 a4:=Tryz.isAgg4
 z4:=Tryz.sizeOf4
 v4:=Tryz.zeroValue4
 t5:=u5
 a5:=Tryz.isAgg5
 z5:=Tryz.sizeOf5
 v5:=Tryz.zeroValue5
 t9:=u9
 a9:=Tryz.isAgg9
 z9:=Tryz.sizeOf9
 v9:=Tryz.zeroValue9
 t46:=u87
 a46:=Tryz.isAgg87
 z46:=Tryz.sizeOf87
 v46:=Tryz.zeroValue87
 t53:=u25
 a53:=Tryz.isAgg25
 z53:=Tryz.sizeOf25
 v53:=Tryz.zeroValue25
 t212:=Tryz.underlying238
 a212:=Tryz.isAgg238
 z212:=Tryz.sizeOf238
 v212:=Tryz.zeroValue238
 g17:=by kernel_rfl
 i0:=by kernel_rfl
 i3:=by kernel_rfl
 i4:=by kernel_rfl
 i5:=by kernel_rfl
 i9:=by kernel_rfl
 i46:=by kernel_rfl
 i53:=by kernel_rfl
 i212:=by kernel_rfl
 m17:=by kernel_rfl }
open Go.Lib in
theorem Tryz.internal_strconv_numDigits (u:Nat) (h1:1≤u) (h2:u<18446744073709551616) (w:World) (htab:Lib.TabIs Tryz.prog w "internal/strconv.uint64pow10" .u64 Lib.pow10Tab) :
 Calls Tryz.prog 203 #[.int .u64 u] w fun e w'=>e= .returned (.int .i64 (Lib.nDigits u))∧w'=w:=Any.internal_strconv_numDigits Tryz.laysM284 u h1 h2 w htab
def Tryz.lays285_ren:Go.Shelf.Ren:=⟨fun | 285=>204 | n=>n,fun | 37=>46 | 53=>25 | 3=>3 | 4=>4 | 51=>174 | 9=>9 | 5=>5 | 0=>0 | n=>n,fun | n=>n⟩
theorem Tryz.lays285:Go.Proofs.Lays.n285 Tryz.prog Tryz.lays285_ren:={
 mixed:=by kernel_rfl
 f285:=Tryz.func204.trans (congrArg some (by kernel_rfl))
 t0:=Tryz.underlying0
 a0:=Tryz.isAgg0
 z0:=Tryz.sizeOf0
 v0:=Tryz.zeroValue0
 t3:=Tryz.underlying3
 a3:=Tryz.isAgg3
 z3:=Tryz.sizeOf3
 v3:=Tryz.zeroValue3
 t4:=u4
 a4:=Tryz.isAgg4
 z4:=Tryz.sizeOf4
 v4:=Tryz.zeroValue4
 t5:=u5
 a5:=Tryz.isAgg5
 z5:=Tryz.sizeOf5
 v5:=Tryz.zeroValue5
 t9:=u9
 a9:=Tryz.isAgg9
 z9:=Tryz.sizeOf9
 v9:=Tryz.zeroValue9
 t37:=u46
 a37:=Tryz.isAgg46
 z37:=Tryz.sizeOf46
 v37:=Tryz.zeroValue46
 t51:=Tryz.underlying174
 a51:=Tryz.isAgg174
 z51:=Tryz.sizeOf174
 v51:=Tryz.zeroValue174
 t53:=u25
 a53:=Tryz.isAgg25
 z53:=Tryz.sizeOf25
 v53:=Tryz.zeroValue25 }
open Go.RowKit Go.Sort Go.Lib in
theorem Tryz.internal_strconv_formatBase10 (blk off cap:Nat) (u:Nat) (d:Array UInt8) (w:World) (hH:Holds (fun (b:UInt8)=>Value.int .u8 (b.toNat:Int)) w blk off d) (hu:u<10^d.size) (hu64:u<18446744073709551616) (hsz:d.size<4611686018427387904) :
 Calls Tryz.prog 204 #[.slice (some ⟨blk,off,none⟩) d.size cap,.int .u64 u] w fun e w'=>
  e= .returned (.tuple #[])∧ ∃(n v':Nat) (dk:Array UInt8),w'=(putRow (fun (b:UInt8)=>Value.int .u8 (b.toNat:Int)) w blk off dk).drewN n∧FmtInv d.size u 0 v' dk:=Any.internal_strconv_formatBase10 Tryz.lays285 blk off cap u d w hH hu hu64 hsz
def Tryz.laysPu14_ren:Go.Shelf.Ren:=⟨fun | 14=>96 | 16=>151 | 17=>152 | 19=>180 | 20=>181 | 21=>182 | 22=>183 | 23=>184 | 24=>185 | 25=>197 | 27=>199 | 26=>198 | 28=>214 | 29=>248 | 30=>202 | 31=>203 | 32=>204 | 33=>205 | 35=>196 | 34=>228 | 36=>229 | 37=>230 | 38=>231 | 39=>260 | 40=>261 | n=>n,fun | 9=>9 | 3=>3 | 22=>25 | 24=>83 | 25=>121 | 4=>4 | 34=>183 | 5=>5 | 36=>87 | 37=>46 | 0=>0 | 39=>185 | 21=>21 | 44=>194 | 47=>139 | 50=>212 | 48=>210 | 2=>2 | 52=>201 | 55=>203 | 59=>238 | 60=>174 | 20=>20 | 61=>239 | 65=>246 | 66=>278 | 67=>88 | n=>n,fun | 0=>3 | 1=>4 | 2=>9 | 3=>14 | 4=>15 | n=>n⟩
theorem Tryz.laysPu14:Go.Proofs.LaysPu.n14 Tryz.prog Tryz.laysPu14_ren:={
 mixed:=by kernel_rfl
 f14:=Tryz.func96.trans (congrArg some (by kernel_rfl))
 f16:=Tryz.func151.trans (congrArg some (by kernel_rfl))
 f17:=Tryz.func152.trans (congrArg some (by kernel_rfl))
 f19:=Tryz.func180.trans (congrArg some (by kernel_rfl))
 f20:=Tryz.func181.trans (congrArg some (by kernel_rfl))
 f21:=Tryz.func182.trans (congrArg some (by kernel_rfl))
 f22:=Tryz.func183.trans (congrArg some (by kernel_rfl))
 f23:=Tryz.func184.trans (congrArg some (by kernel_rfl))
 f24:=Tryz.func185.trans (congrArg some (by kernel_rfl))
 f25:=Tryz.func197.trans (congrArg some (by kernel_rfl))
 f26:=Tryz.func198.trans (congrArg some (by kernel_rfl))
 f27:=Tryz.func199.trans (congrArg some (by kernel_rfl))
 f28:=Tryz.func214.trans (congrArg some (by kernel_rfl))
 f29:=Tryz.func248.trans (congrArg some (by kernel_rfl))
 f30:=Tryz.func202.trans (congrArg some (by kernel_rfl))
 f31:=Tryz.func203.trans (congrArg some (by kernel_rfl))
 f32:=Tryz.func204.trans (congrArg some (by kernel_rfl))
 f33:=Tryz.func205.trans (congrArg some (by kernel_rfl))
 f34:=Tryz.func228.trans (congrArg some (by kernel_rfl))
 f35:=Tryz.func196.trans (congrArg some (by kernel_rfl))
 f36:=Tryz.func229.trans (congrArg some (by kernel_rfl))
 f37:=Tryz.func230.trans (congrArg some (by kernel_rfl))
 f38:=Tryz.func231.trans (congrArg some (by kernel_rfl))
 f39:=Tryz.func260.trans (congrArg some (by kernel_rfl))
 f40:=Tryz.func261.trans (congrArg some (by kernel_rfl))
 t0:=Tryz.underlying0
 a0:=Tryz.isAgg0
 z0:=Tryz.sizeOf0
 v0:=Tryz.zeroValue0
 i0:=by kernel_rfl
 t2:=Tryz.underlying2
 a2:=Tryz.isAgg2
 z2:=Tryz.sizeOf2
 v2:=Tryz.zeroValue2
 i2:=by kernel_rfl
 t3:=Tryz.underlying3
 a3:=Tryz.isAgg3
 z3:=Tryz.sizeOf3
 v3:=Tryz.zeroValue3
 i3:=by kernel_rfl
 t4:=u4
 a4:=Tryz.isAgg4
 z4:=Tryz.sizeOf4
 v4:=Tryz.zeroValue4
 i4:=by kernel_rfl
 t5:=u5
 a5:=Tryz.isAgg5
 z5:=Tryz.sizeOf5
 v5:=Tryz.zeroValue5
 i5:=by kernel_rfl
 t9:=u9
 a9:=Tryz.isAgg9
 z9:=Tryz.sizeOf9
 v9:=Tryz.zeroValue9
 i9:=by kernel_rfl
 t20:=Tryz.underlying20
 a20:=Tryz.isAgg20
 z20:=Tryz.sizeOf20
 v20:=Tryz.zeroValue20
 i20:=by kernel_rfl
 t21:=Tryz.underlying21
 a21:=Tryz.isAgg21
 z21:=Tryz.sizeOf21
 v21:=Tryz.zeroValue21
 i21:=by kernel_rfl
 t22:=u25
 a22:=Tryz.isAgg25
 z22:=Tryz.sizeOf25
 v22:=Tryz.zeroValue25
 i22:=by kernel_rfl
 t24:=u83
 a24:=Tryz.isAgg83
 z24:=Tryz.sizeOf83
 v24:=Tryz.zeroValue83
 i24:=by kernel_rfl
 t25:=Tryz.underlying121
 a25:=Tryz.isAgg121
 z25:=Tryz.sizeOf121
 v25:=Tryz.zeroValue121
 i25:=by kernel_rfl
 t34:=Tryz.underlying183
 a34:=Tryz.isAgg183
 z34:=Tryz.sizeOf183
 v34:=Tryz.zeroValue183
 i34:=by kernel_rfl
 c34:=by kernel_rfl
 t36:=u87
 a36:=Tryz.isAgg87
 z36:=Tryz.sizeOf87
 v36:=Tryz.zeroValue87
 i36:=by kernel_rfl
 t37:=u46
 a37:=Tryz.isAgg46
 z37:=Tryz.sizeOf46
 v37:=Tryz.zeroValue46
 i37:=by kernel_rfl
 t39:=Tryz.underlying185
 a39:=Tryz.isAgg185
 z39:=Tryz.sizeOf185
 v39:=Tryz.zeroValue185
 i39:=by kernel_rfl
 t44:=Tryz.underlying194
 a44:=Tryz.isAgg194
 z44:=Tryz.sizeOf194
 v44:=Tryz.zeroValue194
 i44:=by kernel_rfl
 t47:=Tryz.underlying139
 a47:=Tryz.isAgg139
 z47:=Tryz.sizeOf139
 v47:=Tryz.zeroValue139
 i47:=by kernel_rfl
 t48:=Tryz.underlying210
 a48:=Tryz.isAgg210
 z48:=Tryz.sizeOf210
 v48:=Tryz.zeroValue210
 i48:=by kernel_rfl
 t50:=Tryz.underlying212
 a50:=Tryz.isAgg212
 z50:=Tryz.sizeOf212
 v50:=Tryz.zeroValue212
 i50:=by kernel_rfl
 t52:=Tryz.underlying201
 a52:=Tryz.isAgg201
 z52:=Tryz.sizeOf201
 v52:=Tryz.zeroValue201
 i52:=by kernel_rfl
 t55:=Tryz.underlying203
 a55:=Tryz.isAgg203
 z55:=Tryz.sizeOf203
 v55:=Tryz.zeroValue203
 i55:=by kernel_rfl
 t59:=Tryz.underlying238
 a59:=Tryz.isAgg238
 z59:=Tryz.sizeOf238
 v59:=Tryz.zeroValue238
 i59:=by kernel_rfl
 t60:=Tryz.underlying174
 a60:=Tryz.isAgg174
 z60:=Tryz.sizeOf174
 v60:=Tryz.zeroValue174
 i60:=by kernel_rfl
 t61:=Tryz.underlying239
 a61:=Tryz.isAgg239
 z61:=Tryz.sizeOf239
 t65:=Tryz.underlying246
 a65:=Tryz.isAgg246
 z65:=Tryz.sizeOf246
 v65:=Tryz.zeroValue246
 i65:=by kernel_rfl
 t66:=Tryz.underlying278
 a66:=Tryz.isAgg278
 z66:=Tryz.sizeOf278
 v66:=Tryz.zeroValue278
 i66:=by kernel_rfl
 t67:=Tryz.underlying88
 a67:=Tryz.isAgg88
 z67:=Tryz.sizeOf88
 v67:=Tryz.zeroValue88
 i67:=by kernel_rfl
 g0:=by kernel_rfl
 m0:=by kernel_rfl
 g1:=by kernel_rfl
 m1:=by kernel_rfl
 g2:=by kernel_rfl
 m2:=by kernel_rfl
 g3:=by kernel_rfl
 m3:=by kernel_rfl
 g4:=by kernel_rfl
 m4:=by kernel_rfl }
open Go.RowKit in
theorem Tryz.strconv_ParseUint_10_at64_ok (s:ByteArray) (hmax:s.size≤9223372036854775806) (u:Nat) (h:Lib.parseUintB 64 s.data.toList= .ok u) (w:World) :
 Calls Tryz.prog 96 #[.string s,.int .i64 10,.int .i64 64] w fun e w'=>e= .returned (.tuple #[.int .u64 u,.nilIface])∧(w'=w∨w'=Lib.bytesWorld w 5 s):=Any.strconv_ParseUint_10_at64_ok Tryz.laysPu14 s hmax u h w
end Go.Proofs
namespace Go.Proofs.YtmnmebdmpigddaaGreatDoor
open Go.RowKit
theorem stpdq319 {P Q:Prop} (k:Q) (h:(Unit→Q)→P:=by
 intro zK;refine zu ?_;refine za rfl (ye u79 rfl rfl hb rfl (za rfl (ow_nilP u79 rfl rfl ?_)));exact zK ()):P:=h fun _=>k
attribute [local irreducible] OW RS CW EW
theorem ex_noesc:Ext_ Tryz.prog 165 Extern.AbiNoEscape.same:=⟨_,Tryz.func165,by kernel_rfl,by kernel_rfl,by kernel_rfl,by kernel_rfl⟩
theorem bld_size:(Tryz.prog.info? 81).map (·.size)=some 2:=by kernel_rfl
theorem bld_lies:liesAt Tryz.prog Tryz.prog.depth 81 (2/Tryz.prog.cellsOf 81) 0 81 1=true:=by kernel_rfl
def Bld (w:World) (lo b:Nat) (p:Value) (l:List UInt8) (F:Nat→Prop):Prop:=∃A c,Blk w b 81 #[p,.slice A l.length c]∧w.ownsRow lo 5 1 (.slice A l.length c) l.length (Lib.byteCells l)∧ ∀q,(Value.slice A l.length c).ownBlock=some q→F q
def Adr (b:Nat) (p:Value):Prop:=p= .pointer none∨p= .pointer (some ⟨b,0,none⟩)
theorem Bld.lib {w:World} {lo b:Nat} {p:Value} {l:List UInt8} {F:Nat→Prop} (h:Bld w lo b p l F) (hp:Adr b p) (hb:lo≤b):Lib.IsBuilder 81 5 lo b (Lib.byteCells l) w:=by
 obtain ⟨A,c,h1,h2,_⟩:=h;have hl:(Lib.byteCells l).length=l.length:=by unfold Lib.byteCells;simp
 have hne:(Value.slice A l.length c).ownBlock≠some b:=fun e=>by
  obtain ⟨cur,h3⟩:=owns_row h2 e;have h4:=h1.symm.trans h3;injection h4 with h4
  injection h4 with _ h4
  exact absurd h4 (by decide)
 rcases hp with rfl | rfl
 · exact Or.inl ⟨hb,_,h1,by rw[hl];exact h2,hne⟩
 · exact Or.inr ⟨hb,_,h1,by rw[hl];exact h2,hne⟩
theorem Bld.no {w w':World} {lo b:Nat} {p:Value} {l:List UInt8} {F:Nat→Prop} (h:Bld w lo b p l F) (E:Ext No w w'):Bld w' lo b p l F:=by
 obtain ⟨A,c,h1,h2,h3⟩:=h;exact ⟨A,c,h1.ext E (fun h=>h.elim),xy h2 E (fun _ _ h=>h.elim),h3⟩
section
variable (w:World) (lo b:Nat) (p:Value) (hp:Adr b p)
theorem bcheck1 (s0:Value) (hb:Blk w b 81 #[.pointer none,s0]):Calls Tryz.prog 112 #[.pointer (some ⟨b,0,none⟩)] w fun e w'=>e= .returned (.tuple #[])∧Blk w' b 81 #[.pointer (some ⟨b,0,none⟩),s0]∧Ext (Mut [some b]) w w':=by
 refine zc Tryz.func112 rfl Tryz.ntmps112 rfl (stpdq319 ?_);refine zl ?_;refine za rfl (ow_toU u79 Tryz.underlying170 bld_size (by decide) rfl hb (Nat.zero_lt_succ 1) (za rfl (ow_ext (args:=[.pointer (some ⟨b,0,none⟩)]) (v:=.pointer (some ⟨b,0,none⟩)) ex_noesc rfl (Lib.run_noEscape _ _) (za rfl (ow_fromU Tryz.underlying170 u79 bld_size rfl hb bld_lies (zm ?_))))));refine zk (qr (cs':=#[.pointer (some ⟨b,0,none⟩),s0]) sz79 rfl rfl hb rfl rfl (Nat.le_of_ble_eq_true rfl) rfl ?_);rintro wB B2 E2;refine stp ?_;refine yeq rfl ?_;exact ⟨rfl,B2,E2⟩
theorem bcheck2 (s0:Value) (hb:Blk w b 81 #[.pointer (some ⟨b,0,none⟩),s0]):Calls Tryz.prog 112 #[.pointer (some ⟨b,0,none⟩)] w fun e w'=>e= .returned (.tuple #[])∧Blk w' b 81 #[.pointer (some ⟨b,0,none⟩),s0]∧Ext (Mut [some b]) w w':=by
 refine zc Tryz.func112 rfl Tryz.ntmps112 rfl (stpdq319 ?_);refine yi ?_;refine za rfl (ye u79 rfl rfl hb rfl (stp ?_));refine za rfl (ow_samePP u79 bld_size rfl rfl (zx ?_));refine yeq rfl ?_;exact ⟨rfl,hb,Ext.refl _ _⟩
include hp
theorem bcheck (s0:Value) (hb:Blk w b 81 #[p,s0]):Calls Tryz.prog 112 #[.pointer (some ⟨b,0,none⟩)] w fun e w'=>e= .returned (.tuple #[])∧Blk w' b 81 #[.pointer (some ⟨b,0,none⟩),s0]∧Ext (Mut [some b]) w w':=by
 rcases hp with rfl | rfl
 · exact bcheck1 w b s0 hb
 · exact bcheck2 w b s0 hb
variable (l:List UInt8) (hl:l.length≤900000) (F:Nat→Prop) (h:Bld w lo b p l F) (hbl:lo≤b) (hF:∀q,w.heap.size≤q→F q)
include hl h hbl hF
theorem zrq (x:UInt8):Calls Tryz.prog 59 #[.pointer (some ⟨b,0,none⟩),.int .u8 (x.toNat:Int)] w fun e w'=>e= .returned .nilIface∧Bld w' lo b (.pointer (some ⟨b,0,none⟩)) (l++ [x]) F∧Ext (fun q=>q=b∨F q) w w':=by
 obtain ⟨A,c,hB,hO,hFb⟩:=h;have hlt:=hB.lt;refine zc Tryz.func59 rfl Tryz.ntmps59 rfl (yi ?_);refine za rfl (zb en112 rfl ((bcheck _ b p hp _ hB).mono ?_));rintro e w1 ⟨rfl,hB2,hE⟩;refine ⟨_,rfl,?_⟩;have hO2:=zek hO hB (by decide) hE;have hs:=hE.size;refine yi ?_;refine za rfl (ye u46 rfl rfl hB2 rfl (stp ?_));refine za rfl (oq (cs:=#[.int .u8 (x.toNat:Int)]) u46 sz5 zr5 (by decide) rfl (by rw[zqz];rfl) ?_);rintro gx wI Bx E17 Gx;have O17:=xy hO2 E17 (fun _ _ h=>h.elim);have B17:=hB2.ext E17 (fun h=>h.elim);have hs17:=E17.size;refine za rfl (ow_appendS (n':=(l++ [x]).length) (xs':=Lib.byteCells (l++ [x])) u46 inf5 rfl (by decide) rfl O17 rfl (reads_rowN Bx Bx.lt rfl) (by simp[Value.oneCell']) (by rw[List.length_append];rfl) (by unfold Lib.byteCells;rw[List.map_append];rfl) (by rw[List.length_append];unfold maxLen;simp;omega) (by rw[List.length_append];simp;omega) (by omega) ?_);rintro A5 c5 wJ O18 E18 N18;have B18:=blk_other B17 O17 (by decide) E18;refine zm ?_;refine zk (qr (cs':=#[.pointer (some ⟨b,0,none⟩),.slice A5 (l++ [x]).length c5]) sz46 rfl rfl B18 rfl rfl (Nat.le_of_ble_eq_true rfl) rfl ?_);rintro wK B19 E19;have O19:=zek O18 B18 (by decide) E19;refine qd ?_;exact ⟨rfl,⟨A5,c5,B19,O19,fun q hq=>(N18 q hq).elim (hFb q) (fun h=>hF q (by omega))⟩,(((hE.mono (Y:=fun q=>q=b∨F q) (fun q hq _=>Or.inl (zvz hq))).step E17 (fun _ h=>h.elim)).step E18 (fun q hq=>Or.inl (Or.inr (hFb q (mut_one hq))))).step E19 (fun q hq=>Or.inl (Or.inl (zvz hq)))⟩
theorem vhv (s:ByteArray) (hs1:s.size≤1000) (hl0:0<l.length):Calls Tryz.prog 60 #[.pointer (some ⟨b,0,none⟩),.string s] w fun e w'=>e= .returned (.tuple #[.int .i64 (s.size:Int),.nilIface])∧Bld w' lo b (.pointer (some ⟨b,0,none⟩)) (l++s.data.toList) F∧Ext (fun q=>q=b∨F q) w w':=by
 obtain ⟨A,c,hB,hO,hFb⟩:=h;have hlt:=hB.lt;have hsl:s.data.toList.length=s.size:=by rw[Array.length_toList];rfl
 refine zc Tryz.func60 rfl Tryz.ntmps60 rfl (qd ?_);refine za rfl (zb en112 rfl ((bcheck _ b p hp _ hB).mono ?_));rintro e w1 ⟨rfl,hB2,hE⟩;refine ⟨_,rfl,?_⟩;have hO2:=zek hO hB (by decide) hE;have hs:=hE.size;refine yi ?_;refine za rfl (ye u46 rfl rfl hB2 rfl (stp ?_));refine za rfl (ow_appendStr (n':=(l++s.data.toList).length) u46 u9 inf5 rfl hO2 hl0 rfl (by rw[List.length_append,hsl]) (by rw[List.length_append,hsl];omega) (by omega) ?_);rintro A5 c5 wJ O18 E18 N18;have O18:wJ.ownsRow lo 5 1 (.slice A5 (l++s.data.toList).length c5) (l++s.data.toList).length (Lib.byteCells (l++s.data.toList)):=by
  have e:Lib.byteCells (l++s.data.toList)=Lib.byteCells l++Lib.strCells s:=by unfold Lib.byteCells Lib.strCells;rw[List.map_append]
  rw[e];exact O18
 have B18:=blk_other hB2 hO2 (by decide) E18;refine zm ?_;refine zk (qr (cs':=#[.pointer (some ⟨b,0,none⟩),.slice A5 (l++s.data.toList).length c5]) sz46 rfl rfl B18 rfl rfl (Nat.le_of_ble_eq_true rfl) rfl ?_);rintro wK B19 E19;have O19:=zek O18 B18 (by decide) E19;refine zu ?_;refine zy ?_;refine zl ?_;exact ⟨rfl,⟨A5,c5,B19,O19,fun q hq=>(N18 q hq).elim (hFb q) (fun h=>hF q (by omega))⟩,((hE.mono (Y:=fun q=>q=b∨F q) (fun q hq _=>Or.inl (zvz hq))).step E18 (fun q hq=>Or.inl (Or.inr (hFb q (mut_one hq))))).step E19 (fun q hq=>Or.inl (Or.inl (zvz hq)))⟩
end
end Go.Proofs.YtmnmebdmpigddaaGreatDoor
namespace Go.Proofs.YtmnmebdmpigddaaGreatDoor
open Go.RowKit
theorem stpdq251 {P Q:Prop} (k:Q) (h:(Unit→Q)→P:=by
 intro zK;refine gr (rs:=[.cell 2 24]) (vs:=[_]) rfl ⟨⟨_,rfl,ycz u24 rfl ku BYd rfl⟩,trivial⟩ ?_;exact zK ()):P:=h fun _=>k
theorem stpdq240 {P Q:Prop} (k:Q) (h:(Unit→Q)→P:=by
 intro zK;refine zn ?_;refine onx rfl (zb yek rfl ((jw _ ub A2 B2 c2 d2 (HF.on E).here.1.1.2 hl' true h2).mono ?_));exact zK ()):P:=h fun _=>k
theorem dqz159 {P:Prop} (h:P:=by
 refine qd ?_;exact ⟨by unfold eqV;rw[h1,h2,h3,h4,ho];rfl,(LW.step E XLW).toBelow⟩):P:=h
theorem dqz157 {P:Prop} (h:P:=by
 refine yu ?_;exact ⟨by unfold eqV eqS;rw[h1,h2,h3,ho];rfl,(LW.step E XLW).toBelow⟩):P:=h
theorem dqz152 {P:Prop} (h:P:=by
 refine yu ?_;exact ⟨by unfold eqV eqS;rw[h1,h2,h3,h4,ho];rfl,(LW.step E XLW).toBelow⟩):P:=h
theorem dqz107 {P:Prop} (h:P:=by
 refine qd ?_;exact ⟨by refine congrArg (fun z=>Ending.returned (.bool z)) ?_;unfold gg;first | (simp_all;done) | (simp_all;omega),(LW.step E XLW).toBelow⟩):P:=h
theorem dqz92 {P:Prop} (h:P:=by
 refine qq ?_;intro vs X wq K;have XN:=K.2.1;refine zb en33 rfl ((ylv _ ua A1 B1 c1 d1).mono ?_);rintro e w2 ⟨A3,c3,rfl,hN,hb⟩;exact ⟨_,rfl,hb,⟨(A3,c3),rfl,ztq hN XN⟩⟩):P:=h
attribute [local irreducible] OW RS CW EW
section
variable (w:World) (ua ub:PV) (A1 B1 A2 B2:Option Addr) (c1 d1 c2 d2:Nat) (hx:Nums w A1 ua.xs) (hl:ua.xs.length≤9223372036854775807) (ha:ua.bits<18446744073709551616) (hy:Nums w A2 ub.xs) (hl':ub.xs.length≤9223372036854775807) (hb0:ub.bits<18446744073709551616)
theorem pl_number:Calls Tryz.prog 29 #[pvV ua A1 c1 B1 d1] w (RetB w (.bool (gg ua.k))):=by
 refine zc Tryz.func29 rfl Tryz.ntmps29 rfl ?_;obtain ⟨HF,LW,XLW,E⟩:=wk0 w;refine zi ?_;intro gb1 w2 Bb1 Eb1 Gb1;obtain ⟨HF,LW,E⟩:=frz HF LW E XLW Bb1 Eb1;refine qd ?_;refine zj 6 rfl (fun h1=>?_) (fun h1=>?_)
 ·
  replace h1:=of_decide_eq_true h1;exact dqz107
 ·
  replace h1:=of_decide_eq_false h1;exact dqz107
include hx hl
theorem jw (r:Bool) (hr:PV.good ua=r):Calls Tryz.prog 28 #[pvV ua A1 c1 B1 d1] w (RetB w (.bool r)):=by
 subst hr;exact pgood_any w ua.k ua.yes ua.neg A1 B1 ua.xs c1 ua.bits ua.ni d1 ua.s hx hl
omit hx hl in
theorem zpx (r:Bool) (hr:gg ua.k=r):Calls Tryz.prog 29 #[pvV ua A1 c1 B1 d1] w (RetB w (.bool r)):=by
 subst hr;exact pl_number w ua A1 B1 c1 d1
omit hx hl
theorem ylv:Calls Tryz.prog 33 #[pvV ua A1 c1 B1 d1] w (RetCnt w A1 ua.cn ua.xs ua.cx):=by
 refine zc Tryz.func33 rfl Tryz.ntmps33 rfl (zi ?_);rintro g1 wA BX E1 G1;refine yq ?_;rintro g2 wB BY E2 G2;have BXb:=BX.ext E2 (fun h=>h.elim);have E12:=E1.trans E2;refine zz ?_;refine zg rfl (fun hk=>?_) (fun hk=>?_)
 ·
  have hk1:ua.k=1:=by simpa using hk
  have e1:ua.cn=false:=by unfold PV.cn;rw[if_pos hk1]
  refine zp ?_;refine zg rfl (fun hyes=>?_) (fun hyes=>?_)
  ·
   have e2:ua.cx= [1]:=by unfold PV.cx;rw[if_pos hk1,if_pos hyes]
   refine zm ?_;refine za rfl (zb en72 rfl ((qux 1 _ (by decide) (by decide)).mono ?_));rintro e w1 ⟨A3,c3,rfl,hO,hb⟩;refine ⟨_,rfl,?_⟩;have E3:=Ext.of_below hb No;have BYc:=BY.ext E3 (fun h=>h.elim);refine zk (zw ku rfl rfl BYc rfl rfl rfl ?_);rintro wC BYd E4;have hs:=E12.size;have h3:=zxv hO E4 BY.lt hs;refine zu ?_;refine stpdq251 ?_;exact ⟨A3,c3,by rw[e1,e2,←ylk];rfl,Or.inr (by rw[e2,←ylk];exact h3),((E12.trans E3).step E4 (fun q hq=>Or.inr (by have:=zvz hq;have:=E1.size;omega))).toBelow⟩
  ·
   have e2:ua.cx= []:=by unfold PV.cx;rw[if_pos hk1,if_neg (by rw[hyes];decide)]
   refine zx ?_;refine zxx ?_;refine zk (zw ku rfl rfl BY rfl rfl rfl ?_);rintro wC BYd E4;refine zx ?_;refine stpdq251 ?_;exact ⟨none,0,by rw[e1,e2];rfl,Or.inr (by rw[e2];exact ziz),(E12.step E4 (fun q hq=>Or.inr (by have:=zvz hq;have:=E1.size;omega))).toBelow⟩
 ·
  have hk1:ua.k≠1:=by simpa using hk
  have e1:ua.cn=ua.neg:=by unfold PV.cn;rw[if_neg hk1]
  have e2:ua.cx=ua.xs:=by unfold PV.cx;rw[if_neg hk1]
  refine stpdq282 ?_;refine zk (zw ku rfl rfl BY rfl rfl rfl ?_);rintro wC BYd E4;refine zn ?_;have E5:Ext No w wC:=E12.step E4 (fun q hq=>Or.inr (by have:=zvz hq;have:=E1.size;omega));refine stpdq251 ?_;exact ⟨A1,c1,by rw[e1,e2];rfl,Or.inl ⟨rfl,e2⟩,E5.toBelow⟩
include hx hl ha hy hl' hb0
theorem pl_order:Calls Tryz.prog 64 #[pvV ua A1 c1 B1 d1,pvV ub A2 c2 B2 d2] w (RetB w (.tuple #[.int .i64 (ordC ua ub),.bool (ordO ua ub)])):=by
 have hcl:=PV.cx_len hl;have hcl':=PV.cx_len hl';refine zc Tryz.func64 rfl Tryz.ntmps64 rfl ?_;obtain ⟨HF,LW,XLW,E⟩:=wk0 w;replace HF:=HF.and (Per.nums0 hx);replace HF:=HF.and (Per.nums0 hy);by_cases hk3:ua.k=3
 ·
  by_cases hj3:ub.k=3
  ·
   refine zi ?_;intro gb1 w2 Bb1 Eb1 Gb1;obtain ⟨HF,LW,E⟩:=frz HF LW E XLW Bb1 Eb1;refine za rfl (jz rfl ?_);intro gb3 w4 Bb3 Eb3 Gb3;obtain ⟨HF,LW,E⟩:=frz HF LW E XLW Bb3 Eb3;refine vp ?_;refine zf 12 (.bool true) rfl (by simp[hk3]) (zp ?_);refine zd 8 (.bool true) rfl (by simp[hj3]) (zp ?_);refine zh rfl en117 rfl (cmp_any_r _ ua.bits ub.bits) E fun w5 E=>(zz ?_);exact ⟨by unfold ordC ordO;rw[if_pos hk3,if_pos hk3,if_pos hj3,if_pos hj3];rfl,(LW.step E XLW).toBelow⟩
  ·
   refine zi ?_;intro gb6 w7 Bb6 Eb6 Gb6;obtain ⟨HF,LW,E⟩:=frz HF LW E XLW Bb6 Eb6;refine za rfl (jz rfl ?_);intro gb8 w9 Bb8 Eb8 Gb8;obtain ⟨HF,LW,E⟩:=frz HF LW E XLW Bb8 Eb8;refine vp ?_;refine zf 12 (.bool true) rfl (by simp[hk3]) (zp ?_);refine zd 8 (.bool false) rfl (by simp[hj3]) (qd ?_);refine zd 24 (.bool true) rfl (by simp[hk3]) (zm ?_);have OY:∀q9,(Mut (xz [])) q9→q9<(World.drew w9).heap.size→(No) q9:=fun k h _=>(Mut.none_) k h;refine qm (No) Mut.none_ [] [] (zcx [Fx.of (.pointer (some ⟨gb6,4,none⟩)),
    Fx.of (.int .u64 (ua.bits:Int)),
    Fx.of (pvV ub A2 c2 B2 d2),
    ⟨(Option Addr×Nat),fun (A3,c3)=>.agg #[.bool ub.cn,.slice A3 ub.cx.length c3],fun (A3,c3) b=>(CntV b A2 A3 ub.xs (PV.cx ub))⟩,
    Fx.of (.tuple #[.int .i64 (yiq ua.bits ub.cn ub.cx),.bool (zgx ua.bits ub.cn ub.cx)]),
    Fx.of (.int .i64 (yiq ua.bits ub.cn ub.cx)),
    Fx.of (.bool (zgx ua.bits ub.cn ub.cx)),
    Fx.of (.int .i64 (yiq ua.bits ub.cn ub.cx)),
    Fx.of (.bool (zgx ua.bits ub.cn ub.cx))]) mixed rfl trivial (fun _ h=>by cases h) ?_ ?_
   · refine ⟨arm,arm,arm,?_,?_,arm,arm,arm,arm,trivial⟩
     · refine qq ?_;intro vs X wq K;have XN:=K.2.1;refine zb en33 rfl ((ylv _ ub A2 B2 c2 d2).mono ?_);rintro e w2 ⟨A3,c3,rfl,hN,hb⟩;exact ⟨_,rfl,hb,⟨(A3,c3),rfl,ztq hN XN⟩⟩
     · refine qq ?_;intro vs X wq K;have LE:=K.1;obtain ⟨⟨A3,c3⟩,e3,k3⟩:=K.dep 3 rfl rfl rfl;refine gm 31 _ rfl e3 (zb en118 rfl ((cmpbig_any _ ua.bits ha ub.cn A3 c3 ub.cx ((k3.here).nums (HF.on (E.drew.trans (LE.mono OY))).here.1.1.2) hcl').mono ?_));exact yix
   intro vs w10 LE AO AL AF AA;replace E:=E.drew.trans (LE.mono OY);obtain ⟨_,e7,k7⟩:=AL.2.2.2.2.2.2.2.1;obtain ⟨_,e8,k8⟩:=AL.2.2.2.2.2.2.2.2.1;refine ja (τ:=[(2,_),(3,_),(4,.int .i64 (yiq ua.bits ub.cn ub.cx)),(5,.bool (zgx ua.bits ub.cn ub.cx))]) ⟨rfl,rfl,congrArg some e7,congrArg some e8,trivial⟩ ?_;clear AL AF AA LE AO OY e7 e8 k7 k8;refine zu ?_;exact ⟨by unfold ordC ordO;rw[if_pos hk3,if_pos hk3,if_neg hj3,if_neg hj3];rfl,(LW.step E XLW).toBelow⟩
 ·
  refine zi ?_;intro gb11 w12 Bb11 Eb11 Gb11;obtain ⟨HF,LW,E⟩:=frz HF LW E XLW Bb11 Eb11;refine za rfl (jz rfl ?_);intro gb13 w14 Bb13 Eb13 Gb13;obtain ⟨HF,LW,E⟩:=frz HF LW E XLW Bb13 Eb13;refine vp ?_;refine zf 12 (.bool false) rfl (by simp[hk3]) (og ?_);refine zd 24 (.bool false) rfl (by simp[hk3]) ?_;by_cases hj3:ub.k=3
  ·
   refine qd ?_;refine zd 35 (.bool true) rfl (by simp[hj3]) (zm ?_);have OY:∀q9,(Mut (xz [])) q9→q9<(World.drew w14).heap.size→(No) q9:=fun k h _=>(Mut.none_) k h;refine qm (No) Mut.none_ [] [] (zcx [Fx.of (.pointer (some ⟨gb13,4,none⟩)),
    Fx.of (.int .u64 (ub.bits:Int)),
    Fx.of (pvV ua A1 c1 B1 d1),
    ⟨(Option Addr×Nat),fun (A3,c3)=>.agg #[.bool ua.cn,.slice A3 ua.cx.length c3],fun (A3,c3) b=>(CntV b A1 A3 ua.xs (PV.cx ua))⟩,
    Fx.of (.tuple #[.int .i64 (yiq ub.bits ua.cn ua.cx),.bool (zgx ub.bits ua.cn ua.cx)]),
    Fx.of (.tuple #[.int .i64 (yiq ub.bits ua.cn ua.cx),.bool (zgx ub.bits ua.cn ua.cx)]),
    Fx.of (.int .i64 (yiq ub.bits ua.cn ua.cx)),
    Fx.of (.bool (zgx ub.bits ua.cn ua.cx)),
    Fx.of (.int .i64 (yiq ub.bits ua.cn ua.cx)),
    Fx.of (.bool (zgx ub.bits ua.cn ua.cx))]) mixed rfl trivial (fun _ h=>by cases h) ?_ ?_
   · refine ⟨arm,arm,arm,?_,?_,arm,arm,arm,arm,arm,trivial⟩
     · exact dqz92
     · refine qq ?_;intro vs X wq K;have LE:=K.1;obtain ⟨⟨A3,c3⟩,e3,k3⟩:=K.dep 3 rfl rfl rfl;refine gm 43 _ rfl e3 (zb en118 rfl ((cmpbig_any _ ub.bits hb0 ua.cn A3 c3 ua.cx ((k3.here).nums (HF.on (E.drew.trans (LE.mono OY))).here.1.1.1.2) hcl).mono ?_));exact yix
   intro vs w15 LE AO AL AF AA;replace E:=E.drew.trans (LE.mono OY);obtain ⟨_,e8,k8⟩:=AL.2.2.2.2.2.2.2.2.1;obtain ⟨_,e9,k9⟩:=AL.2.2.2.2.2.2.2.2.2.1;refine ja (τ:=[(2,_),(3,_),(4,_),(5,_),(6,.int .i64 (yiq ub.bits ua.cn ua.cx)),(7,.bool (zgx ub.bits ua.cn ua.cx))]) ⟨rfl,rfl,rfl,rfl,congrArg some e8,congrArg some e9,trivial⟩ ?_;clear AL AF AA LE AO OY e8 e9 k8 k9;have hcv:=cmpV_in ub.bits ua.cn ua.cx;refine zx ?_;refine zjz ?_;refine qd ?_;exact ⟨by unfold ordC ordO;rw[if_neg hk3,if_neg hk3,if_pos hj3,if_pos hj3];rfl,(LW.step E XLW).toBelow⟩
  ·
   refine qd ?_;refine zd 35 (.bool false) rfl (by simp[hj3]) (zu ?_);have OY:∀q9,(Mut (xz [])) q9→q9<(World.drew w14).heap.size→(No) q9:=fun k h _=>(Mut.none_) k h;refine qm (No) Mut.none_ [] [] (zcx [Fx.of (pvV ua A1 c1 B1 d1),
    ⟨(Option Addr×Nat),fun (A3,c3)=>.agg #[.bool ua.cn,.slice A3 ua.cx.length c3],fun (A3,c3) b=>(CntV b A1 A3 ua.xs (PV.cx ua))⟩,
    Fx.of (pvV ub A2 c2 B2 d2),
    ⟨(Option Addr×Nat),fun (A4,c4)=>.agg #[.bool ub.cn,.slice A4 ub.cx.length c4],fun (A4,c4) b=>(CntV b A2 A4 ub.xs (PV.cx ub))⟩,
    Fx.of (.int .i64 (cmpO (zr ua.cn ua.cx&&zr ub.cn ub.cx) (num ua.cn ua.cx) (num ub.cn ub.cx))),
    Fx.of (.int .i64 (cmpO (zr ua.cn ua.cx&&zr ub.cn ub.cx) (num ua.cn ua.cx) (num ub.cn ub.cx))),
    Fx.of (.bool true)]) mixed rfl trivial (fun _ h=>by cases h) ?_ ?_
   · refine ⟨arm,?_,arm,?_,?_,arm,arm,trivial⟩
     · exact dqz92
     · refine qq ?_;intro vs X wq K;have XN:=K.2.1;refine zb en33 rfl ((ylv _ ub A2 B2 c2 d2).mono ?_);rintro e w2 ⟨A4,c4,rfl,hN,hb⟩;exact ⟨_,rfl,hb,⟨(A4,c4),rfl,ztq hN XN⟩⟩
     · intro vs X wq K;have LE:=K.1;obtain ⟨⟨A3,c3⟩,e1,k1⟩:=K.dep 1 rfl rfl rfl;refine gm 51 _ rfl e1 ?_;obtain ⟨⟨A4,c4⟩,e3,k3⟩:=K.dep 3 rfl rfl rfl;refine gm 53 _ rfl e3 (zb en40 rfl ((cmp_any A3 A4 c3 c4 ua.cx ub.cx _ ua.cn ub.cn ((k1.here).nums (HF.on (E.drew.trans (LE.mono OY))).here.1.1.1.2) ((k3.here).nums (HF.on (E.drew.trans (LE.mono OY))).here.1.1.2) hcl hcl').mono ?_));exact yix
   intro vs w16 LE AO AL AF AA;replace E:=E.drew.trans (LE.mono OY);obtain ⟨_,e5,k5⟩:=AL.2.2.2.2.2.1;obtain ⟨_,e6,k6⟩:=AL.2.2.2.2.2.2.1;refine ja (τ:=[(4,.int .i64 (cmpO (zr ua.cn ua.cx&&zr ub.cn ub.cx) (num ua.cn ua.cx) (num ub.cn ub.cx))),(5,.bool true)]) ⟨congrArg some e5,congrArg some e6,trivial⟩ ?_;clear AL AF AA LE AO OY e5 e6 k5 k6;refine zn ?_;exact ⟨by unfold ordC ordO;rw[if_neg hk3,if_neg hk3,if_neg hj3,if_neg hj3];rfl,(LW.step E XLW).toBelow⟩
theorem pl_eq1 (h1:ua.good=false):Calls Tryz.prog 26 #[pvV ua A1 c1 B1 d1,pvV ub A2 c2 B2 d2] w (RetB w (.bool (eqV ua ub))):=by
 have _:=hx;have _:=hl;have _:=ha;have _:=hy;have _:=hl';have _:=hb0;refine zc Tryz.func26 rfl Tryz.ntmps26 rfl ?_;obtain ⟨HF,LW,XLW,E⟩:=wk0 w;replace HF:=HF.and (Per.nums0 hx);replace HF:=HF.and (Per.nums0 hy);refine zi ?_;intro gb1 w2 Bb1 Eb1 Gb1;obtain ⟨HF,LW,E⟩:=frz HF LW E XLW Bb1 Eb1;refine za rfl (jz rfl ?_);intro gb3 w4 Bb3 Eb3 Gb3;obtain ⟨HF,LW,E⟩:=frz HF LW E XLW Bb3 Eb3;refine zp ?_;refine zh rfl yek rfl (jw _ ua A1 B1 c1 d1 (HF.on E).here.1.1.1.2 hl false h1) E fun w5 E=>(zxz ?_);exact ⟨by unfold eqV;rw[h1];rfl,(LW.step E XLW).toBelow⟩
theorem pl_eq2 (h1:ua.good=true) (h2:ub.good=false):Calls Tryz.prog 26 #[pvV ua A1 c1 B1 d1,pvV ub A2 c2 B2 d2] w (RetB w (.bool (eqV ua ub))):=by
 have _:=hx;have _:=hl;have _:=ha;have _:=hy;have _:=hl';have _:=hb0;refine zc Tryz.func26 rfl Tryz.ntmps26 rfl ?_;obtain ⟨HF,LW,XLW,E⟩:=wk0 w;replace HF:=HF.and (Per.nums0 hx);replace HF:=HF.and (Per.nums0 hy);refine zi ?_;intro gb1 w2 Bb1 Eb1 Gb1;obtain ⟨HF,LW,E⟩:=frz HF LW E XLW Bb1 Eb1;refine za rfl (jz rfl ?_);intro gb3 w4 Bb3 Eb3 Gb3;obtain ⟨HF,LW,E⟩:=frz HF LW E XLW Bb3 Eb3;refine zp ?_;refine zh rfl yek rfl (jw _ ua A1 B1 c1 d1 (HF.on E).here.1.1.1.2 hl true h1) E fun w5 E=>(zn ?_);refine onx rfl (zb yek rfl ((jw _ ub A2 B2 c2 d2 (HF.on E).here.1.1.2 hl' false h2).mono ?_));rintro e w6 ⟨rfl,hb⟩;refine ⟨_,rfl,?_⟩;replace E:=blx E hb;refine jt ?_;exact ⟨by unfold eqV;rw[h1,h2];rfl,(LW.step E XLW).toBelow⟩
theorem pl_eq3 (h1:ua.good=true) (h2:ub.good=true) (h3:gg ua.k=true) (h4:gg ub.k=true):Calls Tryz.prog 26 #[pvV ua A1 c1 B1 d1,pvV ub A2 c2 B2 d2] w (RetB w (.bool (eqV ua ub))):=by
 have _:=hx;have _:=hl;have _:=ha;have _:=hy;have _:=hl';have _:=hb0;refine zc Tryz.func26 rfl Tryz.ntmps26 rfl ?_;obtain ⟨HF,LW,XLW,E⟩:=wk0 w;replace HF:=HF.and (Per.nums0 hx);replace HF:=HF.and (Per.nums0 hy);refine zi ?_;intro gb1 w2 Bb1 Eb1 Gb1;obtain ⟨HF,LW,E⟩:=frz HF LW E XLW Bb1 Eb1;refine za rfl (jz rfl ?_);intro gb3 w4 Bb3 Eb3 Gb3;obtain ⟨HF,LW,E⟩:=frz HF LW E XLW Bb3 Eb3;refine zp ?_;refine zh rfl yek rfl (jw _ ua A1 B1 c1 d1 (HF.on E).here.1.1.1.2 hl true h1) E fun w5 E=>(stpdq240 ?_);rintro e w6 ⟨rfl,hb⟩;refine ⟨_,rfl,?_⟩;replace E:=blx E hb;refine yu ?_;refine zh rfl en29 rfl (zpx _ ua A1 B1 c1 d1 true h3) E fun w7 E=>(zm ?_);refine onx rfl (zb en29 rfl ((zpx _ ub A2 B2 c2 d2 true h4).mono ?_));rintro e w8 ⟨rfl,hb⟩;refine ⟨_,rfl,?_⟩;replace E:=blx E hb;refine yi ?_;refine zh rfl en64 rfl (pl_order _ ua ub A1 B1 A2 B2 c1 d1 c2 d2 (HF.on E).here.1.1.1.2 hl ha (HF.on E).here.1.1.2 hl' hb0) E fun w9 E=>(yu ?_);by_cases ho:ordO ua ub=true
 ·
  refine zf 28 (.bool true) rfl (by rw[ho]<;>rfl) ?_;exact dqz159
 ·
  have ho:=Bool.eq_false_iff.2 ho;refine zf 28 (.bool false) rfl (by rw[ho]<;>rfl) ?_;exact dqz159
theorem pl_eq4 (h1:ua.good=true) (h2:ub.good=true) (h3:gg ua.k=false):Calls Tryz.prog 26 #[pvV ua A1 c1 B1 d1,pvV ub A2 c2 B2 d2] w (RetB w (.bool (eqV ua ub))):=by
 have _:=hx;have _:=hl;have _:=ha;have _:=hy;have _:=hl';have _:=hb0;refine zc Tryz.func26 rfl Tryz.ntmps26 rfl ?_;obtain ⟨HF,LW,XLW,E⟩:=wk0 w;replace HF:=HF.and (Per.nums0 hx);replace HF:=HF.and (Per.nums0 hy);refine zi ?_;intro gb1 w2 Bb1 Eb1 Gb1;obtain ⟨HF,LW,E⟩:=frz HF LW E XLW Bb1 Eb1;refine za rfl (jz rfl ?_);intro gb3 w4 Bb3 Eb3 Gb3;obtain ⟨HF,LW,E⟩:=frz HF LW E XLW Bb3 Eb3;refine zp ?_;refine zh rfl yek rfl (jw _ ua A1 B1 c1 d1 (HF.on E).here.1.1.1.2 hl true h1) E fun w5 E=>(stpdq240 ?_);rintro e w6 ⟨rfl,hb⟩;refine ⟨_,rfl,?_⟩;replace E:=blx E hb;refine yu ?_;refine zh rfl en29 rfl (zpx _ ua A1 B1 c1 d1 false h3) E fun w7 E=>(zxz ?_);by_cases ho:(ua.k==ub.k)=true
 ·
  refine zf 37 (.bool true) rfl (by rw[ho]<;>rfl) ?_;exact dqz157
 ·
  have ho:=Bool.eq_false_iff.2 ho;refine zf 37 (.bool false) rfl (by rw[ho]<;>rfl) ?_;exact dqz157
theorem pl_eq5 (h1:ua.good=true) (h2:ub.good=true) (h3:gg ua.k=true) (h4:gg ub.k=false):Calls Tryz.prog 26 #[pvV ua A1 c1 B1 d1,pvV ub A2 c2 B2 d2] w (RetB w (.bool (eqV ua ub))):=by
 have _:=hx;have _:=hl;have _:=ha;have _:=hy;have _:=hl';have _:=hb0;refine zc Tryz.func26 rfl Tryz.ntmps26 rfl ?_;obtain ⟨HF,LW,XLW,E⟩:=wk0 w;replace HF:=HF.and (Per.nums0 hx);replace HF:=HF.and (Per.nums0 hy);refine zi ?_;intro gb1 w2 Bb1 Eb1 Gb1;obtain ⟨HF,LW,E⟩:=frz HF LW E XLW Bb1 Eb1;refine za rfl (jz rfl ?_);intro gb3 w4 Bb3 Eb3 Gb3;obtain ⟨HF,LW,E⟩:=frz HF LW E XLW Bb3 Eb3;refine zp ?_;refine zh rfl yek rfl (jw _ ua A1 B1 c1 d1 (HF.on E).here.1.1.1.2 hl true h1) E fun w5 E=>(stpdq240 ?_);rintro e w6 ⟨rfl,hb⟩;refine ⟨_,rfl,?_⟩;replace E:=blx E hb;refine yu ?_;refine zh rfl en29 rfl (zpx _ ua A1 B1 c1 d1 true h3) E fun w7 E=>(zm ?_);refine onx rfl (zb en29 rfl ((zpx _ ub A2 B2 c2 d2 false h4).mono ?_));rintro e w8 ⟨rfl,hb⟩;refine ⟨_,rfl,?_⟩;replace E:=blx E hb;refine jm ?_;by_cases ho:(ua.k==ub.k)=true
 ·
  refine zf 37 (.bool true) rfl (by rw[ho]<;>rfl) ?_;exact dqz152
 ·
  have ho:=Bool.eq_false_iff.2 ho;refine zf 37 (.bool false) rfl (by rw[ho]<;>rfl) ?_;exact dqz152
theorem pl_equal:Calls Tryz.prog 26 #[pvV ua A1 c1 B1 d1,pvV ub A2 c2 B2 d2] w (RetB w (.bool (eqV ua ub))):=by
 cases h1:ua.good
 · exact pl_eq1 w ua ub A1 B1 A2 B2 c1 d1 c2 d2 hx hl ha hy hl' hb0 h1
 cases h2:ub.good
 · exact pl_eq2 w ua ub A1 B1 A2 B2 c1 d1 c2 d2 hx hl ha hy hl' hb0 h1 h2
 cases h3:gg ua.k
 · exact pl_eq4 w ua ub A1 B1 A2 B2 c1 d1 c2 d2 hx hl ha hy hl' hb0 h1 h2 h3
 cases h4:gg ub.k
 · exact pl_eq5 w ua ub A1 B1 A2 B2 c1 d1 c2 d2 hx hl ha hy hl' hb0 h1 h2 h3 h4
 · exact pl_eq3 w ua ub A1 B1 A2 B2 c1 d1 c2 d2 hx hl ha hy hl' hb0 h1 h2 h3 h4
end
end Go.Proofs.YtmnmebdmpigddaaGreatDoor
namespace Go.Proofs.YtmnmebdmpigddaaGreatDoor
open Go.RowKit
theorem stpdq288 {P Q:Prop} (k:Q) (h:(Unit→Q)→P:=by
 intro zK;refine zx ?_;refine za rfl (gf rfl rfl (and15 x) (za rfl (gu (j:=x.toNat%16) u9 rfl rfl rfl (hex_at (by omega)) ?_)));exact zK ()):P:=h fun _=>k
theorem stpdq285 {P Q:Prop} (k:Q) (h:(Unit→Q)→P:=by
 intro zK;refine zl ?_;refine za rfl (kd (j:=i) u46 sz5 rfl rfl rfl hil (za rfl (vq u5 rfl rfl (hcell _ XI) ?_)));exact zK ()):P:=h fun _=>k
theorem stpdq269 {P Q:Prop} (k:Q) (h:(Unit→Q)→P:=by
 intro zK;refine zu ?_;refine za rfl (jh rfl rfl (by decide) (shr4 x) (za rfl (gu (j:=x.toNat/16) u9 rfl rfl rfl (hex_at (by have:=x.toNat_lt;omega)) ?_)));exact zK ()):P:=h fun _=>k
attribute [local irreducible] OW RS CW EW
def hexL:List UInt8:=[48,49,50,51,52,53,54,55,56,57,97,98,99,100,101,102]
def yvv (n:Nat):UInt8:=hexL.getD n 0
def qb (x:UInt8):List UInt8:=
 if x.toNat=10 then [92,110] else if x.toNat=9 then [92,116] else if x.toNat=92 then [92,x] else if x.toNat=39 then [92,x]
 else if x.toNat<32 then [92,120,yvv (x.toNat/16),yvv (x.toNat%16)] else if 126<x.toNat then [92,120,yvv (x.toNat/16),yvv (x.toNat%16)] else [x]
def xp (l:List UInt8):List UInt8:=39::l.flatMap qb
theorem qb_len (x:UInt8):(qb x).length≤4:=by unfold qb;(repeat' split)<;>simp
theorem qList_len:∀(l:List UInt8),(xp l).length≤1+4*l.length
 | []=>by decide
 | x::l=>by
  have h:=qList_len l;have h2:=qb_len x;unfold xp at h ⊢;simp only[List.length_cons,List.flatMap_cons,List.length_append] at h ⊢
  omega
theorem ou {l:List UInt8} {i:Nat} {x:UInt8} (h:l[i]? =some x):xp (l.take (i+1))=xp (l.take i)++qb x:=by
 unfold xp;obtain ⟨hi,he⟩:=List.getElem?_eq_some_iff.1 h;rw[List.take_succ_eq_append_getElem hi,List.flatMap_append,he];simp
theorem shr4 (x:UInt8):(x.toNat:Int).fdiv (2^(min (4:Int).toNat IntKind.u8.bits))=((x.toNat/16:Nat):Int):=by
 have key:∀n:Fin 256,(n.val:Int).fdiv (2^(min (4:Int).toNat IntKind.u8.bits))=((n.val/16:Nat):Int):=by decide +kernel
 exact key ⟨x.toNat,x.toNat_lt⟩
theorem and15 (x:UInt8):IntKind.u8.wrap (BitVec.ofInt IntKind.u8.bits (x.toNat:Int) &&& BitVec.ofInt IntKind.u8.bits 15).toNat=((x.toNat%16:Nat):Int):=by
 have key:∀n:Fin 256,IntKind.u8.wrap (BitVec.ofInt IntKind.u8.bits (n.val:Int) &&& BitVec.ofInt IntKind.u8.bits 15).toNat=((n.val%16:Nat):Int):=by decide +kernel
 exact key ⟨x.toNat,x.toNat_lt⟩
theorem hex_at {j:Nat} (h:j<16):(⟨#[48,49,50,51,52,53,54,55,56,57,97,98,99,100,101,102]⟩:ByteArray)[j]? =some (yvv j):=by
 have key:∀n:Fin 16,(#[48,49,50,51,52,53,54,55,56,57,97,98,99,100,101,102]:Array UInt8)[n.val]? =some (yvv n.val):=by decide +kernel
 exact key ⟨j,h⟩
section
variable (w:World) (ua:PV) (A1 B1:Option Addr) (c1 d1:Nat) (hx:Nums w A1 ua.xs) (hl:ua.xs.length≤9223372036854775807) (g1:ua.good=true) (h4:ua.k=4) (hsl:ua.s.size≤20000)
include hx hl g1 h4 hsl
theorem pl_quote:Calls Tryz.prog 23 #[pvV ua A1 c1 B1 d1] w (RetB w (.string ⟨(xp ua.s.data.toList++ [39]).toArray⟩)):=by
 have hsn:ua.s.data.toList.length=ua.s.size:=by rw[Array.length_toList];rfl
 obtain ⟨lo,hlo⟩:∃lo,lo=w.heap.size:=⟨_,rfl⟩;refine zc Tryz.func23 rfl Tryz.ntmps23 rfl (zi ?_);rintro gv wA BX E1 G1;refine zz ?_;refine zf 9 (.bool false) rfl (by rw[h4];rfl) (onx rfl (ymz (cs:=#[.int .i64 ua.k,.bool ua.yes,.bool ua.neg,.slice A1 ua.xs.length c1,.int .u64 (ua.bits:Int),.string ua.s,.slice B1 ua.ni d1]) u28 rfl kt rfl rfl (fun j v hj↦by have h:=(BX.cell j).trans hj;rw[Nat.zero_add];exact h) (onx rfl (zb yek rfl ((jw _ ua A1 B1 c1 d1 (Per.nums0 hx _ E1) hl true g1).mono ?_)))));rintro e w1 ⟨rfl,hb⟩;refine ⟨_,rfl,?_⟩;have E2:=E1.trans (Ext.of_below hb No);have BX2:=BX.ext (Ext.of_below hb No) (fun h=>h.elim);refine qd ?_;refine za rfl (zak zr81 ?_);rintro gb wB BB E3 G3;have E4:=E2.trans E3;have BX3:=BX2.ext E3 (fun h=>h.elim);have hs2:=E2.size;have hgb:lo≤gb:=by omega
 obtain ⟨hi,hhi⟩:∃hi,hi=wB.heap.size:=⟨_,rfl⟩;have hs4:=E4.size;have hlh:lo≤hi:=by omega
 refine zx ?_;refine za rfl (zb en59 rfl ((zrq _ lo gb (.pointer none) (Or.inl rfl) [] (by decide) (fun q=>hi≤q) ⟨none,0,BB,zeq,fun q hq=>(by cases hq)⟩ hgb (fun q hq=>by show hi≤q;omega) 39).mono ?_));rintro e w2 ⟨rfl,M0,X0⟩;refine ⟨_,rfl,?_⟩;have T0:Ext (fun q=>lo≤q) w w2:=(E4.noL lo).step X0 (fun q hq=>Or.inl (hq.elim (fun h=>by show lo≤q;omega) (fun h=>by have h:hi≤q:=h;show lo≤q;omega)));obtain ⟨A3,c3,MB,MO,MF⟩:=M0;have hvb:gv<gb:=by have:=BX2.lt;omega
 have hbh:gb<hi:=by have:=BB.lt;omega
 have BX4:=BX3.ext X0 (fun hq=>hq.elim (fun h=>by omega) (fun h=>by have h:hi≤gv:=h;omega));refine zp ?_;refine za rfl (vav u9 u46 u5 rfl rfl rfl ?_);rintro gx cx wC RX E5 GX;have T1:=T0.step E5 (fun _ h=>h.elim);have hsX:=X0.size;have M1:Bld wC lo gb (.pointer (some ⟨gb,0,none⟩)) (xp (ua.s.data.toList.take 0)) (fun q=>hi≤q∧(0<ua.s.size→q≠gx)):=Bld.no ⟨A3,c3,MB,MO,fun q hq=>⟨MF q hq,fun _ e=>by have:=jx MO q hq;omega⟩⟩ E5;have hgxl:0<ua.s.size→gx<wC.heap.size:=fun h0=>World.block_lt_of_cell? _ _ (RX 0 _ (by rw[List.getElem?_map,List.getElem?_eq_getElem (show 0<ua.s.data.toList.length by omega)];rfl));have hFz:∀ {z},Ext (fun q=>q=gb∨(hi≤q∧(0<ua.s.size→q≠gx))) wC z→ ∀q,z.heap.size≤q→hi≤q∧(0<ua.s.size→q≠gx):=fun h q hq=>by
  have h1:=h.size;have h2:=E5.size;exact ⟨by omega,fun h0 e=>by have:=hgxl h0;omega⟩
 refine zu ?_;refine yw (ι:=Nat) (fun i=>[(3,.pointer (some ⟨gb,0,none⟩)),(19,.slice (some ⟨gx,0,none⟩) ua.s.size cx),(20,.int .i64 (ua.s.size:Int)),(21,.int .i64 ((i:Nat):Int))]) (fun i w'=>i≤ua.s.size∧Ext (fun q=>q=gb∨(hi≤q∧(0<ua.s.size→q≠gx))) wC w'∧Bld w' lo gb (.pointer (some ⟨gb,0,none⟩)) (xp (ua.s.data.toList.take i)) (fun q=>hi≤q∧(0<ua.s.size→q≠gx))) (fun i=>ua.s.size-i) 0 ⟨rfl,rfl,rfl,rfl,trivial⟩ (⟨Nat.zero_le _,Ext.refl _ _,M1⟩) ?_;rintro i w4 ⟨hin,XI,MI⟩;have hML:=qList_len (ua.s.data.toList.take i);rw[List.length_take] at hML;have hM0:0<(xp (ua.s.data.toList.take i)).length:=Nat.zero_lt_succ _;refine zl ?_;refine zg rfl (fun hic=>?_) (fun hic=>?_)
 ·
  have hic:=of_decide_eq_true hic;have hil:i<ua.s.size:=by omega
  obtain ⟨x,hxl⟩:∃x,ua.s.data.toList[i]? =some x:=⟨_,List.getElem?_eq_getElem (by omega)⟩;have hcell:∀z,Ext (fun q=>q=gb∨(hi≤q∧(0<ua.s.size→q≠gx))) wC z→z.cell? ⟨gx,0+i,none⟩=some (.int .u8 (x.toNat:Int)):=fun z hz=>by
   have h1:=RX i (.int .u8 (x.toNat:Int)) (by rw[List.getElem?_map,hxl];rfl);rw[Nat.zero_add];refine (hz.cell (World.block_lt_of_cell? _ _ h1) (fun hq=>hq.elim (fun h=>?_) (fun h=>h.2 (by omega) rfl))).trans h1;have h:gx=gb:=h;have:=hsX;omega
  refine stpdq285 ?_;refine yu ?_;by_cases h10:x.toNat=10
  ·
   refine zd 27 (.bool true) rfl (by rw[h10];rfl) (zm ?_);refine za rfl (zb en60 rfl ((vhv _ lo gb _ (Or.inr rfl) (xp (ua.s.data.toList.take i)) (by first | omega | (simp only[List.length_append,List.length_cons,List.length_nil];omega)) (fun q=>hi≤q∧(0<ua.s.size→q≠gx)) MI hgb (hFz XI) ⟨#[92,110]⟩ (by decide) (by first | omega | (simp only[List.length_append];omega))).mono ?_));rintro e w5 ⟨rfl,M1,X1⟩;refine ⟨_,rfl,?_⟩;have T1:=XI.step X1 (fun q hq=>Or.inl hq);refine je ?_;exact zo (i+1) (by show ua.s.size-(i+1)<ua.s.size-i;omega) ⟨rfl,rfl,rfl,rfl,trivial⟩ (⟨by omega,T1,by rw[ou hxl];rw[show qb x= [92,110] from (by unfold qb;rw[if_pos h10])];first | exact M1 | (have h:=M1;simp only[List.append_assoc] at h;exact h)⟩)
  ·
   refine zd 27 (.bool false) rfl (congrArg Value.bool (beq_eq_false_iff_ne.2 (fun h=>h10 (by omega)))) (yi ?_);by_cases h9:x.toNat=9
   ·
    refine zd 31 (.bool true) rfl (by rw[h9];rfl) (zm ?_);refine za rfl (zb en60 rfl ((vhv _ lo gb _ (Or.inr rfl) (xp (ua.s.data.toList.take i)) (by first | omega | (simp only[List.length_append,List.length_cons,List.length_nil];omega)) (fun q=>hi≤q∧(0<ua.s.size→q≠gx)) MI hgb (hFz XI) ⟨#[92,116]⟩ (by decide) (by first | omega | (simp only[List.length_append];omega))).mono ?_));rintro e w6 ⟨rfl,M2,X2⟩;refine ⟨_,rfl,?_⟩;have T2:=XI.step X2 (fun q hq=>Or.inl hq);refine je ?_;exact zo (i+1) (by show ua.s.size-(i+1)<ua.s.size-i;omega) ⟨rfl,rfl,rfl,rfl,trivial⟩ (⟨by omega,T2,by rw[ou hxl];rw[show qb x= [92,116] from (by unfold qb;rw[if_neg h10,if_pos h9])];first | exact M2 | (have h:=M2;simp only[List.append_assoc] at h;exact h)⟩)
   ·
    refine zd 31 (.bool false) rfl (congrArg Value.bool (beq_eq_false_iff_ne.2 (fun h=>h9 (by omega)))) (zl ?_);by_cases h92:x.toNat=92
    ·
     refine zf 38 (.bool true) rfl (by rw[h92];rfl) (qd ?_);refine za rfl (zb en59 rfl ((zrq _ lo gb _ (Or.inr rfl) (xp (ua.s.data.toList.take i)) (by first | omega | (simp only[List.length_append,List.length_cons,List.length_nil];omega)) (fun q=>hi≤q∧(0<ua.s.size→q≠gx)) MI hgb (hFz XI) 92).mono ?_));rintro e w7 ⟨rfl,M3,X3⟩;refine ⟨_,rfl,?_⟩;have T3:=XI.step X3 (fun q hq=>Or.inl hq);refine zx ?_;refine za rfl (zb en59 rfl ((zrq _ lo gb _ (Or.inr rfl) ((xp (ua.s.data.toList.take i))++ [92]) (by first | omega | (simp only[List.length_append,List.length_cons,List.length_nil];omega)) (fun q=>hi≤q∧(0<ua.s.size→q≠gx)) M3 hgb (hFz T3) x).mono ?_));rintro e w8 ⟨rfl,M4,X4⟩;refine ⟨_,rfl,?_⟩;have T4:=T3.step X4 (fun q hq=>Or.inl hq);refine je ?_;exact zo (i+1) (by show ua.s.size-(i+1)<ua.s.size-i;omega) ⟨rfl,rfl,rfl,rfl,trivial⟩ (⟨by omega,T4,by rw[ou hxl];rw[show qb x= [92,x] from (by unfold qb;rw[if_neg h10,if_neg h9,if_pos h92])];first | exact M4 | (have h:=M4;simp only[List.append_assoc] at h;exact h)⟩)
    ·
     refine zf 38 (.bool false) rfl (congrArg Value.bool (beq_eq_false_iff_ne.2 (fun h=>h92 (by omega)))) (zl ?_);by_cases h39:x.toNat=39
     ·
      refine zd 35 (.bool true) rfl (by rw[h39];rfl) (zn ?_);refine za rfl (zb en59 rfl ((zrq _ lo gb _ (Or.inr rfl) (xp (ua.s.data.toList.take i)) (by first | omega | (simp only[List.length_append,List.length_cons,List.length_nil];omega)) (fun q=>hi≤q∧(0<ua.s.size→q≠gx)) MI hgb (hFz XI) 92).mono ?_));rintro e w9 ⟨rfl,M5,X5⟩;refine ⟨_,rfl,?_⟩;have T5:=XI.step X5 (fun q hq=>Or.inl hq);refine zx ?_;refine za rfl (zb en59 rfl ((zrq _ lo gb _ (Or.inr rfl) ((xp (ua.s.data.toList.take i))++ [92]) (by first | omega | (simp only[List.length_append,List.length_cons,List.length_nil];omega)) (fun q=>hi≤q∧(0<ua.s.size→q≠gx)) M5 hgb (hFz T5) x).mono ?_));rintro e w10 ⟨rfl,M6,X6⟩;refine ⟨_,rfl,?_⟩;have T6:=T5.step X6 (fun q hq=>Or.inl hq);refine je ?_;exact zo (i+1) (by show ua.s.size-(i+1)<ua.s.size-i;omega) ⟨rfl,rfl,rfl,rfl,trivial⟩ (⟨by omega,T6,by rw[ou hxl];rw[show qb x= [92,x] from (by unfold qb;rw[if_neg h10,if_neg h9,if_neg h92,if_pos h39])];first | exact M6 | (have h:=M6;simp only[List.append_assoc] at h;exact h)⟩)
     ·
      refine zd 35 (.bool false) rfl (congrArg Value.bool (beq_eq_false_iff_ne.2 (fun h=>h39 (by omega)))) (zl ?_);by_cases h32:x.toNat<32
      ·
       refine zf 48 (.bool true) rfl (congrArg Value.bool (decide_eq_true (show (x.toNat:Int)<32 by omega))) (qd ?_);refine za rfl (zb en60 rfl ((vhv _ lo gb _ (Or.inr rfl) (xp (ua.s.data.toList.take i)) (by first | omega | (simp only[List.length_append,List.length_cons,List.length_nil];omega)) (fun q=>hi≤q∧(0<ua.s.size→q≠gx)) MI hgb (hFz XI) ⟨#[92,120]⟩ (by decide) (by first | omega | (simp only[List.length_append];omega))).mono ?_));rintro e w11 ⟨rfl,M7,X7⟩;refine ⟨_,rfl,?_⟩;have T7:=XI.step X7 (fun q hq=>Or.inl hq);refine stpdq269 ?_;refine za rfl (zb en59 rfl ((zrq _ lo gb _ (Or.inr rfl) ((xp (ua.s.data.toList.take i))++ [92,120]) (by first | omega | (simp only[List.length_append,List.length_cons,List.length_nil];omega)) (fun q=>hi≤q∧(0<ua.s.size→q≠gx)) M7 hgb (hFz T7) (yvv (x.toNat/16))).mono ?_));rintro e w12 ⟨rfl,M8,X8⟩;refine ⟨_,rfl,?_⟩;have T8:=T7.step X8 (fun q hq=>Or.inl hq);refine stpdq288 ?_;refine za rfl (zb en59 rfl ((zrq _ lo gb _ (Or.inr rfl) (((xp (ua.s.data.toList.take i))++ [92,120])++ [(yvv (x.toNat/16))]) (by first | omega | (simp only[List.length_append,List.length_cons,List.length_nil];omega)) (fun q=>hi≤q∧(0<ua.s.size→q≠gx)) M8 hgb (hFz T8) (yvv (x.toNat%16))).mono ?_));rintro e w13 ⟨rfl,M9,X9⟩;refine ⟨_,rfl,?_⟩;have T9:=T8.step X9 (fun q hq=>Or.inl hq);refine je ?_;exact zo (i+1) (by show ua.s.size-(i+1)<ua.s.size-i;omega) ⟨rfl,rfl,rfl,rfl,trivial⟩ (⟨by omega,T9,by rw[ou hxl];rw[show qb x= [92,120,yvv (x.toNat/16),yvv (x.toNat%16)] from (by unfold qb;rw[if_neg h10,if_neg h9,if_neg h92,if_neg h39,if_pos h32])];first | exact M9 | (have h:=M9;simp only[List.append_assoc] at h;exact h)⟩)
      ·
       refine zf 48 (.bool false) rfl (congrArg Value.bool (decide_eq_false (show ¬(x.toNat:Int)<32 by omega))) (zl ?_);by_cases h126:126<x.toNat
       ·
        refine zd 45 (.bool true) rfl (congrArg Value.bool (decide_eq_true (show (126:Int)<(x.toNat:Int) by omega))) (zn ?_);refine za rfl (zb en60 rfl ((vhv _ lo gb _ (Or.inr rfl) (xp (ua.s.data.toList.take i)) (by first | omega | (simp only[List.length_append,List.length_cons,List.length_nil];omega)) (fun q=>hi≤q∧(0<ua.s.size→q≠gx)) MI hgb (hFz XI) ⟨#[92,120]⟩ (by decide) (by first | omega | (simp only[List.length_append];omega))).mono ?_));rintro e w14 ⟨rfl,M10,X10⟩;refine ⟨_,rfl,?_⟩;have T10:=XI.step X10 (fun q hq=>Or.inl hq);refine stpdq269 ?_;refine za rfl (zb en59 rfl ((zrq _ lo gb _ (Or.inr rfl) ((xp (ua.s.data.toList.take i))++ [92,120]) (by first | omega | (simp only[List.length_append,List.length_cons,List.length_nil];omega)) (fun q=>hi≤q∧(0<ua.s.size→q≠gx)) M10 hgb (hFz T10) (yvv (x.toNat/16))).mono ?_));rintro e w15 ⟨rfl,M11,X11⟩;refine ⟨_,rfl,?_⟩;have T11:=T10.step X11 (fun q hq=>Or.inl hq);refine stpdq288 ?_;refine za rfl (zb en59 rfl ((zrq _ lo gb _ (Or.inr rfl) (((xp (ua.s.data.toList.take i))++ [92,120])++ [(yvv (x.toNat/16))]) (by first | omega | (simp only[List.length_append,List.length_cons,List.length_nil];omega)) (fun q=>hi≤q∧(0<ua.s.size→q≠gx)) M11 hgb (hFz T11) (yvv (x.toNat%16))).mono ?_));rintro e w16 ⟨rfl,M12,X12⟩;refine ⟨_,rfl,?_⟩;have T12:=T11.step X12 (fun q hq=>Or.inl hq);refine je ?_;exact zo (i+1) (by show ua.s.size-(i+1)<ua.s.size-i;omega) ⟨rfl,rfl,rfl,rfl,trivial⟩ (⟨by omega,T12,by rw[ou hxl];rw[show qb x= [92,120,yvv (x.toNat/16),yvv (x.toNat%16)] from (by unfold qb;rw[if_neg h10,if_neg h9,if_neg h92,if_neg h39,if_neg h32,if_pos h126])];first | exact M12 | (have h:=M12;simp only[List.append_assoc] at h;exact h)⟩)
       ·
        refine zd 45 (.bool false) rfl (congrArg Value.bool (decide_eq_false (show ¬(126:Int)<(x.toNat:Int) by omega))) (zn ?_);refine za rfl (zb en59 rfl ((zrq _ lo gb _ (Or.inr rfl) (xp (ua.s.data.toList.take i)) (by first | omega | (simp only[List.length_append,List.length_cons,List.length_nil];omega)) (fun q=>hi≤q∧(0<ua.s.size→q≠gx)) MI hgb (hFz XI) x).mono ?_));rintro e w17 ⟨rfl,M13,X13⟩;refine ⟨_,rfl,?_⟩;have T13:=XI.step X13 (fun q hq=>Or.inl hq);refine je ?_;exact zo (i+1) (by show ua.s.size-(i+1)<ua.s.size-i;omega) ⟨rfl,rfl,rfl,rfl,trivial⟩ (⟨by omega,T13,by rw[ou hxl];rw[show qb x= [x] from (by unfold qb;rw[if_neg h10,if_neg h9,if_neg h92,if_neg h39,if_neg h32,if_neg h126])];first | exact M13 | (have h:=M13;simp only[List.append_assoc] at h;exact h)⟩)
 ·
  have hic:=of_decide_eq_false hic;obtain rfl:i=ua.s.size:=by omega
  rw[List.take_of_length_le (by omega)] at MI hML hM0;refine zp ?_;refine za rfl (zb en59 rfl ((zrq _ lo gb _ (Or.inr rfl) (xp ua.s.data.toList) (by first | omega | (simp only[List.length_append,List.length_cons,List.length_nil];omega)) (fun q=>hi≤q∧(0<ua.s.size→q≠gx)) MI hgb (hFz XI) 39).mono ?_));rintro e w18 ⟨rfl,M14,X14⟩;refine ⟨_,rfl,?_⟩;have T14:=XI.step X14 (fun q hq=>Or.inl hq);refine zx ?_;refine za rfl (zb en61 rfl (((Tryz.Builder_String_any lo gb _ _ (Bld.lib M14 (Or.inr rfl) hgb) (by have:=T14.size;have:=T1.size;omega))).mono ?_));rintro e w19 ⟨rfl,hb⟩;refine ⟨_,rfl,(zu ?_)⟩;exact ⟨rfl,((T1.step T14 (fun q hq=>Or.inl (hq.elim (fun h=>by show lo≤q;omega) (fun h=>by show lo≤q;omega)))).step (show Ext (fun q=>lo≤q) _ _ from ⟨hb.os,hb.tape,hb.output,hb.size,fun k _ hk=>hb.block k (Nat.lt_of_not_le hk)⟩) (fun q hq=>Or.inl hq)).below (fun q hq=>by rw[←hlo];exact hq)⟩
end
end Go.Proofs.YtmnmebdmpigddaaGreatDoor
namespace Go.Proofs.YtmnmebdmpigddaaGreatDoor
open Go.RowKit
theorem stpdq295 {P Q:Prop} (k:Q) (h:(Unit→Q)→P:=by
 intro zK;refine stp20 ?_;refine zd 11 (.bool false) rfl (by simp[h0]) (zp ?_);exact zK ()):P:=h fun _=>k
theorem qcv {P Q:Prop} (k:Q) (h:(Unit→Q)→P:=by
 intro zK;refine za rfl (zb en33 rfl ((ylv _ ua A1 B1 c1 d1).mono ?_));exact zK ()):P:=h fun _=>k
attribute [local irreducible] OW RS CW EW
def zqv (h:Nat) (x:UInt8):Nat:=(31*h+x.toNat+1)%2147483647
def hashN (l:List UInt8):Nat:=l.foldl zqv l.length
noncomputable def zyk (v:PV):Int:=if v.good then (if v.k=0 then 1 else if v.k=3 then ynv v.bits else if v.k=4 then ((hashN v.s.data.toList:Nat):Int) else hashO v.cn v.cx) else 0
def truthV (v:PV):Bool:=if v.good then (if v.k=1 then v.yes else if v.k=2 then decide ((0:Int)<(v.xs.length:Int)) else if v.k=3 then (IntKind.u64.wrap ((v.bits:Int)*2) !=0) else !(v.s.toList==(⟨#[]⟩:ByteArray).toList)) else false
theorem fold_lt (l:List UInt8) (h:Nat) (hh:h<2147483647):l.foldl zqv h<2147483647:=by
 induction l generalizing h with
 | nil=>exact hh
 | cons x l ih=>exact ih _ (Nat.mod_lt _ (by decide))
theorem fold_step {l:List UInt8} {i:Nat} {x:UInt8} (h:l[i]? =some x) (n:Nat):(l.take (i+1)).foldl zqv n=zqv ((l.take i).foldl zqv n) x:=by
 obtain ⟨hi,he⟩:=List.getElem?_eq_some_iff.1 h;rw[List.take_succ_eq_append_getElem hi,List.foldl_append,he];rfl
theorem rem_at (m x:Nat):(31*((m:Nat):Int)+((x:Nat):Int)+1).tmod 2147483647=(((31*m+x+1)%2147483647:Nat):Int):=by
 rw[Int.tmod_eq_emod_of_nonneg (by omega)];omega
section
variable (w:World) (ua:PV) (A1 B1:Option Addr) (c1 d1:Nat) (hx:Nums w A1 ua.xs) (hl:ua.xs.length≤9223372036854775807) (ha:ua.bits<18446744073709551616)
include hx hl ha
theorem ph0 (g1:ua.good=false):Calls Tryz.prog 25 #[pvV ua A1 c1 B1 d1] w (RetB w (.int .i64 (zyk ua))):=by
 have _:=hx;have _:=hl;have _:=ha;refine zc Tryz.func25 rfl Tryz.ntmps25 rfl ?_;obtain ⟨HF,LW,XLW,E⟩:=wk0 w;replace HF:=HF.and (Per.nums0 hx);refine zi ?_;intro gb1 w2 Bb1 Eb1 Gb1;obtain ⟨HF,LW,E⟩:=frz HF LW E XLW Bb1 Eb1;refine zp ?_;refine zh rfl yek rfl (jw _ ua A1 B1 c1 d1 (HF.on E).here.1.2 hl false g1) E fun w3 E=>(vp ?_);exact ⟨by unfold zyk;rw[g1];rfl,(LW.step E XLW).toBelow⟩
theorem ph1 (g1:ua.good=true) (h0:ua.k=0):Calls Tryz.prog 25 #[pvV ua A1 c1 B1 d1] w (RetB w (.int .i64 (zyk ua))):=by
 have _:=hx;have _:=hl;have _:=ha;refine zc Tryz.func25 rfl Tryz.ntmps25 rfl ?_;obtain ⟨HF,LW,XLW,E⟩:=wk0 w;replace HF:=HF.and (Per.nums0 hx);refine zi ?_;intro gb1 w2 Bb1 Eb1 Gb1;obtain ⟨HF,LW,E⟩:=frz HF LW E XLW Bb1 Eb1;refine zp ?_;refine zh rfl yek rfl (jw _ ua A1 B1 c1 d1 (HF.on E).here.1.2 hl true g1) E fun w3 E=>(stp20 ?_);refine zd 11 (.bool true) rfl (by simp[h0]) (zz ?_);exact ⟨by unfold zyk;rw[g1,if_pos rfl,if_pos h0];rfl,(LW.step E XLW).toBelow⟩
theorem ph2 (g1:ua.good=true) (h0:¬ua.k=0) (h3:ua.k=3):Calls Tryz.prog 25 #[pvV ua A1 c1 B1 d1] w (RetB w (.int .i64 (zyk ua))):=by
 have _:=hx;have _:=hl;have _:=ha;refine zc Tryz.func25 rfl Tryz.ntmps25 rfl ?_;obtain ⟨HF,LW,XLW,E⟩:=wk0 w;replace HF:=HF.and (Per.nums0 hx);refine zi ?_;intro gb1 w2 Bb1 Eb1 Gb1;obtain ⟨HF,LW,E⟩:=frz HF LW E XLW Bb1 Eb1;refine zp ?_;refine zh rfl yek rfl (jw _ ua A1 B1 c1 d1 (HF.on E).here.1.2 hl true g1) E fun w3 E=>(stpdq295 ?_);refine zd 13 (.bool true) rfl (by simp[h3]) (zu ?_);refine zh rfl en62 rfl (hash_any _ ua.bits ha) E fun w4 E=>(zp ?_);exact ⟨by unfold zyk;rw[g1,if_pos rfl,if_neg h0,if_pos h3];rfl,(LW.step E XLW).toBelow⟩
theorem ph4 (g1:ua.good=true) (h0:¬ua.k=0) (h3:¬ua.k=3) (h4:¬ua.k=4):Calls Tryz.prog 25 #[pvV ua A1 c1 B1 d1] w (RetB w (.int .i64 (zyk ua))):=by
 have _:=hx;have _:=hl;have _:=ha;have hcl:=PV.cx_len hl;refine zc Tryz.func25 rfl Tryz.ntmps25 rfl ?_;obtain ⟨HF,LW,XLW,E⟩:=wk0 w;replace HF:=HF.and (Per.nums0 hx);refine zi ?_;intro gb1 w2 Bb1 Eb1 Gb1;obtain ⟨HF,LW,E⟩:=frz HF LW E XLW Bb1 Eb1;refine zp ?_;refine zh rfl yek rfl (jw _ ua A1 B1 c1 d1 (HF.on E).here.1.2 hl true g1) E fun w3 E=>(stpdq295 ?_);refine zd 13 (.bool false) rfl (by simp[h3]) (zp ?_);refine zd 18 (.bool false) rfl (by simp[h4]) (zp ?_);refine qcv ?_;rintro e w4 ⟨A3,c3,rfl,hN,hb⟩;refine ⟨_,rfl,?_⟩;replace E:=blx E hb;have hN3:Nums w4 A3 ua.cx:=hN.elim (fun h=>by rw[h.1,h.2];exact (HF.on E).here.1.2) (fun h=>h.nums);refine zh rfl en63 rfl (hashbig_any ua.cn A3 c3 ua.cx _ hN3 hcl) E fun w5 E=>(zu ?_);exact ⟨by unfold zyk;rw[g1,if_pos rfl,if_neg h0,if_neg h3,if_neg h4];rfl,(LW.step E XLW).toBelow⟩
theorem ph3 (g1:ua.good=true) (h0:¬ua.k=0) (h3:¬ua.k=3) (h4:ua.k=4) (hsl:ua.s.size≤20000):Calls Tryz.prog 25 #[pvV ua A1 c1 B1 d1] w (RetB w (.int .i64 (zyk ua))):=by
 have _:=ha;have hsn:ua.s.data.toList.length=ua.s.size:=by rw[Array.length_toList];rfl
 have hbx:∀x:UInt8,x.toNat<256:=fun x=>x.toNat_lt;refine zc Tryz.func25 rfl Tryz.ntmps25 rfl (zi ?_);rintro gv wA BX E1 G1;refine zl ?_;refine za rfl (ymz (cs:=#[.int .i64 ua.k,.bool ua.yes,.bool ua.neg,.slice A1 ua.xs.length c1,.int .u64 (ua.bits:Int),.string ua.s,.slice B1 ua.ni d1]) u28 rfl kt rfl rfl (fun j v hj↦by have h:=(BX.cell j).trans hj;rw[Nat.zero_add];exact h) (za rfl (zb yek rfl ((jw _ ua A1 B1 c1 d1 (Per.nums0 hx _ E1) hl true g1).mono ?_))));rintro e w1 ⟨rfl,hb⟩;refine ⟨_,rfl,?_⟩;have E2:=E1.trans (Ext.of_below hb No);have BX2:=BX.ext (Ext.of_below hb No) (fun h=>h.elim);refine stpdq295 ?_;refine zd 13 (.bool false) rfl (by simp[h3]) (zp ?_);refine zd 18 (.bool true) rfl (by simp[h4]) (zu ?_);refine zy ?_;refine yi ?_;refine za rfl (vav u9 u46 u5 rfl rfl rfl ?_);rintro gx cx wC RX E5 GX;have E6:=E2.trans E5;refine zu ?_;refine yw (ι:=Nat) (fun i=>[(3,.int .i64 (((ua.s.data.toList.take i).foldl zqv ua.s.size:Nat):Int)),(25,.slice (some ⟨gx,0,none⟩) ua.s.size cx),(26,.int .i64 (ua.s.size:Int)),(27,.int .i64 ((i:Nat):Int))]) (fun i w'=>i≤ua.s.size∧Ext No wC w') (fun i=>ua.s.size-i) 0 ⟨rfl,rfl,rfl,rfl,trivial⟩ (⟨Nat.zero_le _,Ext.refl _ _⟩) ?_;rintro i w3 ⟨hin,XI⟩;refine zl ?_;refine zg rfl (fun hic=>?_) (fun hic=>?_)
 ·
  have hic:=of_decide_eq_true hic;have hil:i<ua.s.size:=by omega
  obtain ⟨x,hxl⟩:∃x,ua.s.data.toList[i]? =some x:=⟨_,List.getElem?_eq_getElem (by omega)⟩;have hxb:=hbx x;obtain ⟨m,hm⟩:∃m,m=(ua.s.data.toList.take i).foldl zqv ua.s.size:=⟨_,rfl⟩;have hml:m<2147483647:=by rw[hm];exact fold_lt _ _ (by omega)
  have hcell:∀z,Ext No wC z→z.cell? ⟨gx,0+i,none⟩=some (.int .u8 (x.toNat:Int)):=fun z hz=>by
   rw[Nat.zero_add];exact Per.rowL RX z hz i (.int .u8 (x.toNat:Int)) (by rw[List.getElem?_map,hxl];rfl)
  rw[←hm];refine zd 3 (.int .i64 ((m:Nat):Int)) rfl (rfl) (stpdq285 ?_);refine zu ?_;refine qcz ?_;refine stp ?_;refine qev ?_;refine yo ?_;refine za rfl (zgv rfl rfl (by decide) (rem_at m x.toNat) (je ?_));exact zo (i+1) (by show ua.s.size-(i+1)<ua.s.size-i;omega) ⟨by rw[fold_step hxl,←hm];rfl,rfl,rfl,rfl,trivial⟩ (⟨by omega,XI⟩)
 ·
  have hic:=of_decide_eq_false hic;obtain rfl:i=ua.s.size:=by omega
  refine ky ?_;exact ⟨by unfold zyk hashN;rw[g1,if_pos rfl,if_neg h0,if_neg h3,if_pos h4,hsn,List.take_of_length_le (by omega)];rfl,(E6.trans XI).toBelow⟩
theorem pl_hash:Calls Tryz.prog 25 #[pvV ua A1 c1 B1 d1] w (RetB w (.int .i64 (zyk ua))):=by
 cases g1:ua.good
 · exact ph0 w ua A1 B1 c1 d1 hx hl ha g1
 by_cases h0:ua.k=0
 · exact ph1 w ua A1 B1 c1 d1 hx hl ha g1 h0
 by_cases h3:ua.k=3
 · exact ph2 w ua A1 B1 c1 d1 hx hl ha g1 h0 h3
 by_cases h4:ua.k=4
 · exact ph3 w ua A1 B1 c1 d1 hx hl ha g1 h0 h3 h4 (PV.s_max g1 h4)
 · exact ph4 w ua A1 B1 c1 d1 hx hl ha g1 h0 h3 h4
end
end Go.Proofs.YtmnmebdmpigddaaGreatDoor
namespace Go.Proofs.YtmnmebdmpigddaaGreatDoor
open Go.RowKit
theorem stpdq311 {P Q:Prop} (k:Q) (h:(Unit→Q)→P:=by
 intro zK;refine zn ?_;refine gr (rs:=[.cell 2 28]) (vs:=[_]) rfl ⟨⟨_,rfl,ycz u28 rfl kt BYd rfl⟩,trivial⟩ ?_;exact zK ()):P:=h fun _=>k
theorem stpdq254 {P Q:Prop} (k:Q) (h:(Unit→Q)→P:=by
 intro zK;refine zl ?_;refine zf 43 (.int .i64 0) rfl (by kernel_rfl:(.int .i64 (0:Nat):Value)=_) (zn ?_);refine zf 46 (.int .i64 0) rfl (by kernel_rfl:(.int .i64 (0:Nat):Value)=_) (jm ?_);exact zK ()):P:=h fun _=>k
theorem dqz150 {P:Prop} (h:P:=by
 refine qq ?_;intro vs X wq K;refine zaq rfl (zb en27 rfl ((float_k _).mono ?_));exact yix):P:=h
theorem dqz66 {P:Prop} (h:P:=by
 refine zk (zw kt rfl rfl BY rfl rfl rfl ?_);rintro wC BYd E4;refine zn ?_;refine gr (rs:=[.cell 2 28]) (vs:=[_]) rfl ⟨⟨_,rfl,ycz u28 rfl kt BYd rfl⟩,trivial⟩ ?_;exact ⟨rfl,(E2.step E4 (fun q hq=>Or.inr (by have:=zvz hq;omega))).toBelow⟩):P:=h
attribute [local irreducible] OW RS CW EW
theorem add_v:(2:Int)=outV (zr false [1]&&zr false [1]) (num false [1]+num false [1]):=by
 have h:=vb (i:=1) (by decide);rw[ylk] at h;have h:zr false [1]=true:=h;rw[h,num_1];exact (ztk (by decide)).symm
theorem add_f:(0:Int)=outE (zr false [1]&&zr false [1]) (num false [1]+num false [1]):=by
 have h:=vb (i:=1) (by decide);rw[ylk] at h;have h:zr false [1]=true:=h;rw[h,num_1];exact (ztv (by decide)).symm
theorem CntV.own {w:World} {A1 A:Option Addr} {xs ys:List Nat} (h:CntV w A1 A xs ys) (hne:ys≠xs):Nums w A ys:=h.resolve_left (fun e=>hne e.2)
def pvT:PV:=⟨1,true,false,[],0,⟨#[]⟩,0⟩
def pvO:PV:=⟨2,false,false,[1],0,⟨#[]⟩,0⟩
theorem sameB_self (n:Bool) (xs:List Nat):ywk n xs n xs=true:=by unfold ywk;simp
theorem pvT_good:PV.good pvT=true:=by unfold PV.good pvT;simp
theorem pvO_good:PV.good pvO=true:=by
 have h:=vb (i:=1) (by decide);rw[ylk] at h;have h:zr false [1]=true:=h;unfold PV.good pvO;simp[h]
theorem per_ownB {X:Nat→Prop} {w:World} {lo base c:Nat} {A:Option Addr} {xs:List Nat} (h:Own w base A c xs) (hX:∀k,X k→k<base) (hb:lo≤base):Per X w (fun b=>Own b lo A c xs):=fun b E=>⟨qtk (xy h.1 E (fun q hq hx=>by have:=owns_ge h.1 q hq;have:=hX q hx;omega)) hb,h.2⟩
section
variable (w:World)
theorem pl_cnt (ua:PV) (A1 B1:Option Addr) (c1 d1:Nat) (n:Bool) (xs:List Nat) (hn:ua.cn=n) (hc:ua.cx=xs):Calls Tryz.prog 33 #[pvV ua A1 c1 B1 d1] w (RetCnt w A1 n ua.xs xs):=by
 subst hn hc;exact ylv w ua A1 B1 c1 d1
theorem rl_boolv (b:Bool):Calls Tryz.prog 20 #[.bool b] w (RetB w (.agg #[.int .i64 1,.bool b,.bool false,.slice none 0 0,.int .u64 0,.string ⟨#[]⟩,.slice none 0 0])):=by
 refine zc Tryz.func20 rfl Tryz.ntmps20 rfl (zm ?_);refine zv ?_;rintro gR wB BY E2 G2;refine zu ?_;refine za rfl (qn (cs:=#[.int .i64 1,.bool b,.bool false,.slice none 0 0,.int .u64 0,.string ⟨#[]⟩,.slice none 0 0]) yvk yvq rfl rfl ?_);exact dqz66
theorem rl_strv (s:ByteArray):Calls Tryz.prog 24 #[.string s] w (RetB w (.agg #[.int .i64 4,.bool false,.bool false,.slice none 0 0,.int .u64 0,.string s,.slice none 0 0])):=by
 refine zc Tryz.func24 rfl Tryz.ntmps24 rfl (zm ?_);refine zv ?_;rintro gR wB BY E2 G2;refine zu ?_;refine za rfl (qn (cs:=#[.int .i64 4,.bool false,.bool false,.slice none 0 0,.int .u64 0,.string s,.slice none 0 0]) yvk yvq rfl rfl ?_);exact dqz66
def RetIV (W:World) (i:Int) (e:Ending) (w':World):Prop:=∃A c,e= .returned (.agg #[.int .i64 2,.bool false,.bool (decide (i<0)),.slice A (limbs i).length c,.int .u64 0,.string ⟨#[]⟩,.slice none 0 0])∧Own w' W.heap.size A c (limbs i)∧Below W.heap.size W w'
theorem yqv (A:Option Addr) (c:Nat) (i:Int) (hx:Nums8 w A (tens i)) (hl:(tens i).length≤1048576):Calls Tryz.prog 21 #[.agg #[.bool (decide (i<0)),.slice A (tens i).length c]] w (RetIV w i):=by
 refine zc Tryz.func21 rfl Tryz.ntmps21 rfl (zi ?_);rintro gA wA BX E1 G1;refine zv ?_;rintro gR wB BY E2 G2;have BXb:=BX.ext E2 (fun h=>h.elim);have E12:=E1.trans E2;have hs:=E12.size;refine zu ?_;refine za rfl (zb en57 rfl ((rto_any A c i _ (Per.nums80 hx _ E12) hl).mono ?_));rintro e w1 ⟨A3,c3,rfl,hO,hb⟩;refine ⟨_,rfl,?_⟩;have E3:=Ext.of_below hb No;have BYc:=BY.ext E3 (fun h=>h.elim);refine za rfl (qn (cs:=#[.int .i64 2,.bool false,.bool (decide (i<0)),.slice A3 (limbs i).length c3,.int .u64 0,.string ⟨#[]⟩,.slice none 0 0]) yvk yvq rfl rfl (zk (zw kt rfl rfl BYc rfl rfl rfl ?_)));rintro wC BYd E4;refine stpdq311 ?_;exact ⟨A3,c3,rfl,zxv hO E4 BY.lt hs,((E12.trans E3).step E4 (fun q hq=>Or.inr (by have:=zvz hq;have:=E1.size;omega))).toBelow⟩
theorem qik (A:Option Addr) (c:Nat) (n:Bool) (xs:List Nat):Calls Tryz.prog 45 #[.agg #[.bool n,.slice A xs.length c]] w (RetB w (.agg #[.int .i64 2,.bool false,.bool n,.slice A xs.length c,.int .u64 0,.string ⟨#[]⟩,.slice none 0 0])):=by
 refine zc Tryz.func45 rfl Tryz.ntmps45 rfl (zi ?_);rintro gA wA BX E1 G1;refine zv ?_;rintro gR wB BY E2 G2;have BXb:=BX.ext E2 (fun h=>h.elim);have E12:=E1.trans E2;have hs:=E12.size;refine zu ?_;refine za rfl (qn (cs:=#[.int .i64 2,.bool false,.bool n,.slice A xs.length c,.int .u64 0,.string ⟨#[]⟩,.slice none 0 0]) yvk yvq rfl rfl (zk (zw kt rfl rfl BY rfl rfl rfl ?_)));rintro wC BYd E4;refine stpdq311 ?_;exact ⟨rfl,(E12.step E4 (fun q hq=>Or.inr (by have:=zvz hq;have:=E1.size;omega))).toBelow⟩
theorem pl_wadd (A B:Option Addr) (c d:Nat) (xs ys:List Nat) (n1 n2:Bool) (v f:Int) (hv:v=outV (zr n1 xs&&zr n2 ys) (num n1 xs+num n2 ys)) (hf:f=outE (zr n1 xs&&zr n2 ys) (num n1 xs+num n2 ys)) (hx:Nums w A xs) (hy:Nums w B ys) (hl:xs.length≤9223372036854775807) (hl':ys.length≤9223372036854775807) :
 Calls Tryz.prog 67 #[.int .i64 1,.agg #[.bool n1,.slice A xs.length c],.agg #[.bool n2,.slice B ys.length d]] w (yd w v f):=by
 refine zc Tryz.func67 rfl Tryz.ntmps67 rfl (zi ?_);rintro gA wA BX E1 G1;refine za rfl (jz rfl ?_);rintro gC wC BZ E2 G2;refine yq ?_;rintro gR wB BY E3 G3;have BXb:=(BX.ext E2 (fun h=>h.elim)).ext E3 (fun h=>h.elim);have BZb:=BZ.ext E3 (fun h=>h.elim);have E12:=(E1.trans E2).trans E3;have hs:=E12.size;refine zsk ?_;have hadd:=add_any A B c d xs ys wB n1 n2 (Per.nums0 hx _ E12) (Per.nums0 hy _ E12) hl hl';rw[←hv,←hf] at hadd;refine za rfl (zb en119 rfl ((hadd).mono ?_));rintro e w1 ⟨A3,c3,rfl,hO,hb⟩;refine ⟨_,rfl,?_⟩;have E4:=Ext.of_below hb No;have BYc:=BY.ext E4 (fun h=>h.elim);refine zm ?_;refine zk (zw ku rfl rfl BYc rfl rfl rfl ?_);rintro wD BYd E5;refine zp ?_;exact ⟨A3,c3,rfl,zxv hO E5 BY.lt hs,((E12.trans E4).step E5 (fun q hq=>Or.inr (by have:=zvz hq;have:=E1.size;have:=E2.size;omega))).toBelow⟩
theorem num_known (A:Option Addr) (c:Nat) (hx:Nums w A [1]):Calls Tryz.prog 30 #[.int .i64 1,.agg #[.int .i64 1,.bool true,.bool false,.slice none 0 0,.int .u64 0,.string ⟨#[]⟩,.slice none 0 0],.agg #[.int .i64 2,.bool false,.bool false,.slice A 1 c,.int .u64 0,.string ⟨#[]⟩,.slice none 0 0]] w fun e w'=>∃A4 c4,e= .returned (.tuple #[.agg #[.int .i64 2,.bool false,.bool (decide (2<0)),.slice A4 (limbs 2).length c4,.int .u64 0,.string ⟨#[]⟩,.slice none 0 0],.int .i64 0])∧Own w' w.heap.size A4 c4 (limbs 2)∧Below w.heap.size w w':=by
 refine zc Tryz.func30 rfl Tryz.ntmps30 rfl (zi ?_);rintro gA wA BX E1 G1;refine za rfl (jz rfl ?_);rintro gC wC BZ E2 G2;refine zv ?_;rintro gR wB BY E3 G3;have BXb:=(BX.ext E2 (fun h=>h.elim)).ext E3 (fun h=>h.elim);have BZb:=BZ.ext E3 (fun h=>h.elim);have E12:=(E1.trans E2).trans E3;have hs:=E12.size;refine stp40 ?_;refine zm ?_;refine qm (No) Mut.none_ [⟨9,10,24,#[.bool false,.slice none 0 0]⟩] [] (zcx [Fx.of (.int .i64 1),
  Fx.of (.agg #[.int .i64 1,.bool true,.bool false,.slice none 0 0,.int .u64 0,.string ⟨#[]⟩,.slice none 0 0]),
  ⟨(Option Addr×Nat),fun (A5,c5)=>.agg #[.bool false,.slice A5 1 c5],fun (A5,c5) b=>(CntV b none A5 [] [1])⟩,
  Fx.of (.agg #[.int .i64 2,.bool false,.bool false,.slice A 1 c,.int .u64 0,.string ⟨#[]⟩,.slice none 0 0]),
  ⟨(Option Addr×Nat),fun (A6,c6)=>.agg #[.bool false,.slice A6 1 c6],fun (A6,c6) b=>(CntV b A A6 [1] [1])⟩,
  ⟨(Option Addr×Nat),fun (A7,c7)=>.tuple #[.agg #[.bool (decide ((2:Int)<0)),.slice A7 (limbs 2).length c7],.int .i64 0],fun (A7,c7) b=>(Own b wB.heap.size A7 c7 (limbs 2))⟩,
  ⟨(Option Addr×Nat),fun (A7,c7)=>.tuple #[.agg #[.bool (decide ((2:Int)<0)),.slice A7 (limbs 2).length c7],.int .i64 0],fun (A7,c7) b=>(Own b wB.heap.size A7 c7 (limbs 2))⟩,
  ⟨(Option Addr×Nat),fun (A7,c7)=>.agg #[.bool (decide ((2:Int)<0)),.slice A7 (limbs 2).length c7],fun (A7,c7) b=>(Own b wB.heap.size A7 c7 (limbs 2))⟩,
  Fx.of (.int .i64 0),
  Fx.of undef,
  Fx.of undef,
  Fx.of (.int .i64 0)]) mixed rfl trivial (fun _ h=>by cases h) ?_ ?_
 · refine ⟨arm,?_,?_,?_,?_,?_,?_,?_,?_,?_,?_,arm,trivial⟩
   · intro vs X wq K;have LE:=K.1;exact qjx u28 rfl kt rfl (BXb.ext ((Ext.refl No _).drew.trans LE) (fun h↦h.elim)) rfl ⟨Below.refl _ _,Left.of rfl⟩
   · refine qq ?_;intro vs X wq K;have XN:=K.2.1;refine zb en33 rfl ((pl_cnt _ pvT none none 0 0 false [1] rfl rfl).mono ?_);rintro e w2 ⟨A5,c5,rfl,hN,hb⟩;exact ⟨_,rfl,hb,⟨(A5,c5),rfl,ztq hN XN⟩⟩
   · intro vs X wq K;have LE:=K.1;exact qjx u28 rfl kt rfl (BZb.ext ((Ext.refl No _).drew.trans LE) (fun h↦h.elim)) rfl ⟨Below.refl _ _,Left.of rfl⟩
   · refine qq ?_;intro vs X wq K;have XN:=K.2.1;refine zb en33 rfl ((pl_cnt _ pvO A none c 0 false [1] rfl rfl).mono ?_);rintro e w2 ⟨A6,c6,rfl,hN,hb⟩;exact ⟨_,rfl,hb,⟨(A6,c6),rfl,ztq hN XN⟩⟩
   · refine qq ?_;intro vs X wq K;have LE:=K.1;have XN:=K.2.1;obtain ⟨⟨A5,c5⟩,e2,k2⟩:=K.dep 2 rfl rfl rfl;refine gm 38 _ rfl e2 ?_;obtain ⟨⟨A6,c6⟩,e4,k4⟩:=K.dep 4 rfl rfl rfl;refine gm 40 _ rfl e4 (zb en67 rfl ((pl_wadd _ A5 A6 c5 c6 [1] [1] false false 2 0 add_v add_f ((k2.here).own (by decide)) ((k4.here).nums (Per.nums0 hx _ (E12.trans ((Ext.refl No _).drew.trans LE)))) (by decide) (by decide)).mono ?_));rintro e w2 ⟨A7,c7,rfl,hO,hb⟩;exact ⟨_,rfl,hb,⟨(A7,c7),rfl,per_ownB hO XN LE.size⟩⟩
   · intro vs X wq K;obtain ⟨⟨A7,c7⟩,e5,k5⟩:=K.dep 5 rfl rfl rfl;refine gm 41 _ rfl e5 ?_;exact qiv rfl ⟨Below.refl _ _,⟨⟨A7,c7⟩,rfl,(k5.map (fun _ h=>h))⟩⟩
   · intro vs X wq K;obtain ⟨⟨A7,c7⟩,e6,k6⟩:=K.dep 6 rfl rfl rfl;refine gm 35 _ rfl e6 ?_;exact ow rfl rfl ⟨Below.refl _ _,⟨⟨A7,c7⟩,rfl,(k6.map (fun _ h=>h))⟩⟩
   · intro vs X wq K;obtain ⟨⟨A7,c7⟩,e6,k6⟩:=K.dep 6 rfl rfl rfl;refine gm 35 _ rfl e6 ?_;exact ow rfl rfl ⟨Below.refl _ _,Left.of rfl⟩
   · exact dqz146
   · refine ⟨_,_,_,_,_,rfl,rfl,rfl,ku,fun vs X wq K=>?_⟩;obtain ⟨⟨A7,c7⟩,e0,_⟩:=K.dep 7 rfl rfl rfl;exact ⟨vs 7,rfl,by rw[e0];rfl,by rw[e0];rfl⟩
 intro vs w1 LE AO AL AF AA;have hbd:Below (wB).heap.size (wB) w1:=(((Ext.refl No (wB)).drew).trans LE).toBelow;obtain ⟨⟨A7,c7⟩,e7,k7⟩:=AL.2.2.2.2.2.2.2.1;obtain ⟨_,e11,k11⟩:=AL.2.2.2.2.2.2.2.2.2.2.2.1;have Wc5:=k7.here;obtain ⟨gX0,v0,y0,qX0,GX0,BX0,ey,ev0⟩:=AF.1;cases ey
 obtain rfl:vs 7=v0:=Option.some.inj ev0;rw[e7] at BX0;have BX0:Blk w1 gX0 24 #[.bool (decide ((2:Int)<0)),.slice A7 (limbs 2).length c7]:=BX0;have e9:=qX0;refine ja (τ:=[(0,_),(4,_),(5,_),(6,_),(7,_),(8,_),(9,.pointer (some ⟨gX0,0,none⟩)),(10,.int .i64 0)]) ⟨rfl,rfl,rfl,rfl,rfl,rfl,congrArg some e9,congrArg some e11,trivial⟩ ?_;clear AL AF AA AO;have E5:=Ext.of_below hbd No;have BYc:=BY.ext E5 (fun h=>h.elim);refine jm ?_;refine za rfl (zb en45 rfl ((qik _ A7 c7 (decide ((2:Int)<0)) (limbs 2)).mono ?_));rintro e w2 ⟨rfl,hb⟩;refine ⟨_,rfl,?_⟩;have E6:=Ext.of_below hb No;have BYd:=BYc.ext E6 (fun h=>h.elim);have hN7:Own w2 wB.heap.size A7 c7 (limbs 2):=⟨xy Wc5.1 E6 (fun _ _ h=>h.elim),Wc5.2⟩;refine zk (zw kt rfl rfl BYd rfl rfl rfl ?_);rintro wD BYe E7;refine zl ?_;exact ⟨A7,c7,rfl,zxv hN7 E7 BY.lt hs,(((E12.trans E5).trans E6).step E7 (fun q hq=>Or.inr (by have:=zvz hq;have:=E1.size;have:=E2.size;omega))).toBelow⟩
theorem bin_known (A:Option Addr) (c:Nat) (hx:Nums w A [1]):Calls Tryz.prog 7 #[.int .i64 1,.agg #[.int .i64 1,.bool true,.bool false,.slice none 0 0,.int .u64 0,.string ⟨#[]⟩,.slice none 0 0],.agg #[.int .i64 2,.bool false,.bool false,.slice A 1 c,.int .u64 0,.string ⟨#[]⟩,.slice none 0 0]] w fun e w'=>∃A4 c4,e= .returned (.tuple #[.agg #[.int .i64 2,.bool false,.bool (decide (2<0)),.slice A4 (limbs 2).length c4,.int .u64 0,.string ⟨#[]⟩,.slice none 0 0],.int .i64 0])∧Own w' w.heap.size A4 c4 (limbs 2)∧Below w.heap.size w w':=by
 refine zc Tryz.func7 rfl Tryz.ntmps7 rfl (zi ?_);rintro gA wA BX E1 G1;refine za rfl (jz rfl ?_);rintro gC wC BZ E2 G2;refine zv ?_;rintro gR wB BY E3 G3;have BXb:=(BX.ext E2 (fun h=>h.elim)).ext E3 (fun h=>h.elim);have BZb:=BZ.ext E3 (fun h=>h.elim);have E12:=(E1.trans E2).trans E3;have hs:=E12.size;refine zp ?_;refine za rfl (zb yek rfl ((jw _ pvT none none 0 0 xr (by decide) true pvT_good).mono ?_));rintro e w1 ⟨rfl,hb⟩;refine ⟨_,rfl,?_⟩;have F1:=Ext.of_below hb No;have E13:=E12.trans F1;have BX1:=BXb.ext F1 (fun h=>h.elim);have BZ1:=BZb.ext F1 (fun h=>h.elim);have BY1:=BY.ext F1 (fun h=>h.elim);refine zn ?_;refine onx rfl (zb yek rfl ((jw _ pvO A none c 0 (Per.nums0 hx _ E13) (by decide) true pvO_good).mono ?_));rintro e w2 ⟨rfl,hb⟩;refine ⟨_,rfl,?_⟩;have F2:=Ext.of_below hb No;have E14:=E13.trans F2;have BX2:=BX1.ext F2 (fun h=>h.elim);have BZ2:=BZ1.ext F2 (fun h=>h.elim);have BY2:=BY1.ext F2 (fun h=>h.elim);refine stp26 ?_;refine za rfl (zb en29 rfl ((zpx _ pvT none none 0 0 true rfl).mono ?_));rintro e w3 ⟨rfl,hb⟩;refine ⟨_,rfl,?_⟩;have F3:=Ext.of_below hb No;have E15:=E14.trans F3;have BX3:=BX2.ext F3 (fun h=>h.elim);have BZ3:=BZ2.ext F3 (fun h=>h.elim);have BY3:=BY2.ext F3 (fun h=>h.elim);refine zm ?_;refine onx rfl (zb en29 rfl ((zpx _ pvO A none c 0 true rfl).mono ?_));rintro e w4 ⟨rfl,hb⟩;refine ⟨_,rfl,?_⟩;have F4:=Ext.of_below hb No;have E16:=E15.trans F4;have BX4:=BX3.ext F4 (fun h=>h.elim);have BZ4:=BZ3.ext F4 (fun h=>h.elim);have BY4:=BY3.ext F4 (fun h=>h.elim);refine zz ?_;refine za rfl (zb en30 rfl ((num_known _ A c (Per.nums0 hx _ E16)).mono ?_));rintro e w5 ⟨A4,c4,rfl,hO,hb⟩;refine ⟨_,rfl,?_⟩;have F5:=Ext.of_below hb No;have BY5:=BY4.ext F5 (fun h=>h.elim);refine zm ?_;refine zk (zw kt rfl rfl BY5 rfl rfl rfl ?_);rintro wD BYe E7;refine zp ?_;exact ⟨A4,c4,rfl,zxv hO E7 BY4.lt E16.size,((E16.trans F5).step E7 (fun q hq=>Or.inr (by have:=zvz hq;have:=E1.size;have:=E2.size;omega))).toBelow⟩
theorem rl_is (A B:Option Addr) (c d:Nat) (n:Bool) (xs:List Nat) (hx:Nums w A xs) (hy:Nums w B xs) (hl:xs.length≤1048576):Calls Tryz.prog 14 #[.agg #[.int .i64 2,.bool false,.bool n,.slice A xs.length c,.int .u64 0,.string ⟨#[]⟩,.slice none 0 0],.agg #[.int .i64 2,.bool false,.bool n,.slice B xs.length d,.int .u64 0,.string ⟨#[]⟩,.slice none 0 0]] w (RetB w (.bool true)):=by
 refine zc Tryz.func14 rfl Tryz.ntmps14 rfl (zi ?_);rintro gA wA BX E1 G1;refine za rfl (jz rfl ?_);rintro gC wC BZ E2 G2;have BXb:=BX.ext E2 (fun h=>h.elim);have E12:=E1.trans E2;have hs:=E12.size
 refine og ?_;refine onx rfl (ow_neqB u4 rfl rfl (jt ?_));refine onx rfl (ycq rfl rfl (zf 30 (.bool false) rfl (by simp only[yfk];rfl:(.bool (!((⟨#[]⟩:ByteArray).toList==(⟨#[]⟩:ByteArray).toList)):Value)=_) (zn ?_)));refine onx rfl (ymz (cs:=#[.bool n,.slice A xs.length c]) u24 rfl ku rfl rfl (qqq (BXb.cell 2) (BXb.cell 3)) (stp ?_));refine onx rfl (ymz (cs:=#[.bool n,.slice B xs.length d]) u24 rfl ku rfl rfl (qqq (BZ.cell 2) (BZ.cell 3)) (onx rfl (zb en46 rfl ((sameB_self n xs▸rsame_any A B c d xs xs _ n n (Per.nums0 hx _ E12) (Per.nums0 hy _ E12) hl hl).mono ?_))));rintro e w1 ⟨rfl,hb⟩;refine ⟨_,rfl,?_⟩;have F1:=Ext.of_below hb No;have BX1:=BXb.ext F1 (fun h=>h.elim);have BZ1:=BZ.ext F1 (fun h=>h.elim);refine stpdq254 ?_;refine yw (ι:=Unit) (fun _=>[(2,.pointer (some ⟨gA,0,none⟩)),(5,.int .i64 0)]) (fun _ z=>Ext No w z∧Blk z gA 28 #[.int .i64 2,.bool false,.bool n,.slice A xs.length c,.int .u64 0,.string ⟨#[]⟩,.slice none 0 0]) (fun _=>0) () ⟨rfl,rfl,trivial⟩ (⟨E12.trans F1,BX1⟩) ?_;rintro _ w3 ⟨E13,BX3⟩;refine zp ?_;refine zf 52 (.int .i64 0) rfl (by kernel_rfl:(.int .i64 (0:Nat):Value)=_) (og ?_);exact ⟨rfl,E13.toBelow⟩
theorem bin_known2 (A:Option Addr) (c:Nat) (hx:Nums w A (limbs 1)):Calls Tryz.prog 7 #[.int .i64 1,.agg #[.int .i64 1,.bool true,.bool false,.slice none 0 0,.int .u64 0,.string ⟨#[]⟩,.slice none 0 0],.agg #[.int .i64 2,.bool false,.bool (decide (1<0)),.slice A (limbs 1).length c,.int .u64 0,.string ⟨#[]⟩,.slice none 0 0]] w fun e w'=>∃A4 c4,e= .returned (.tuple #[.agg #[.int .i64 2,.bool false,.bool (decide (2<0)),.slice A4 (limbs 2).length c4,.int .u64 0,.string ⟨#[]⟩,.slice none 0 0],.int .i64 0])∧Own w' w.heap.size A4 c4 (limbs 2)∧Below w.heap.size w w':=by
 rw[ylk] at hx ⊢;exact bin_known w A c hx
theorem quote_k:Calls Tryz.prog 23 #[.agg #[.int .i64 4,.bool false,.bool false,.slice none 0 0,.int .u64 0,.string ⟨#[97,39,10,200]⟩,.slice none 0 0]] w fun e w'=>e= .returned (.string ⟨#[39,97,92,39,92,110,92,120,99,56,39]⟩)∧Below w.heap.size w w':=
 pl_quote w ⟨4,false,false,[],0,⟨#[97,39,10,200]⟩,0⟩ none none 0 0 xr (by decide) (by unfold PV.good;simp;decide) rfl (by decide)
theorem hash_k:Calls Tryz.prog 25 #[.agg #[.int .i64 4,.bool false,.bool false,.slice none 0 0,.int .u64 0,.string ⟨#[97]⟩,.slice none 0 0]] w (RetB w (.int .i64 129)):=by
 have h:=pl_hash w ⟨4,false,false,[],0,⟨#[97]⟩,0⟩ none none 0 0 xr (by decide) (by decide);have e:zyk ⟨4,false,false,[],0,⟨#[97]⟩,0⟩=129:=by
  have hg:PV.good ⟨4,false,false,[],0,⟨#[97]⟩,0⟩=true:=by unfold PV.good;simp;decide
  unfold zyk;rw[hg,if_pos rfl,if_neg (by decide),if_neg (by decide),if_pos rfl];rfl
 rw[e] at h;exact h
theorem nan_k:yy 9221120237041090560=9221120237041090560:=by decide
theorem float_k:Calls Tryz.prog 27 #[.int .u64 9221120237041090560] w (RetB w (.agg #[.int .i64 3,.bool false,.bool false,.slice none 0 0,.int .u64 9221120237041090560,.string ⟨#[]⟩,.slice none 0 0])):=by
 have h:=zov w 9221120237041090560 (by decide);rw[nan_k] at h;exact h
theorem equal_k:Calls Tryz.prog 26 #[.agg #[.int .i64 3,.bool false,.bool false,.slice none 0 0,.int .u64 9221120237041090560,.string ⟨#[]⟩,.slice none 0 0],.agg #[.int .i64 3,.bool false,.bool false,.slice none 0 0,.int .u64 9221120237041090560,.string ⟨#[]⟩,.slice none 0 0]] w (RetB w (.bool false)):=by
 have h:=pl_equal w ⟨3,false,false,[],9221120237041090560,⟨#[]⟩,0⟩ ⟨3,false,false,[],9221120237041090560,⟨#[]⟩,0⟩ none none none none 0 0 0 0 xr (by decide) (by decide) xr (by decide) (by decide);have e:eqV ⟨3,false,false,[],9221120237041090560,⟨#[]⟩,0⟩ ⟨3,false,false,[],9221120237041090560,⟨#[]⟩,0⟩=false:=by
  have hg:PV.good ⟨3,false,false,[],9221120237041090560,⟨#[]⟩,0⟩=true:=by unfold PV.good;simp
  have ho:ordO ⟨3,false,false,[],9221120237041090560,⟨#[]⟩,0⟩ ⟨3,false,false,[],9221120237041090560,⟨#[]⟩,0⟩=false:=by decide
  unfold eqV;rw[hg,ho];rfl
 rw[e] at h;exact h
theorem pl_known:Calls Tryz.prog 6 #[] w (RetB w (.bool true)):=by
 have ht:∀i:Int,i.natAbs<B18^30→(tens i).length≤1048576:=fun i h=>by have:=(oo i).2 h;omega
 have hlb:(limbs 2).length≤1048576:=by have:=ve (i:=2) (by decide);omega
 refine zc Tryz.func6 rfl Tryz.ntmps6 rfl (zp ?_);refine za rfl (zb en20 rfl ((rl_boolv _ true).mono ?_));rintro e w1 ⟨rfl,hb⟩;refine ⟨_,rfl,?_⟩;have E1:=Ext.of_below hb No;refine za rfl (zb en22 rfl ((zok 1 _ (by decide) (by decide)).mono ?_));rintro e w2 ⟨A1,c1,rfl,hO1,hb⟩;refine ⟨_,rfl,?_⟩;have E2:=E1.trans (Ext.of_below hb No);refine za rfl (zb en21 rfl ((yqv _ A1 c1 1 hO1.nums (ht 1 (by decide))).mono ?_));rintro e w3 ⟨A2,c2,rfl,hO2,hb⟩;refine ⟨_,rfl,?_⟩;have E3:=E2.trans (Ext.of_below hb No);refine za rfl (zb en7 rfl ((bin_known2 _ A2 c2 hO2.nums).mono ?_));rintro e w4 ⟨A4,c4,rfl,hO4,hb⟩;refine ⟨_,rfl,?_⟩;have E4:=E3.trans (Ext.of_below hb No);refine zn ?_;refine zv ?_;rintro gR wB BY E5 G2;refine zk (zw kt rfl rfl BY rfl rfl rfl ?_);rintro wC BZ E6;have hO5:Own wC _ A4 c4 (limbs 2):=⟨xy (xy hO4.1 E5 (fun _ _ h=>h.elim)) E6 (fun q hq hm=>by have:=zvz hm;have:=jx hO4.1 q hq;omega),hO4.2⟩;have hN4:=hO5.nums;have E7:Ext No w wC:=(E4.trans E5).step E6 (fun q hq=>Or.inr (by have:=zvz hq;have:=E4.size;omega));refine zx ?_;refine qm (No) Mut.none_ [] [] (zcx [Fx.of (.int .i64 0),
  Fx.of (.bool true),
  Fx.of (.bool true),
  Fx.of (.agg #[.int .i64 2,.bool false,.bool (decide (2<0)),.slice A4 (limbs 2).length c4,.int .u64 0,.string ⟨#[]⟩,.slice none 0 0]),
  ⟨(Option Addr×Nat),fun (A5,c5)=>.agg #[.bool (decide ((2:Int)<0)),.slice A5 (tens 2).length c5],fun (A5,c5) b=>(Nums8 b A5 (tens 2))⟩,
  ⟨(Option Addr×Nat),fun (A6,c6)=>.agg #[.int .i64 2,.bool false,.bool (decide (2<0)),.slice A6 (limbs 2).length c6,.int .u64 0,.string ⟨#[]⟩,.slice none 0 0],fun (A6,c6) b=>(Nums b A6 (limbs 2))⟩,
  Fx.of (.bool true),
  Fx.of (.bool true),
  Fx.of (.bool true),
  Fx.of (.agg #[.int .i64 4,.bool false,.bool false,.slice none 0 0,.int .u64 0,.string ⟨#[97,39,10,200]⟩,.slice none 0 0]),
  Fx.of (.string ⟨#[39,97,92,39,92,110,92,120,99,56,39]⟩),
  Fx.of (.bool true),
  Fx.of (.bool true),
  Fx.of (.bool true),
  Fx.of (.agg #[.int .i64 4,.bool false,.bool false,.slice none 0 0,.int .u64 0,.string ⟨#[97]⟩,.slice none 0 0]),
  Fx.of (.int .i64 129),
  Fx.of (.bool true),
  Fx.of (.bool true),
  Fx.of (.bool true),
  Fx.of (.agg #[.int .i64 3,.bool false,.bool false,.slice none 0 0,.int .u64 9221120237041090560,.string ⟨#[]⟩,.slice none 0 0]),
  Fx.of (.agg #[.int .i64 3,.bool false,.bool false,.slice none 0 0,.int .u64 9221120237041090560,.string ⟨#[]⟩,.slice none 0 0]),
  Fx.of (.bool false),
  Fx.of (.bool true),
  Fx.of (.bool true),
  Fx.of (.bool true)]) mixed rfl trivial (fun _ h=>by cases h) ?_ ?_
 · refine ⟨arm,arm,arm,?_,?_,?_,?_,arm,arm,?_,?_,?_,arm,arm,?_,?_,arm,arm,arm,?_,?_,?_,arm,arm,arm,trivial⟩
   · refine qq ?_;intro vs X wq K;have LE:=K.1;exact zaq rfl (qjx u28 rfl kt rfl (BZ.ext ((Ext.refl No _).drew.trans LE) (fun h↦h.elim)) rfl ⟨Below.refl _ _,Left.of rfl⟩)
   · refine qq ?_;intro vs X wq K;have XN:=K.2.1;refine zaq rfl (zb en22 rfl ((zok 2 _ (by decide) (by decide)).mono ?_));rintro e w2 ⟨A5,c5,rfl,hO,hb⟩;exact ⟨_,rfl,hb,⟨(A5,c5),rfl,Per.own8X hO XN⟩⟩
   · intro vs X wq K;have XN:=K.2.1;obtain ⟨⟨A5,c5⟩,e4,k4⟩:=K.dep 4 rfl rfl rfl;refine gm 14 _ rfl e4 ?_;obtain ⟨_,e2,k2⟩:=K.dep 2 rfl rfl rfl;refine gm 12 _ rfl e2 (zaq rfl (zb en21 rfl ((yqv _ A5 c5 2 (k4.here) (ht 2 (by decide))).mono ?_)));rintro e w2 ⟨A6,c6,rfl,hO,hb⟩;exact ⟨_,rfl,hb,⟨(A6,c6),rfl,Per.own hO XN⟩⟩
   · intro vs X wq K;have LE:=K.1;obtain ⟨_,e3,k3⟩:=K.dep 3 rfl rfl rfl;refine gm 13 _ rfl e3 ?_;obtain ⟨⟨A6,c6⟩,e5,k5⟩:=K.dep 5 rfl rfl rfl;refine gm 15 _ rfl e5 ?_;obtain ⟨_,e2,k2⟩:=K.dep 2 rfl rfl rfl;refine gm 12 _ rfl e2 (zaq rfl (zb en14 rfl ((rl_is _ A4 A6 c4 c6 (decide ((2:Int)<0)) (limbs 2) (Per.nums0 hN4 _ ((Ext.refl No _).drew.trans LE)) (k5.here) hlb).mono ?_)));exact yix
   · refine qq ?_;intro vs X wq K;refine zaq rfl (zb en24 rfl ((rl_strv _ ⟨#[97,39,10,200]⟩).mono ?_));exact yix
   · refine qq ?_;intro vs X wq K;refine zaq rfl (zb en23 rfl ((quote_k _).mono ?_));exact yix
   · refine qq ?_;intro vs X wq K;exact zaq rfl (ow_eqlS rfl rfl ⟨Below.refl _ _,Left.of (by simp only[yfk];rfl:(.bool ((⟨#[39,97,92,39,92,110,92,120,99,56,39]⟩:ByteArray).toList==(⟨#[39,97,92,39,92,110,92,120,99,56,39]⟩:ByteArray).toList):Value)=_)⟩)
   · refine qq ?_;intro vs X wq K;refine zaq rfl (zb en24 rfl ((rl_strv _ ⟨#[97]⟩).mono ?_));exact yix
   · refine qq ?_;intro vs X wq K;refine zaq rfl (zb en25 rfl ((hash_k _).mono ?_));exact yix
   · exact dqz150
   · exact dqz150
   · refine qq ?_;intro vs X wq K;refine zaq rfl (zb en26 rfl ((equal_k _).mono ?_));exact yix
 intro vs w5 LE AO AL AF AA;have hbd:Below (wC).heap.size (wC) w5:=(((Ext.refl No (wC)).drew).trans LE).toBelow;obtain ⟨_,e24,k24⟩:=AL.2.2.2.2.2.2.2.2.2.2.2.2.2.2.2.2.2.2.2.2.2.2.2.2.1;refine ja (τ:=[(0,.bool true)]) ⟨congrArg some e24,trivial⟩ ?_;clear AL AF AA AO;refine zn ?_;exact ⟨rfl,(E7.trans (Ext.of_below hbd No)).toBelow⟩
end
end Go.Proofs.YtmnmebdmpigddaaGreatDoor
namespace Go.Proofs.YtmnmebdmpigddaaGreatDoor
open Go.RowKit
theorem run_equalIN {P:Program} {w:World} {T U:TypeId} {v:Value} {ms:Array (String×TypeId)} (hd:P.underlying T=some (.interface ms)):(Op.equal T (.iface U v) .nilIface).run P w= .ok false w:=by
 have e:Op.maxDepth=9999+1:=rfl;have key:∀d:Nat,(Op.equalIn (d+1) T (.iface U v) .nilIface).run P w= .ok false w:=by
  exact dqz104
 unfold Op.equal;rw[e];exact key 9999
theorem ow_neqI {P:Program} {N:Nat} {ops:Array Oper} {Q:Exit→Act→World→Prop} {σ:Env} {w:World} {ty:TypeId} {pos:String} {af:Array Edge} {dst:Option Nat} {Post:Value→World→Prop} {T U D:TypeId} {v:Value} {x:Operand} {ms:Array (String×TypeId)} (hd:P.underlying T=some (.interface ms)) (hx:ev σ x=some (.iface D v)) (k:Post (.bool true) w):OW P N ops Q ⟨dst,.binOp .neq T x (.const .nilIface) U,ty,pos,af,none⟩ σ w Post:=
 yf (fun ρ ha=>by
  have e:=run_equalIN (P:=P) (w:=w) (U:=D) (v:=v) hd;have hc:ρ (.const .nilIface)= .nilIface:=ha rfl;simp only[execOp,ha hx,hc,eqGuard,binOp]
  simp only[Bool.not_true,Bool.false_eq_true,if_false,Sem.run_bind,e,Result.andThen_ok,Sem.run_pure]
  rfl) k
theorem range_err (fn s:ByteArray) (base bits:Int) (w:World) (hl:s.size<100000) (hv:∃te pe,w.cell? ⟨4,0,none⟩=some (.iface te pe)) :
 Calls Tryz.prog 152 #[.string fn,.string s,.int .i64 base,.int .i64 bits,rangeE] w fun e w'=>(∃er,e= .returned er)∧Below w.heap.size w w':=by
 obtain ⟨te,pe,hv⟩:=hv;refine (AnyPu.strconv_toError_range (ρ:=Tryz.laysPu14_ren) { Tryz.laysPu14 with } fn s base bits (.iface te pe) w (by omega) hv (.inr ⟨te,pe,rfl⟩)).mono ?_;rintro e w' ⟨N,rfl,_,_,hb⟩;exact ⟨⟨_,rfl⟩,hb⟩
theorem zrDec:om Tryz.prog 229 (.agg (yj (yfq false))):=by
 unfold yj decL;exact (by kernel_rfl:(Tryz.prog.info? 229).map (·.zero)=some (some (.agg ((yfq false).d.map (fun b=>(.int .u8 ((b:Nat):Int):Value))++([.int .i64 (((yfq false).nd:Nat):Int),.int .i64 (yfq false).dp,.bool (yfq false).neg,.bool (yfq false).tr]:List Value)).toArray)))
theorem vv {s:ByteArray} {k i:Nat}:bAt (s.extract k s.size) i=bAt s (k+i):=by
 unfold bAt;rw[ByteArray.data_extract,Array.getElem?_extract];by_cases h:i<s.size-k
 · rw[if_pos (by show i<min s.size s.data.size-k;rw[show s.data.size=s.size from rfl,Nat.min_self];exact h)]
 · rw[if_neg (by show ¬i<min s.size s.data.size-k;rw[show s.data.size=s.size from rfl,Nat.min_self];exact h)];have:s.data[k+i]? =none:=Array.getElem?_eq_none (by show s.size≤k+i;omega);rw[this]
theorem vcx (s:ByteArray):s.extract 0 s.size=s:=by
 apply ByteArray.ext
 rw[ByteArray.data_extract];exact Array.extract_eq_self_of_le (Nat.le_refl _)
theorem yt {s:ByteArray} {k:Nat}:(s.extract k s.size).size=s.size-k:=by
 rw[ByteArray.size_extract,Nat.min_self]
theorem setD_dp {s:ByteArray} {f p Z q:Nat} (neg:Bool) (hs:Nm s f p Z q) (hl:s.size<100000):-20000000≤(setD s f neg).dp∧(setD s f neg).dp≤20000000:=by
 obtain ⟨h,hi⟩:=stA_ends neg hs;have h1:=h.hp;have h2:=h.dec.hn;have h3:=h.iE;have h4:=hs.hE;have h5:=qmv hs;rw[←hi] at h5;unfold setD;show -20000000≤(if (stA s f neg).dot=true then (stA s f neg).t.dp else (((stA s f neg).t.nd:Nat):Int))+zrv s (stA s f neg).i∧(if (stA s f neg).dot=true then (stA s f neg).t.dp else (((stA s f neg).t.nd:Nat):Int))+zrv s (stA s f neg).i≤20000000
 split<;>omega
theorem dqz158 {P:Prop} (h:P:=by
 exact ⟨by omega,fun h=>by have:=h2 h;omega,by omega,fun h=>by have:=h4 h;omega⟩):P:=h
theorem ru_shift {s:ByteArray} {f i:Nat}:xa (s.extract f s.size) i=xa s (f+i):=by
 unfold xa;rw[vv,yt];congr 1
 exact decide_eq_decide.2 (by omega)
theorem zxq {s:ByteArray} {f a:Nat} (h:f+a≤s.size):zgz s (f+a)=f+zgz (s.extract f s.size) a:=by
 obtain ⟨h1,h2⟩:=km (s:=s.extract f s.size) (a:=a) (by rw[yt];omega);have h3:=h1.lo;have h4:=h1.hi;rw[yt] at h4;refine runD_eq ⟨by omega,by omega,fun j hj hk=>?_⟩ (by rw[←ru_shift];exact h2);have:=h1.dig (j-f) (by omega) (by omega);rw[vv,show f+(j-f)=j by omega] at this;exact this
theorem nQ_shift {s:ByteArray} {f b:Nat}:nQ s (f+b)=f+nQ (s.extract f s.size) b:=by
 unfold nQ;rw[vv,show f+(b+1)=f+b+1 by omega];split<;>omega
theorem nB_shift {s:ByteArray} {f a:Nat}:nB s (f+a)=f+nB (s.extract f s.size) a:=by
 unfold nB;rw[vv];split
 · rename_i h
   have:=oj (s:=s) (i:=f+a) (by omega);rw[show f+a+1=f+(a+1) by omega,zxq (by omega)]
 · rfl
theorem nC_shift {s:ByteArray} {f b:Nat}:nC s (f+b)=f+nC (s.extract f s.size) b:=by
 unfold nC;rw[vv];split
 · rename_i h
   have:=oj (s:=s) (i:=f+b) (by omega);have h1:=nQ_le (s:=s) (b:=f+b) this;rw[nQ_shift] at h1 ⊢;exact zxq h1
 · rfl
theorem num_shift {s:ByteArray} {f:Nat} (hf:f≤s.size):NumP (s.extract f s.size) 0↔NumP s f:=by
 have e:=zxq (s:=s) (f:=f) (a:=0) (by omega);unfold NumP Num2 Num3;rw[Nat.add_zero] at e;rw[e,nB_shift,nC_shift,nQ_shift,vv,vv,yt];constructor
 · rintro ⟨h1,h2,h3,h4⟩;exact dqz158
 · rintro ⟨h1,h2,h3,h4⟩;exact dqz158
theorem numB_shift {s:ByteArray} {f:Nat} (hf:f≤s.size):zlq (s.extract f s.size) 0=zlq s f:=by
 by_cases h:NumP s f
 · rw[vev h,vev ((num_shift hf).2 h)]
 · rw[ot h,ot (fun e=>h ((num_shift hf).1 e))]
theorem extract_extract {s:ByteArray} {f k:Nat}:(s.extract f s.size).extract k (s.extract f s.size).size=s.extract (f+k) s.size:=by
 rw[yt];apply ByteArray.ext
 rw[ByteArray.data_extract,ByteArray.data_extract,ByteArray.data_extract,Array.extract_extract];congr 1
 show min (f+(s.size-f)) s.size=s.size
 omega
theorem len_bytes (s:ByteArray):s.toList.length=s.size:=by rw[ByteArray.toList_eq];rfl
theorem vbv {s:ByteArray} {k:Nat}:(s.extract k s.size).toList= []↔s.size≤k:=by
 have h:=len_bytes (s.extract k s.size);rw[yt] at h;constructor
 · intro e;rw[e] at h;have h:0=s.size-k:=h;omega
 · intro e;exact List.eq_nil_of_length_eq_zero (by omega)
theorem at_bytes (s:ByteArray) (i:Nat):(s.toList[i]?).map (·.toNat)=(s.data[i]?).map (·.toNat):=by
 rw[ByteArray.toList_eq,Array.getElem?_toList]
theorem list_one {s:ByteArray} {c:UInt8} (h0:0<s.size):((s.extract 0 1).toList== [c])=decide (bAt s 0=c.toNat):=by
 have hl:=len_bytes (s.extract 0 1);rw[ByteArray.size_extract,Nat.sub_zero,Nat.min_eq_left (by omega)] at hl;obtain ⟨d,hd⟩:=List.length_eq_one_iff.1 hl;have h1:=at_bytes (s.extract 0 1) 0;rw[hd] at h1;have h2:(s.extract 0 1).data[0]? =s.data[0]? :=by
  rw[ByteArray.data_extract,Array.getElem?_extract,if_pos (by show 0<min 1 s.size-0;omega),Nat.zero_add]
 rw[h2,qh h0] at h1;have h1:d.toNat=bAt s 0:=Option.some.inj h1;rw[hd,←h1];by_cases h:d=c
 · subst h;simp
 · rw[decide_eq_false (fun e=>h (UInt8.toNat_inj.1 e))];simp[h]
theorem byte_of (r:Nat) (h:r<10):48≤(UInt8.ofNat (48+r)).toNat∧(UInt8.ofNat (48+r)).toNat≤57:=by
 have e:(UInt8.ofNat (48+r)).toNat=(48+r)%256:=rfl;rw[e];omega
theorem dec_all:∀n:Nat,∀c∈Lib.decDigits n,48≤c.toNat∧c.toNat≤57:=by
 intro n;induction n using Nat.strongRecOn with
 | _ n ih=>
  by_cases h:10≤n
  · rw[yax h];intro c hc;rcases List.mem_append.1 hc with h1 | h1
    · exact ih (n/10) (by omega) c h1
    · obtain rfl:=List.mem_singleton.1 h1;exact byte_of _ (by omega)
  · rw[yfz (by omega)];intro c hc;obtain rfl:=List.mem_singleton.1 hc;exact byte_of _ (by omega)
theorem dec_pos (n:Nat):0<(Lib.decDigits n).length:=by
 by_cases h:10≤n
 · rw[yax h,List.length_append];show 0<_+1;omega
 · rw[yfz (by omega)];exact Nat.one_pos
theorem dec_len:∀(k n:Nat),n<10^(k+1)→(Lib.decDigits n).length≤k+1
 | 0,n,h=>by rw[yfz (by simpa using h)];exact Nat.le_refl _
 | k+1,n,h=>by
  by_cases h1:10≤n
  · rw[yax h1,List.length_append];have:=dec_len k (n/10) ((Nat.div_lt_iff_lt_mul (by decide)).2 (by rwa [Nat.pow_succ] at h));show _+1≤_;omega
  · rw[yfz (by omega)];show 1≤_;omega
def itS (i:Int):ByteArray:=⟨(Lib.itoa i).toArray⟩
def itF (i:Int):Nat:=if i<0 then 1 else 0
theorem itS_at (i:Int) (j:Nat):bAt (itS i) j=(((Lib.itoa i)[j]?).map (·.toNat)).getD 0:=by
 unfold bAt itS;rw[List.getElem?_toArray]
theorem itS_size (i:Int):(itS i).size=(Lib.itoa i).length:=by
 show (Lib.itoa i).toArray.size=_
 rw[List.size_toArray]
theorem it_neg {i:Int} (h:i<0):Lib.itoa i=45::Lib.decDigits i.natAbs:=by rw[Lib.itoa,if_pos h]
theorem it_pos {i:Int} (h:¬i<0):Lib.itoa i=Lib.decDigits i.toNat:=by rw[Lib.itoa,if_neg h]
theorem it_sgn (i:Int):SgnAt (itS i) (itF i) (decide (i<0)):=by
 by_cases h:i<0
 · refine .inr ⟨decide_eq_true h,by unfold itF;rw[if_pos h],?_⟩;rw[itS_at,it_neg h];rfl
 · exact .inl ⟨decide_eq_false h,by unfold itF;rw[if_neg h]⟩
theorem it_nm (i:Int):Nm (itS i) (itF i) (itS i).size (itS i).size 0:=by
 have key:itF i<(itS i).size∧ ∀j,itF i≤j→j<(itS i).size→48≤bAt (itS i) j∧bAt (itS i) j≤57:=by
  rw[itS_size];by_cases h:i<0
  · have hf:itF i=1:=by unfold itF;rw[if_pos h]
    have hp:=dec_pos i.natAbs;rw[hf,it_neg h];refine ⟨by show 1<_+1;omega,fun j hj hl=>?_⟩;have hl:j<(Lib.decDigits i.natAbs).length+1:=hl;rw[itS_at,it_neg h];obtain ⟨k,rfl⟩:∃k,j=k+1:=⟨j-1,by omega⟩;rw[List.getElem?_cons_succ,List.getElem?_eq_getElem (by omega)];exact dec_all _ _ (List.getElem_mem _)
  · have hf:itF i=0:=by unfold itF;rw[if_neg h]
    have hp:=dec_pos i.toNat;rw[hf,it_pos h];refine ⟨hp,fun j hj hl=>?_⟩;rw[itS_at,it_pos h,List.getElem?_eq_getElem hl];exact dec_all _ _ (List.getElem_mem _)
 refine ⟨key.1,Nat.le_refl _,Nat.le_refl _,key.2,fun h=>absurd h (Nat.lt_irrefl _),fun j h1 h2=>absurd h1 (Nat.not_lt.2 (Nat.le_of_lt h2)),fun h=>absurd h (Nat.lt_irrefl _)⟩
theorem it_size {i:Int} (h:i.natAbs<B18^30):(itS i).size<100000:=by
 have e:B18^30=10^(539+1):=by unfold B18;decide +kernel
 rw[e] at h;rw[itS_size];by_cases h0:i<0
 · rw[it_neg h0];have:=dec_len 539 i.natAbs h;show _+1<100000
   omega
 · rw[it_pos h0];have:=dec_len 539 i.toNat (by rw[show i.toNat=i.natAbs by omega];exact h);omega
noncomputable def ofN (i:Int):Nat:=atV (itS i) (itF i) (decide (i<0))
noncomputable def ofV (i:Int):Nat:=if rg (ofN i)=9218868437227405312 then 0 else ofN i
noncomputable def ofE (i:Int):Int:=if rg (ofN i)=9218868437227405312 then 7 else 0
theorem vek (i:Int):Sgn (decide (i<0)) (ofN i):=viz _ (it_nm i)
theorem ofN_bare (i:Int):yy (ofN i)=ofN i:=by unfold yy;rw[(vek i).num,if_neg (by decide)]
end Go.Proofs.YtmnmebdmpigddaaGreatDoor
namespace Go.Proofs.YtmnmebdmpigddaaGreatDoor
open Go.RowKit
theorem stpdq270 {P Q:Prop} (k:Q) (h:(Unit→Q)→P:=by
 intro zK;refine zn ?_;refine za rfl (zaz rfl rfl (kg (n:=0) (sgB_lt neg) (by decide)) (za rfl (va (b:=sgB neg ||| 0) ex225 rfl (qd ?_))));refine zox ?_;exact zK ()):P:=h fun _=>k
theorem zox {P Q:Prop} (k:Q) (h:(Unit→Q)→P:=by
 intro zK;refine gr (rs:=[.tmp 2,.tmp 3,.tmp 4]) (vs:=[_,_,_]) rfl ⟨rfl,rfl,rfl,trivial⟩ ?_;exact zK ()):P:=h fun _=>k
attribute [local irreducible] OW RS CW EW
theorem shl63 (neg:Bool):IntKind.u64.wrap (((b2n neg:Nat):Int)*2^(min (63:Int).toNat IntKind.u64.bits))=((sgB neg:Nat):Int):=by
 cases neg<;>decide +kernel
section
variable (w:World) {bp op cp bf of cf bl ol cl:Nat}
theorem common_digit (s:ByteArray) (h:48≤bAt s 0∧bAt s 0≤57):Calls Tryz.prog 249 #[.string s,.string ⟨#[105,110,102,105,110,105,116,121]⟩] w (RetB w (.int .i64 0)):=by
 have hs:0<s.size:=oj (by omega);refine zc Tryz.func249 rfl Tryz.ntmps249 rfl ?_;have LW:=erx (No) w;have XLW:=grx (No) w;have E:=erx (No) w;refine yi ?_;refine zy ?_;refine stp ?_;refine zy ?_;refine za rfl (ow_min rfl rfl (zz ?_));refine zbk (yi ?_);refine zd 15 (.bool true) rfl ((by rw[decide_eq_true (by split<;>omega)]:(.bool (decide (0<(if (s.size:Int)<8 then (s.size:Int) else 8))):Value)=_)) (qd ?_);refine za rfl (yn (j:=0) (b:=bAt s 0) u9 rfl rfl rfl (qh hs) (qd ?_));refine zf 23 (.bool false) rfl (by rw[decide_eq_false (by omega)]<;>rfl) (jt ?_);refine za rfl (yn (j:=0) (b:=105) u9 rfl rfl rfl (by kernel_rfl) (zn ?_));refine zd 33 (.bool true) rfl (by rw[bne_iff_ne.2 (by omega)]<;>rfl) (jm ?_);exact xi
theorem special_neg (s:ByteArray) (h45:bAt s 0=45) (h:48≤bAt s 1∧bAt s 1≤57):Calls Tryz.prog 215 #[.string s] w (RetB w (.tuple #[.float .f64 0,.int .i64 0,.bool false])):=by
 have hs:1<s.size:=oj (by omega);refine zc Tryz.func215 rfl Tryz.ntmps215 rfl ?_;have LW:=erx (No) w;have XLW:=grx (No) w;have E:=erx (No) w;refine yu ?_;refine zy ?_;refine zn ?_;refine zd 10 (.bool false) rfl (by rw[vm (by omega)]<;>rfl) (zxz ?_);refine qek ?_;refine zf 12 (.int .u8 45) rfl (by rw[h45];rfl) (stp34 ?_);refine qek ?_;refine zf 23 (.int .u8 45) rfl (by rw[h45];rfl) (ky ?_);refine za rfl (vu (l:=1) (h:=s.size) u9 rfl ⟨_,rfl⟩ rfl (by omega) (by omega) (yi ?_));refine zh rfl en249 rfl (common_digit _ (s.extract 1 s.size) (by rw[vv];exact h)) E fun w1 E=>(stp31 ?_);exact dqz114
theorem special_any (s:ByteArray) (f:Nat) (neg:Bool) (hsg:SgnAt s f neg) (h:48≤bAt s f∧bAt s f≤57):Calls Tryz.prog 215 #[.string s] w (RetB w (.tuple #[.float .f64 0,.int .i64 0,.bool false])):=by
 rcases hsg with ⟨_,rfl⟩ | ⟨_,rfl,h45⟩
 · exact special_digit w s (bAt s 0) (qh (oj (by omega))) h
 · exact special_neg w s h45 h
theorem atof_any (s:ByteArray) (f:Nat) (neg:Bool) {p Z q:Nat} (hsg:SgnAt s f neg) (hs:Nm s f p Z q) (hl:s.size<100000) (hT:Tabs bp op cp bf of cf bl ol cl w):Calls Tryz.prog 201 #[.string s] w (RetB w (.tuple #[.float .f64 (atV s f neg),.int .i64 (s.size:Int),atE s f neg])):=by
 have hfd:=hs.first;have hmm:=rdM_lt hs;refine zc Tryz.func201 rfl Tryz.ntmps201 rfl ?_;obtain ⟨HF,LW,XLW,E⟩:=wk0 w;replace HF:=HF.and (Per.tabs hT (fun _ h=>h.elim));refine yu ?_;refine zh rfl en215 rfl (special_any _ s f neg hsg hfd) E fun w1 E=>(stp20 ?_);refine zh rfl en216 rfl (readf_any _ s f neg hsg hs hl) E fun w2 E=>(stp39 ?_);refine za rfl (vq u4 rfl rfl (HF.on E).here.2.opt (zl ?_));refine zh rfl en224 rfl (bool2u _ neg) E fun w3 E=>(za rfl (gq rfl rfl (by decide) (shl63 neg) (zz ?_)));refine zd 69 (.bool (decide (rdM s f=0))) rfl (by rw[zero_b]<;>rfl) (zg rfl (fun h1=>?_) (fun h1=>?_))
 ·
  have h1:=of_decide_eq_true h1;refine stpdq270 ?_;exact ⟨by rw[show atV s f neg=sgB neg ||| 0 by unfold atV;rw[if_pos h1],show atE s f neg= .nilIface by unfold atE;rw[if_pos h1]];rfl,(LW.step E XLW).toBelow⟩
 ·
  have h1:=of_decide_eq_false h1;refine qd ?_;refine zg rfl (fun h2=>?_) (fun h2=>?_)
  ·
   have h2:=of_decide_eq_true h2;refine zn ?_;refine za rfl (zaz rfl rfl (kg (n:=9218868437227405312) (sgB_lt neg) (by decide)) (za rfl (va (b:=sgB neg ||| 9218868437227405312) ex225 rfl (stp ?_))));refine za rfl (ow_mkI (by kernel_rfl) rfl (yi ?_));refine zox ?_;exact ⟨by rw[show atV s f neg=sgB neg ||| 9218868437227405312 by unfold atV;rw[if_neg h1,if_pos h2],show atE s f neg=rangeE by unfold atE;rw[if_neg h1,if_pos h2]];rfl,(LW.step E XLW).toBelow⟩
  ·
   have h2:=of_decide_eq_false h2;refine qd ?_;refine zg rfl (fun h3=>?_) (fun h3=>?_)
   ·
    have h3:=of_decide_eq_true h3;refine stpdq270 ?_;exact ⟨by rw[show atV s f neg=sgB neg ||| 0 by unfold atV;rw[if_neg h1,if_neg h2,if_pos h3],show atE s f neg= .nilIface by unfold atE;rw[if_neg h1,if_neg h2,if_pos h3]];rfl,(LW.step E XLW).toBelow⟩
   ·
    have h3:=of_decide_eq_false h3;refine qd ?_;replace HF:=HF.on E;replace LW:=LW.step E XLW;replace E:=erx (No) w3;refine yh (ι:=Unit) (fun _=>[(0,.string s),(3,.int .i64 (s.size:Int)),(4,.nilIface),(8,.int .u64 ((rdM s f:Nat):Int)),(9,.int .i64 (rdX s f)),(11,.bool (rdT s f)),(16,.int .u64 ((sgB neg:Nat):Int))]) (fun _ w'=>Ext (No) w3 w'∧(¬(rdT s f=false∧(exF (rdM s f) (rdX s f) neg).2=true))) ?_ ?_
    ·
     have M4:=erx (No) w3;have XM4:=grx (No) w3;refine zg rfl (fun h5=>?_) (fun h5=>?_)
     ·
      have h5:rdT s f=false:=by simpa using h5
      refine zu ?_;refine zh rfl en226 rfl (exact_any _ (rdM s f) (rdX s f) neg (by omega) (HF.on E).here.2) E fun w6 E=>(vp ?_);refine zg rfl (fun h6=>?_) (fun h6=>?_)
      ·
       refine vp ?_;refine zox ?_;exact ⟨by rw[show atV s f neg=(exF (rdM s f) (rdX s f) neg).1 by unfold atV;rw[if_neg h1,if_neg h2,if_neg h3,if_pos ⟨h5,h6⟩],show atE s f neg= .nilIface by unfold atE;rw[if_neg h1,if_neg h2,if_neg h3,if_pos ⟨h5,h6⟩]];rfl,(LW.step E XLW).toBelow⟩
      ·
       refine stp ?_;exact zt () ⟨rfl,rfl,rfl,rfl,rfl,rfl,rfl,trivial⟩ ⟨M4.step E XM4,fun h=>absurd h.2 (by rw[h6];decide)⟩
     ·
      refine stp ?_;exact zt () ⟨rfl,rfl,rfl,rfl,rfl,rfl,rfl,trivial⟩ ⟨M4.step E XM4,fun h=>absurd h5 (by rw[h.1];decide)⟩
    ·
     rintro _ w5 ⟨M4,h4⟩;replace E:=E.trans M4;replace HF:=HF.on E;replace LW:=LW.step E XLW;replace E:=erx (No) w5;have hj:3≤atJ s f∧atJ s f≤658:=by unfold atJ;omega
     refine zu ?_;refine zf 101 (.int .i64 (((atJ s f:Nat):Int)-348)) rfl (by congr 1;unfold atJ;omega) (zh rfl en227 rfl (fast_any _ (rdM s f) (atJ s f) (sgB neg) (by omega) hj (sgB_lt neg) (HF.on E).here.2.pow) E fun w7 E=>(jm ?_));refine zg rfl (fun h5=>?_) (fun h5=>?_)
     ·
      have h5:rdT s f=false:=by simpa using h5
      refine jt ?_;refine zox ?_;exact ⟨by rw[show atV s f neg=qmz (rdM s f) (atJ s f) (sgB neg) by unfold atV;rw[if_neg h1,if_neg h2,if_neg h3,if_neg h4,if_pos (.inl h5)];try rfl,show atE s f neg=qmq (rdM s f) (atJ s f) (sgB neg) by unfold atE;rw[if_neg h1,if_neg h2,if_neg h3,if_neg h4,if_pos (.inl h5)];try rfl];rfl,(LW.step E XLW).toBelow⟩
     ·
      have h5:¬rdT s f=false:=fun e=>absurd h5 (by rw[e];decide);refine zu ?_;refine kl ?_;refine zm ?_;refine zf 113 (.int .u64 ((rdM s f+1:Nat):Int)) rfl (rfl) (zf 114 (.int .i64 (((atJ s f:Nat):Int)-348)) rfl (by congr 1;unfold atJ;omega) (za rfl (zb en227 rfl ((fast_any _ (rdM s f+1) (atJ s f) (sgB neg) (by omega) hj (sgB_lt neg) (HF.on E).here.2.pow).mono ?_))));rintro e w8 ⟨rfl,hb⟩;refine ⟨_,rfl,?_⟩;have Ec:=Ext.of_below hb No;replace E:=E.trans Ec.no;refine yu ?_;refine za rfl (ow_feql rfl rfl (zm ?_));refine zg rfl (fun h6=>?_) (fun h6=>?_)
      ·
       have h6:atL s f neg=true:=h6;refine vp ?_;refine zox ?_;exact ⟨by rw[show atV s f neg=qmz (rdM s f) (atJ s f) (sgB neg) by unfold atV;rw[if_neg h1,if_neg h2,if_neg h3,if_neg h4,if_pos (.inr h6)];try rfl,show atE s f neg=qmq (rdM s f) (atJ s f) (sgB neg) by unfold atE;rw[if_neg h1,if_neg h2,if_neg h3,if_neg h4,if_pos (.inr h6)];try rfl];rfl,(LW.step E XLW).toBelow⟩
      ·
       have h6:¬(rdT s f=false∨atL s f neg=true):=fun h=>h.elim h5 (fun h=>by rw[show atL s f neg=false from h6] at h;cases h);have hdec:=setD_ok neg hs;have hddp:=setD_dp neg hs hl;refine zx ?_;refine za rfl (zak zrDec ?_);intro gc w9 Bc Ec Gc;replace Bc:Blk w9 gc 229 (yj (yfq false)):=Bc;have Gc:_≤gc:=Nat.le_trans E.size Gc;have GLc:=Nat.le_trans LW.size Gc;replace E:=E.trans Ec.no;replace HF:=HF.cons (ym Gc);replace E:=E.cons (some gc);replace XLW:=Mut.grow XLW (fun k e=>Or.inr (Nat.le_trans LW.size ((ym Gc) k e)));have hg:=hT.below.le GLc;refine zp ?_;refine za rfl (vu (l:=0) (h:=s.size) u9 rfl rfl ⟨_,rfl⟩ (Nat.zero_le _) (Nat.le_refl _) (zf 127 (.string s) rfl (by rw[vcx]<;>rfl) (za rfl (zb en222 rfl ((set_any _ gc s f neg hsg hs hl Bc).mono ?_)))));rintro e w10 ⟨rfl,hB,hE⟩;refine ⟨_,rfl,?_⟩;replace Bc:=hB;clear hB;replace E:=E.step1 hE Mut.head;clear hE;refine yi ?_;refine za rfl (zb en223 rfl ((bits_any _ gc (setD s f neg) hdec hddp Bc (HF.on E).here.2 hg).mono ?_));rintro e w11 ⟨rfl,⟨t9,hB⟩,hE⟩;refine ⟨_,rfl,?_⟩;replace Bc:=hB;clear hB;replace E:=E.step1 hE Mut.head;clear hE;refine zz ?_;refine za rfl (va (b:=ztx (setD s f neg)) ex225 rfl (qd ?_));refine zg rfl (fun h7=>?_) (fun h7=>?_)
       ·
        refine stp ?_;refine za rfl (ow_mkI (by kernel_rfl) rfl (jm ?_));refine zox ?_;exact ⟨by rw[show atV s f neg=ztx (setD s f neg) by unfold atV;rw[if_neg h1,if_neg h2,if_neg h3,if_neg h4,if_neg h6],show atE s f neg=rangeE by unfold atE;rw[if_neg h1,if_neg h2,if_neg h3,if_neg h4,if_neg h6,if_pos h7]];rfl,(LW.step E XLW).toBelow⟩
       ·
        refine jt ?_;refine zox ?_;exact ⟨by rw[show atV s f neg=ztx (setD s f neg) by unfold atV;rw[if_neg h1,if_neg h2,if_neg h3,if_neg h4,if_neg h6],show atE s f neg= .nilIface by unfold atE;rw[if_neg h1,if_neg h2,if_neg h3,if_neg h4,if_neg h6,if_neg (by rw[h7];decide)]];rfl,(LW.step E XLW).toBelow⟩
theorem prefix_any64 (s:ByteArray) (f:Nat) (neg:Bool) {p Z q:Nat} (hsg:SgnAt s f neg) (hs:Nm s f p Z q) (hl:s.size<100000) (hT:Tabs bp op cp bf of cf bl ol cl w):Calls Tryz.prog 186 #[.string s,.int .i64 64] w (RetB w (.tuple #[.float .f64 (atV s f neg),.int .i64 (s.size:Int),atE s f neg])):=by
 refine zc Tryz.func186 rfl Tryz.ntmps186 rfl ?_;have LW:=erx (No) w;have XLW:=grx (No) w;have E:=erx (No) w;refine stp20 ?_;refine zh rfl en201 rfl (atof_any _ s f neg hsg hs hl hT) E fun w1 E=>(qd ?_);refine gr (rs:=[.tmp 4,.tmp 5,.tmp 6]) (vs:=[_,_,_]) rfl ⟨rfl,rfl,rfl,trivial⟩ ?_;exact xi
theorem inner_any (s:ByteArray) (f:Nat) (neg:Bool) {p Z q:Nat} (hsg:SgnAt s f neg) (hs:Nm s f p Z q) (hl:s.size<100000) (hT:Tabs bp op cp bf of cf bl ol cl w):Calls Tryz.prog 155 #[.string s,.int .i64 64] w (RetB w (.tuple #[.float .f64 (atV s f neg),atE s f neg])):=by
 refine zc Tryz.func155 rfl Tryz.ntmps155 rfl ?_;have LW:=erx (No) w;have XLW:=grx (No) w;have E:=erx (No) w;refine zz ?_;refine zh rfl en186 rfl (prefix_any64 _ s f neg hsg hs hl hT) E fun w1 E=>(jm ?_);refine zy ?_;refine zn ?_;refine zd 19 (.bool false) rfl (by simp) (jt ?_);exact xi
theorem yzk (s:ByteArray) (f:Nat) (neg:Bool) {p Z q:Nat} (hsg:SgnAt s f neg) (hs:Nm s f p Z q) (hl:s.size<100000) (hT:Tabs bp op cp bf of cf bl ol cl w) (hE:∃te pe,w.cell? ⟨4,0,none⟩=some (.iface te pe)):Calls Tryz.prog 102 #[.string s,.int .i64 64] w fun e w'=>(∃er,e= .returned (.tuple #[.float .f64 (atV s f neg),er]))∧Below w.heap.size w w':=by
 obtain ⟨te,pe,hE⟩:=hE;have hor:=atE_or s f neg;obtain ⟨er,her⟩:∃er,er=atE s f neg:=⟨_,rfl⟩;rw[←her] at hor;refine zc Tryz.func102 rfl Tryz.ntmps102 rfl ?_;obtain ⟨HF,LW,XLW,E⟩:=wk0 w;replace HF:=HF.and (Per.cellA hE (fun _ h=>h.elim));refine zz ?_;refine zh rfl en155 rfl (inner_any _ s f neg hsg hs hl hT) E fun w1 E=>?_;rw[←her];by_cases hn:er= .nilIface
 ·
  subst hn;refine yu ?_;refine za rfl (ow_neqN u83 rfl (jm ?_));exact ⟨⟨_,rfl⟩,(LW.step E XLW).toBelow⟩
 ·
  obtain rfl:er=rangeE:=hor.resolve_left hn;refine yu ?_;refine za rfl (ow_neqI u83 rfl (qd ?_));refine za rfl (zb en152 rfl ((range_err _ s 0 64 _ hl ⟨te,pe,(HF.on E).here.2⟩).mono ?_));rintro e w2 ⟨⟨er2,rfl⟩,hb⟩;refine ⟨_,rfl,?_⟩;replace E:=blx E hb;refine zp ?_;exact ⟨⟨_,rfl⟩,(LW.step E XLW).toBelow⟩
theorem parse_pos (s:ByteArray) {p Z q:Nat} (hs:Nm s 0 p Z q) (hl:s.size<100000) (hT:Tabs bp op cp bf of cf bl ol cl w) (hE:∃te pe,w.cell? ⟨4,0,none⟩=some (.iface te pe)):Calls Tryz.prog 102 #[.string s,.int .i64 64] w fun e w'=>(∃er,e= .returned (.tuple #[.float .f64 (atV s 0 false),er]))∧Below w.heap.size w w':=yzk w s 0 false (.inl ⟨rfl,rfl⟩) hs hl hT hE
end
end Go.Proofs.YtmnmebdmpigddaaGreatDoor
namespace Go.Proofs.YtmnmebdmpigddaaGreatDoor
open Go.RowKit
attribute [local irreducible] OW RS CW EW
theorem putRow_ext (w:World) (g off:Nat) (dk:Array UInt8) (n:Nat):Ext (Mut [some g]) w ((Sort.putRow (fun (b:UInt8)=>Value.int .u8 (b.toNat:Int)) w g off dk).drewN n):=by
 refine ⟨rfl,rfl,rfl,?_,?_⟩
 · simp[Sort.putRow,Sort.mapBlock,World.drewN]
 · intro i hi hx;have hne:g≠i:=fun e=>hx (Or.inl (congrArg some e.symm));simp[Sort.putRow,Sort.mapBlock,World.drewN,Array.getElem?_modify,hne]
theorem small_below (i:Nat) (h:i<100) (w:World):Calls Tryz.prog 202 #[.int .i64 i] w fun e w'=>e= .returned (.string ⟨(Lib.decDigits i).toArray⟩)∧Below w.heap.size w w':=
 (Tryz.internal_strconv_small i h w).mono fun _ _ ⟨a,b⟩=>⟨a,b▸Below.refl _ _⟩
theorem fmt_small (u:Nat) (hu:u<100) (w:World):Calls Tryz.prog 187 #[.int .u64 u,.int .i64 10] w (RetB w (.string ⟨(Lib.decDigits u).toArray⟩)):=by
 have hd:decide (((u:Nat):Int)<100)=true:=decide_eq_true (by omega);refine zc Tryz.func187 rfl Tryz.ntmps187 rfl ?_;have LW:=erx (No) w;have XLW:=grx (No) w;have E:=erx (No) w;refine stp20 ?_;refine zd 12 (.bool true) rfl (by rw[hd]<;>rfl) (zx ?_);refine zdz ?_;refine zh rfl en202 rfl (small_below u hu _) E fun w1 E=>(zp ?_);exact xi
theorem digits_below (u:Nat) (h1:1≤u) (h2:u<18446744073709551616) (w:World) (htab:Lib.TabIs Tryz.prog w "internal/strconv.uint64pow10" .u64 Lib.pow10Tab):Calls Tryz.prog 203 #[.int .u64 u] w fun e w'=>e= .returned (.int .i64 ((Lib.nDigits u:Nat):Int))∧Below w.heap.size w w':=
 (Tryz.internal_strconv_numDigits u h1 h2 w htab).mono fun _ _ ⟨a,b⟩=>⟨a,b▸Below.refl _ _⟩
theorem fmt_row (u:Nat) (hu:100≤u) (hu64:u<18446744073709551616) (w:World) (g:Nat) (hB0:Blk w g 201 (Array.replicate 24 (.int .u8 0))) :
 Calls Tryz.prog 204 #[.slice (some ⟨g,0,none⟩) (Lib.nDigits u) 24,.int .u64 u] w fun e w'=>e= .returned (.tuple #[])∧ ∃cs,Blk w' g 201 cs∧Ext (Mut [some g]) w w'∧ ∀j (hj:j<(Lib.decDigits u).length),w'.cell? ⟨g,0+j,none⟩=some (.int .u8 ((Lib.decDigits u)[j].toNat:Int)):=by
 have hn20:Lib.nDigits u≤20:=by have:=Lib.numDigits_eq u (by omega) hu64;split at this<;>omega
 have hsz:(Array.replicate (Lib.nDigits u) (0:UInt8)).size=Lib.nDigits u:=by simp
 have hH:Sort.Holds (fun (b:UInt8)=>Value.int .u8 (b.toNat:Int)) w g 0 (Array.replicate (Lib.nDigits u) 0):=by
  intro j hj;rw[hsz] at hj;have hj24:j<24:=by omega
  refine ⟨?_,?_⟩
  · rw[hB0.cell];simp[hj,hj24]
  · unfold World.frozen?;simp[show w.heap[g]? =some (.cells (Array.replicate 24 (.int .u8 0)) 201 (0,0)) from hB0]
 have h:=Tryz.internal_strconv_formatBase10 g 0 24 u (Array.replicate (Lib.nDigits u) 0) w hH (by rw[hsz];exact Lib.lt_pow_nDigits u) hu64 (by rw[hsz];omega);rw[hsz] at h;refine h.mono fun e w' ⟨he,n,v',dk,hw,hF⟩=>⟨he,?_⟩;have hdk:dk.size=Lib.nDigits u:=hF.size;subst hw;refine ⟨Sort.putCells (fun (b:UInt8)=>Value.int .u8 (b.toNat:Int)) 0 dk (Array.replicate 24 (.int .u8 0)),?_,putRow_ext w g 0 dk n,fun j hj=>?_⟩
 · show (Array.modify w.heap g _)[g]? =_
   rw[Array.getElem?_modify,if_pos rfl,show w.heap[g]? =some (.cells (Array.replicate 24 (.int .u8 0)) 201 (0,0)) from hB0];rfl
 · have hjn:j<Lib.nDigits u:=by rw[Lib.decDigits_length] at hj;exact hj
   rw[Lib.row_is_numeral hF j hj,World.cell?_drewN];exact Sort.cell?_putRow (fun (b:UInt8)=>Value.int .u8 (b.toNat:Int)) w g 0 _ dk hH (by rw[hdk,hsz]) j (by rw[hdk];exact hjn)
theorem fmt_big (u:Nat) (hu:100≤u) (hu64:u<18446744073709551616) (w:World) (htab:∀b,Below w.heap.size w b→Lib.TabIs Tryz.prog b "internal/strconv.uint64pow10" .u64 Lib.pow10Tab):Calls Tryz.prog 187 #[.int .u64 u,.int .i64 10] w (RetB w (.string ⟨(Lib.decDigits u).toArray⟩)):=by
 have hd:decide (((u:Nat):Int)<100)=false:=decide_eq_false (by omega);refine zc Tryz.func187 rfl Tryz.ntmps187 rfl ?_;have LW:=erx (No) w;have XLW:=grx (No) w;have E:=erx (No) w;refine stp20 ?_;refine zd 12 (.bool false) rfl (by rw[hd]<;>rfl) (zu ?_);refine za rfl (zak zr201 ?_);intro gb1 w2 Bb1 Eb1 Gb1;have Gb1:_≤gb1:=Nat.le_trans E.size Gb1;have GLb1:=Nat.le_trans LW.size Gb1;replace E:=E.trans Eb1.no;replace E:=E.cons (some gb1);replace XLW:=Mut.grow XLW (fun k e=>Or.inr (Nat.le_trans LW.size ((ym Gb1) k e)));refine zu ?_;refine za rfl (zb en203 rfl ((digits_below u (by omega) hu64 _ (htab _ (LW.step E XLW).toBelow)).mono ?_));rintro e w3 ⟨rfl,hb⟩;refine ⟨_,rfl,?_⟩;have Ec:=Ext.of_below hb No;replace Bb1:=Bb1.extN Ec NotIn.nil;replace E:=E.trans Ec.no;refine zl ?_;have hn20:Lib.nDigits u≤20:=by have:=Lib.numDigits_eq u (by omega) hu64;split at this<;>omega
 refine za rfl (ow_sliceA Tryz.underlying201 sz5 rfl rfl (by omega) (stp ?_));refine za rfl (zb en204 rfl ((fmt_row u hu hu64 _ gb1 Bb1).mono ?_));rintro e w4 ⟨rfl,cs1,hB,hE,hcs⟩;refine ⟨_,rfl,?_⟩;replace Bb1:=hB;clear hB;replace E:=E.step1 hE Mut.head;clear hE;refine zu ?_;refine za rfl (ow_sliceA Tryz.underlying201 sz5 rfl rfl (by omega) ?_);have hlen:(Lib.decDigits u).length=Lib.nDigits u:=Lib.decDigits_length u;refine za rfl (ymq (l:=Lib.decDigits u) (A:=some ⟨gb1,0,none⟩) (c:=24) u46 u5 u9 (by rw[hlen];rfl) (fun _↦⟨gb1,0,rfl,hcs⟩) (zl ?_));exact ⟨rfl,(LW.step E XLW).toBelow⟩
theorem fmt_any (u:Nat) (hu64:u<18446744073709551616) (w:World) (htab:∀b,Below w.heap.size w b→Lib.TabIs Tryz.prog b "internal/strconv.uint64pow10" .u64 Lib.pow10Tab):Calls Tryz.prog 187 #[.int .u64 u,.int .i64 10] w (RetB w (.string ⟨(Lib.decDigits u).toArray⟩)):=by
 rcases Nat.lt_or_ge u 100 with h | h
 · exact fmt_small u h w
 · exact fmt_big u h hu64 w htab
end Go.Proofs.YtmnmebdmpigddaaGreatDoor
namespace Go.Proofs.YtmnmebdmpigddaaGreatDoor
open Go.RowKit
theorem dqz164 {P:Prop} (h:P:=by
 rintro e w1 ⟨rfl,hb⟩;refine ⟨_,rfl,?_⟩;replace E:=blx E hb;clear hb;exact yfx):P:=h
theorem dqz2 {P:Prop} (h:P:=by
 refine zd 4 (.int .i64 (((limbs i).length:Int)-1-((0:Nat):Int))) rfl (by simp) ?_;replace HF:=HF.on E;replace LW:=LW.step E XLW;replace E:=erx (No) w3;refine yw (ι:=Nat) (fun k=>[(1,.pointer (some ⟨gb1,0,none⟩)),(3,.string ⟨(kk i k).toArray⟩),(4,.int .i64 (((limbs i).length:Int)-1-(k:Int)))]) (fun k w'=>Ext (No) w3 w'∧(k≤(limbs i).length)) (fun k=>(limbs i).length-k) 0 ⟨rfl,rfl,rfl,trivial⟩ ⟨Ext.refl _ _,Nat.zero_le _⟩ ?_;rintro k w5 ⟨M4,hk⟩;have XM4:=grx (No) w3;replace E:=E.trans M4;replace HF:=HF.on E;replace LW:=LW.step E XLW;replace E:=erx (No) w5;refine zp ?_;refine zg rfl (fun q=>?_) (fun q=>?_)
 ·
  have q:=of_decide_eq_true q;obtain ⟨m,hm⟩:∃m,m=i.natAbs/B18^((limbs i).length-1-k)%B18:=⟨_,rfl⟩;have hm18:m<B18:=by rw[hm];exact Nat.mod_lt _ (by unfold B18;omega)
  have hm64:m<18446744073709551616:=by unfold B18 at hm18;omega
  have hnd:=nDigits_18 hm18;have hlt:=texted_len (i:=i) hk hl2;have hdl:=Lib.decDigits_length m;refine qd ?_;refine za rfl (kd (j:=(limbs i).length-1-k) u22 sz25 rfl rfl (by omega) (by omega) ?_);obtain ⟨b9,o9,hA9,_,hc9⟩:=((HF.on E).here.1.2).2 hpos;obtain ⟨rfl,rfl⟩:b9=bx∧o9=ox:=by simpa using hA9.symm
  have hc8:=hc9 ((limbs i).length-1-k) (by omega);rw[nth_limb,←hm] at hc8;refine za rfl (vq u25 rfl rfl hc8 (za rfl (zb en160 rfl ((fmtU m hm64 _ (ht.below (LW.step E XLW).toBelow)).mono ?_))));rintro e w6 ⟨rfl,hb⟩;refine ⟨_,rfl,?_⟩;replace E:=blx E hb;clear hb;refine zz ?_;refine za rfl (jg rfl rfl (yx (by omega)) (zn ?_));refine zg rfl (fun h2=>?_) (fun h2=>?_)
  ·
   have h2:=of_decide_eq_true h2;have hk0:0<k:=by omega
   refine zm ?_;refine za rfl (qjz u9 rfl (zf 36 (.int .i64 ((Lib.nDigits m:Nat):Int)) rfl (by rw[jq,hdl]) (za rfl (vu (l:=Lib.nDigits m) (h:=18) u9 rfl ⟨_,rfl⟩ rfl hnd (Nat.le_refl _) (zf 37 (.string ⟨(List.replicate (18-Lib.nDigits m) (48:UInt8)).toArray⟩) rfl (by rw[noughts_cut]<;>rfl) (stp ?_))))));refine za rfl (ow_addS rfl rfl (by rw[jq,jq,List.length_replicate,hdl];omega) (zf 39 (.string ⟨(List.replicate (18-Lib.nDigits m) (48:UInt8)++Lib.decDigits m).toArray⟩) rfl (by rw[ba_app]<;>rfl) (zl ?_)));refine za rfl (ow_addS rfl rfl (by rw[jq,jq,List.length_append,List.length_replicate,hdl];omega) (zf 42 (.string ⟨(kk i (k+1)).toArray⟩) rfl (by rw[ba_app,hm,qzx hk0 (by omega)]<;>rfl) (zl ?_)));refine za rfl (jg rfl rfl (yx (by omega)) (zm ?_));refine zq 4 (.int .i64 (((limbs i).length:Int)-1-((k+1:Nat):Int))) rfl ((by rw[show ((limbs i).length:Int)-1-(k:Int)-1=((limbs i).length:Int)-1-((k+1:Nat):Int) by omega]:(.int .i64 ((((limbs i).length:Int)-1-(k:Int))-1):Value)=_)) ?_;exact zo (k+1) (by show (limbs i).length-(k+1)<(limbs i).length-k;omega) ⟨rfl,rfl,rfl,trivial⟩ ⟨M4.step E XM4,(by omega:k+1≤(limbs i).length)⟩
  ·
   have h2:=of_decide_eq_false h2;have hk0:k=0:=by omega
   have hone:kk i k++Lib.decDigits m=kk i (k+1):=by rw[hm,hk0];exact texted_one hpos
   refine zu ?_;refine za rfl (ow_addS rfl rfl (by rw[jq,jq,hdl];omega) (zf 42 (.string ⟨(kk i (k+1)).toArray⟩) rfl (by rw[ba_app,hone]<;>rfl) (zl ?_)));refine za rfl (jg rfl rfl (yx (by omega)) (zm ?_));refine zq 4 (.int .i64 (((limbs i).length:Int)-1-((k+1:Nat):Int))) rfl ((by rw[show ((limbs i).length:Int)-1-(k:Int)-1=((limbs i).length:Int)-1-((k+1:Nat):Int) by omega]:(.int .i64 ((((limbs i).length:Int)-1-(k:Int))-1):Value)=_)) ?_;exact zo (k+1) (by show (limbs i).length-(k+1)<(limbs i).length-k;omega) ⟨rfl,rfl,rfl,trivial⟩ ⟨M4.step E XM4,(by omega:k+1≤(limbs i).length)⟩
 ·
  have q:=of_decide_eq_false q;obtain rfl:k=(limbs i).length:=by omega
  refine jt ?_;exact ⟨by rw[texted_all hpos];rfl,(LW.step E XLW).toBelow⟩):P:=h
attribute [local irreducible] OW RS CW EW
def Tab (w:World):Prop:=∀b,Below w.heap.size w b→Lib.TabIs Tryz.prog b "internal/strconv.uint64pow10" .u64 Lib.pow10Tab
theorem Tab.below {w w':World} (h:Tab w) (hb:Below w.heap.size w w'):Tab w':=fun b hb'=>h b (hb.trans (hb'.mono hb.size))
theorem jq (l:List UInt8):(⟨l.toArray⟩:ByteArray).size=l.length:=by simp[ByteArray.size]
theorem ba_app (a b:List UInt8):(⟨a.toArray⟩:ByteArray)++ ⟨b.toArray⟩= ⟨(a++b).toArray⟩:=by
 apply ByteArray.ext
 rw[ByteArray.data_append];simp
theorem ba_cut (a:List UInt8) (l h:Nat):(⟨a.toArray⟩:ByteArray).extract l h= ⟨((a.take h).drop l).toArray⟩:=by
 apply ByteArray.ext
 rw[ByteArray.data_extract];apply Array.ext'
 simp[List.extract,List.drop_take]
theorem noughts_cut {n:Nat}:(⟨#[48,48,48,48,48,48,48,48,48,48,48,48,48,48,48,48,48,48]⟩:ByteArray).extract n 18= ⟨(List.replicate (18-n) (48:UInt8)).toArray⟩:=by
 have h:=ba_cut (List.replicate 18 48) n 18;rw[List.take_of_length_le (by simp),List.drop_replicate] at h;exact h
theorem fmtU (u:Nat) (hu64:u<18446744073709551616) (w:World) (ht:Tab w):Calls Tryz.prog 160 #[.int .u64 u,.int .i64 10] w (RetB w (.string ⟨(Lib.decDigits u).toArray⟩)):=by
 refine zc Tryz.func160 rfl Tryz.ntmps160 rfl ?_;have LW:=erx (No) w;have XLW:=grx (No) w;have E:=erx (No) w;refine qd ?_;refine za rfl (zb en187 rfl ((fmt_any u hu64 _ (ht.below (LW.step E XLW).toBelow)).mono ?_));exact dqz164
section
variable (i:Int) (A:Option Addr) (c:Nat) (w:World) (hi:i.natAbs<B18^30) (hx:Nums w A (limbs i)) (ht:Tab w)
include hi hx ht
theorem text_zero (h0:i=0):Calls Tryz.prog 110 #[.agg #[.bool (decide (i<0)),.slice A (limbs i).length c]] w (RetB w (.string ⟨(Lib.itoa i).toArray⟩)):=by
 have _:=ht;have hl:((limbs i).length:Int)=0:=by rw[h0,vi];rfl
 refine zc Tryz.func110 rfl Tryz.ntmps110 rfl ?_;obtain ⟨HF,LW,XLW,E⟩:=wk0 w;replace HF:=HF.and (Per.nums0 hx);refine zi ?_;intro gb1 w2 Bb1 Eb1 Gb1;obtain ⟨HF,LW,E⟩:=frz HF LW E XLW Bb1 Eb1;refine zp ?_;refine za rfl (zb yoq rfl ((yhv A c _ hi (HF.on E).here.1.2).mono ?_));rintro e w3 ⟨rfl,hb⟩;refine ⟨_,rfl,?_⟩;replace E:=blx E hb;clear hb;refine ky ?_;refine zd 12 (.bool true) rfl (by rw[hl];rfl) ?_;exact dqz103
theorem text_neg (hn:i<0):Calls Tryz.prog 110 #[.agg #[.bool (decide (i<0)),.slice A (limbs i).length c]] w (RetB w (.string ⟨(Lib.itoa i).toArray⟩)):=by
 have hpos:=qkv (j:=i) (by omega);have hl:((limbs i).length:Int)≠0:=by omega
 have hl2:=ve hi;have hdi:decide (i<0)=true:=decide_eq_true hn;obtain ⟨bx,ox,rfl,hbx,hcx⟩:=hx.2 hpos;refine zc Tryz.func110 rfl Tryz.ntmps110 rfl ?_;obtain ⟨HF,LW,XLW,E⟩:=wk0 w;replace HF:=HF.and (Per.nums0 hx);refine zi ?_;intro gb1 w2 Bb1 Eb1 Gb1;obtain ⟨HF,LW,E⟩:=frz HF LW E XLW Bb1 Eb1;refine zp ?_;refine za rfl (zb yoq rfl ((yhv _ c _ hi (HF.on E).here.1.2).mono ?_));rintro e w3 ⟨rfl,hb⟩;refine ⟨_,rfl,?_⟩;replace E:=blx E hb;clear hb;refine ky ?_;refine zd 12 (.bool false) rfl (by rw[beq_eq_false_iff_ne.2 hl]<;>rfl) (ky ?_);refine zd 14 (.bool true) rfl (by rw[hdi]<;>rfl) (yu ?_);refine yl ?_;refine zx ?_;refine zd 3 (.string ⟨(kk i 0).toArray⟩) rfl (by rw[yjz,if_pos hn]<;>rfl) ?_;exact dqz2
theorem text_pos (hn:0<i):Calls Tryz.prog 110 #[.agg #[.bool (decide (i<0)),.slice A (limbs i).length c]] w (RetB w (.string ⟨(Lib.itoa i).toArray⟩)):=by
 have hpos:=qkv (j:=i) (by omega);have hl:((limbs i).length:Int)≠0:=by omega
 have hl2:=ve hi;have hdi:decide (i<0)=false:=decide_eq_false (by omega);obtain ⟨bx,ox,rfl,hbx,hcx⟩:=hx.2 hpos;refine zc Tryz.func110 rfl Tryz.ntmps110 rfl ?_;obtain ⟨HF,LW,XLW,E⟩:=wk0 w;replace HF:=HF.and (Per.nums0 hx);refine zi ?_;intro gb1 w2 Bb1 Eb1 Gb1;obtain ⟨HF,LW,E⟩:=frz HF LW E XLW Bb1 Eb1;refine zp ?_;refine za rfl (zb yoq rfl ((yhv _ c _ hi (HF.on E).here.1.2).mono ?_));rintro e w3 ⟨rfl,hb⟩;refine ⟨_,rfl,?_⟩;replace E:=blx E hb;clear hb;refine ky ?_;refine zd 12 (.bool false) rfl (by rw[beq_eq_false_iff_ne.2 hl]<;>rfl) (ky ?_);refine zd 14 (.bool false) rfl (by rw[hdi]<;>rfl) (qd ?_);refine yl ?_;refine zx ?_;refine zd 3 (.string ⟨(kk i 0).toArray⟩) rfl (by rw[yjz,if_neg (by omega)]<;>rfl) ?_;exact dqz2
theorem textI:Calls Tryz.prog 110 #[.agg #[.bool (decide (i<0)),.slice A (limbs i).length c]] w (RetB w (.string ⟨(Lib.itoa i).toArray⟩)):=by
 rcases Int.lt_trichotomy i 0 with h | h | h
 · exact text_neg i A c w hi hx ht h
 · exact text_zero i A c w hi hx ht h
 · exact text_pos i A c w hi hx ht h
end
end Go.Proofs.YtmnmebdmpigddaaGreatDoor
namespace Go.Proofs.YtmnmebdmpigddaaGreatDoor
open Go.RowKit
theorem dqz132 {P:Prop} (h:P:=by
 have h:=of_decide_eq_true h;refine qd ?_;exact ⟨by unfold ofV ofE;rw[if_pos h,if_pos h];rfl,(LW.step E XLW).toBelow⟩):P:=h
attribute [local irreducible] OW RS CW EW
section
variable (w:World) {bp op cp bf of cf bl ol cl:Nat}
theorem of_bad (n1:Bool) (A:Option Addr) (c:Nat) (xs:List Nat) (hl:xs.length≤9223372036854775807) (hx:Nums w A xs) (hg:zr n1 xs=false):Calls Tryz.prog 98 #[.agg #[.bool n1,.slice A xs.length c]] w (RetB w (.tuple #[.int .u64 0,.int .i64 3])):=by
 refine zc Tryz.func98 rfl Tryz.ntmps98 rfl ?_;obtain ⟨HF,LW,XLW,E⟩:=wk0 w;replace HF:=HF.and (Per.nums0 hx);refine zi ?_;intro gb1 w2 Bb1 Eb1 Gb1;obtain ⟨HF,LW,E⟩:=frz HF LW E XLW Bb1 Eb1;refine yi ?_;refine za rfl (zb yoq rfl ((yr _ c _ A xs hl (HF.on E).here.1.2).mono ?_));rintro e w3 ⟨rfl,hb⟩;refine ⟨_,rfl,?_⟩;replace E:=blx E hb;clear hb;refine zf 7 (.bool false) rfl (by rw[hg]<;>rfl) (jt ?_);exact xi
theorem of_good (i:Int) (A:Option Addr) (c:Nat) (hi:i.natAbs<B18^30) (hx:Nums w A (limbs i)) (hD:∀b,Below w.heap.size w b→TabD b) (hT:Tabs bp op cp bf of cf bl ol cl w) (hE:∃te pe,w.cell? ⟨4,0,none⟩=some (.iface te pe)):Calls Tryz.prog 98 #[.agg #[.bool (decide (i<0)),.slice A (limbs i).length c]] w (RetB w (.tuple #[.int .u64 ((ofV i:Nat):Int),.int .i64 (ofE i)])):=by
 obtain ⟨te,pe,hE⟩:=hE;refine zc Tryz.func98 rfl Tryz.ntmps98 rfl ?_;obtain ⟨HF,LW,XLW,E⟩:=wk0 w;replace HF:=HF.and (Per.nums0 hx);replace HF:=HF.and (Per.tabs hT (fun _ h=>h.elim));replace HF:=HF.and (Per.cellA hE (fun _ h=>h.elim));refine zi ?_;intro gb1 w2 Bb1 Eb1 Gb1;obtain ⟨HF,LW,E⟩:=frz HF LW E XLW Bb1 Eb1;refine yi ?_;refine za rfl (zb yoq rfl ((yhv _ c _ hi (HF.on E).here.1.1.1.2).mono ?_));rintro e w3 ⟨rfl,hb⟩;refine ⟨_,rfl,?_⟩;replace E:=blx E hb;clear hb;refine qd ?_;refine za rfl (zb en110 rfl ((textI i A c _ hi (HF.on E).here.1.1.1.2 (later hD (LW.step E XLW).toBelow)).mono ?_));rintro e w4 ⟨rfl,hb⟩;refine ⟨_,rfl,?_⟩;replace E:=blx E hb;clear hb;refine za rfl (zb en102 rfl ((yzk _ (itS i) (itF i) (decide (i<0)) (it_sgn i) (it_nm i) (it_size hi) (HF.on E).here.1.1.2 ⟨te,pe,(HF.on E).here.1.2⟩).mono ?_));rintro e w5 ⟨⟨er,rfl⟩,hb⟩;refine ⟨_,rfl,?_⟩;replace E:=blx E hb;clear hb;refine yu ?_;refine za rfl (zb en89 rfl ((jj _ (ofN i) (vek i).lt).mono ?_));rintro e w6 ⟨rfl,hb⟩;refine ⟨_,rfl,?_⟩;replace E:=blx E hb;clear hb;refine zm ?_;refine zg rfl (fun h=>?_) (fun h=>?_)
 ·
  exact dqz132
 ·
  have h:=of_decide_eq_false h;refine zu ?_;refine za rfl (zb en87 rfl ((ypz _ (ofN i)).mono ?_));rintro e w7 ⟨rfl,hb⟩;refine ⟨_,rfl,?_⟩;replace E:=blx E hb;clear hb;refine zl ?_;exact ⟨by unfold ofV ofE;rw[if_neg h,if_neg h,ofN_bare];rfl,(LW.step E XLW).toBelow⟩
theorem of_bad_r (n1:Bool) (A:Option Addr) (c:Nat) (xs:List Nat) (hl:xs.length≤9223372036854775807) (hx:Nums w A xs) (hg:zr n1 xs=false):Calls Tryz.prog 107 #[.agg #[.bool n1,.slice A xs.length c]] w (RetB w (.tuple #[.int .u64 0,.int .i64 3])):=by
 refine zc Tryz.func107 rfl Tryz.ntmps107 rfl ?_;obtain ⟨HF,LW,XLW,E⟩:=wk0 w;replace HF:=HF.and (Per.nums0 hx);refine zi ?_;intro gb1 w2 Bb1 Eb1 Gb1;obtain ⟨HF,LW,E⟩:=frz HF LW E XLW Bb1 Eb1;refine yi ?_;refine za rfl (zb en42 rfl ((qsq _ c _ A xs hl (HF.on E).here.1.2).mono ?_));rintro e w3 ⟨rfl,hb⟩;refine ⟨_,rfl,?_⟩;replace E:=blx E hb;clear hb;refine zf 8 (.bool false) rfl (by rw[hg]<;>rfl) (jt ?_);exact xi
theorem of_good_r (i:Int) (A:Option Addr) (c:Nat) (hi:i.natAbs<B18^30) (hx:Nums w A (limbs i)) (hT:Tabs bp op cp bf of cf bl ol cl w) (hE:∃te pe,w.cell? ⟨4,0,none⟩=some (.iface te pe)):Calls Tryz.prog 107 #[.agg #[.bool (decide (i<0)),.slice A (limbs i).length c]] w (RetB w (.tuple #[.int .u64 ((ofV i:Nat):Int),.int .i64 (ofE i)])):=by
 obtain ⟨te,pe,hE⟩:=hE;refine zc Tryz.func107 rfl Tryz.ntmps107 rfl ?_;obtain ⟨HF,LW,XLW,E⟩:=wk0 w;replace HF:=HF.and (Per.nums0 hx);replace HF:=HF.and (Per.tabs hT (fun _ h=>h.elim));replace HF:=HF.and (Per.cellA hE (fun _ h=>h.elim));refine zi ?_;intro gb1 w2 Bb1 Eb1 Gb1;obtain ⟨HF,LW,E⟩:=frz HF LW E XLW Bb1 Eb1;refine yi ?_;refine za rfl (zb en42 rfl ((rgoodI _ c _ hi (HF.on E).here.1.1.1.2).mono ?_));rintro e w3 ⟨rfl,hb⟩;refine ⟨_,rfl,?_⟩;replace E:=blx E hb;clear hb;refine qd ?_;refine za rfl (zb en85 rfl ((rofI _ c _ hi (HF.on E).here.1.1.1.2).mono ?_));rintro e w4 ⟨A2,c2,rfl,o2,hb⟩;refine ⟨_,rfl,?_⟩;have XC:∀q9,(No) q9→q9<w3.heap.size:=Mut.none_;replace E:=blx E hb;clear hb;obtain ⟨HF,LW,E⟩:=fra HF LW E XLW (Per.own8X o2 XC);refine za rfl (zb en158 rfl ((rshow_any i A2 c2 _ hi (HF.on E).here.2).mono ?_));rintro e w5 ⟨rfl,hb⟩;refine ⟨_,rfl,?_⟩;replace E:=blx E hb;clear hb;refine za rfl (zb en102 rfl ((yzk _ (itS i) (itF i) (decide (i<0)) (it_sgn i) (it_nm i) (it_size hi) (HF.on E).here.1.1.1.2 ⟨te,pe,(HF.on E).here.1.1.2⟩).mono ?_));rintro e w6 ⟨⟨er,rfl⟩,hb⟩;refine ⟨_,rfl,?_⟩;replace E:=blx E hb;clear hb;refine zz ?_;refine zcv ?_;refine zp ?_;refine za rfl (zb en104 rfl ((isinf_any _ (ofN i) (vek i).lt).mono ?_));rintro e w7 ⟨rfl,hb⟩;refine ⟨_,rfl,?_⟩;replace E:=blx E hb;clear hb;refine zm ?_;refine zg rfl (fun h=>?_) (fun h=>?_)
 ·
  exact dqz132
 ·
  have h:=of_decide_eq_false h;refine yu ?_;exact ⟨by unfold ofV ofE;rw[if_neg h,if_neg h];rfl,(LW.step E XLW).toBelow⟩
noncomputable def wV (a:Nat):Int:=if isN a then 0 else if rg a=9218868437227405312 then 0 else vw a
noncomputable def wE (a:Nat):Int:=if isN a then 1 else if rg a=9218868437227405312 then 7 else 0
theorem wV_lt (a:Nat):(wV a).natAbs<B18^30:=by
 have h0:(0:Int).natAbs<B18^30:=by show 0<B18^30;exact Nat.pow_pos (by unfold B18;decide)
 unfold wV;split
 · exact h0
 · rename_i h
   split
   · exact h0
   · rename_i h2
     have h3:=of_decide_eq_false (Bool.eq_false_iff.2 h);exact zmq (by omega)
theorem qbx {W w':World} {f:Int} (hb:Below W.heap.size W w'):yd W 0 f (.returned (.tuple #[.agg #[.bool false,.slice none 0 0],.int .i64 f])) w':=
 ⟨none,0,by rw[vi];rfl,by rw[vi];exact Own.nil _ _,hb⟩
theorem whole_any (a:Nat) (ha:a<18446744073709551616):Calls Tryz.prog 43 #[.int .u64 ((a:Nat):Int)] w (yd w (wV a) (wE a)):=by
 by_cases hn:isN a=true
 · unfold wV wE;rw[if_pos hn,if_pos hn];exact (whole_nan w a ha hn).mono (fun e w' ⟨he,hb⟩=>he▸qbx hb)
 · unfold wV wE;rw[if_neg hn,if_neg hn];by_cases hi:rg a=9218868437227405312
   · rw[if_pos hi,if_pos hi];exact (whole_inf w a ha hi).mono (fun e w' ⟨he,hb⟩=>he▸qbx hb)
   · rw[if_neg hi,if_neg hi];have h3:=of_decide_eq_false (Bool.eq_false_iff.2 hn);exact whole_fin w a ha (by omega)
theorem whole_any_r (a:Nat) (ha:a<18446744073709551616):Calls Tryz.prog 53 #[.int .u64 ((a:Nat):Int)] w (yd w (wV a) (wE a)):=by
 refine zc Tryz.func53 rfl Tryz.ntmps53 rfl ?_;obtain ⟨HF,LW,XLW,E⟩:=wk0 w;refine zm ?_;refine yq ?_;intro gb1 w2 Bb1 Eb1 Gb1;obtain ⟨Gb1,HF,E,XLW⟩:=alx HF LW E XLW Eb1 Gb1;refine zp ?_;refine za rfl (zb en65 rfl ((qvz _ a ha).mono ?_));rintro e w3 ⟨rfl,hb⟩;refine ⟨_,rfl,?_⟩;have Ec:=Ext.of_below hb No;replace Bb1:=Bb1.extN Ec NotIn.nil;replace E:=E.trans Ec.no;refine zm ?_;refine zg rfl (fun hn=>?_) (fun hn=>?_)
 ·
  refine zm ?_;refine zxx ?_;refine zjk ?_;intro w4 Bx Eb1;replace Bb1:=Bx;replace E:=E.step1 Eb1 Mut.head;refine zl ?_;exact by unfold wV wE;rw[if_pos hn,if_pos hn];exact qbx (LW.step E XLW).toBelow
 ·
  have hn':¬isN a=true:=by rw[hn];decide
  refine zl ?_;refine za rfl (zb en104 rfl ((isinf_any _ a ha).mono ?_));rintro e w5 ⟨rfl,hb⟩;refine ⟨_,rfl,?_⟩;have Ec:=Ext.of_below hb No;replace Bb1:=Bb1.extN Ec NotIn.nil;replace E:=E.trans Ec.no;refine zm ?_;refine zg rfl (fun hi=>?_) (fun hi=>?_)
  ·
   have hi:=of_decide_eq_true hi;refine zm ?_;refine zxx ?_;refine zjk ?_;intro w6 Bx Eb1;replace Bb1:=Bx;replace E:=E.step1 Eb1 Mut.head;refine zl ?_;exact by unfold wV wE;rw[if_neg hn',if_neg hn',if_pos hi,if_pos hi];exact qbx (LW.step E XLW).toBelow
  ·
   have hi:=of_decide_eq_false hi;have h3:=of_decide_eq_false hn;have hf:rg a<9218868437227405312:=by omega
   have e1:wV a=vw a:=by unfold wV;rw[if_neg hn',if_neg hi]
   have e2:wE a=0:=by unfold wE;rw[if_neg hn',if_neg hi]
   refine zu ?_;refine za rfl (zb en105 rfl ((cut_any _ a ha hf).mono ?_));rintro e w7 ⟨A1,c1_,rfl,n1_,g1_,hb⟩;refine ⟨_,rfl,?_⟩;have XC:∀q9,(Mut [(some gb1)]) q9→q9<w5.heap.size:=(Mut.grow Mut.none_ (ze Bb1.lt));have Ec:=Ext.of_below hb No;replace Bb1:=Bb1.extN Ec NotIn.nil;replace E:=E.trans Ec.no;obtain ⟨HF,LW,E⟩:=fra HF LW E XLW (Per.nums8N n1_ (fun q hq h=>by have h1:=XC _ h;have h2:=g1_ q hq;omega));refine zn ?_;refine gj ?_;intro gb8 w9 Bb8 Eb8 Gb8;have Db8_b1:Apart (some gb8) (some gb1):=Apart.of_lt (ze Bb1.lt) Gb8;have Db1_b8:=Db8_b1.symm;replace Bb1:=Bb1.extN Eb8 NotIn.nil;obtain ⟨Gb8,HF,E,XLW⟩:=alx HF LW E XLW Eb8 Gb8;refine zk (yb zuv rfl rfl Bb8 rfl rfl (Nat.le_of_ble_eq_true rfl) ?_);intro w10 Bx Eb8;replace Bb8:=Bx;replace Bb1:=Bb1.extN Eb8 (NotIn.cons Db1_b8 NotIn.nil);replace E:=E.step1 Eb8 Mut.head;obtain ⟨HF,LW,XLW,E⟩:=frg HF LW E XLW (Y:=Mut [(some gb1)]) (Mut.skip (Mut.keep Mut.nil_)) (Per.blkN Bb8 (NotIn.cons Db8_b1 NotIn.nil));refine zl ?_;refine za rfl (zb en57 rfl ((rto_any A1 c1_ (vw a) _ (HF.on E).here.1.2 (Nat.le_trans (zsq (zmq hf)) (by decide))).mono ?_));rintro e w11 ⟨A2,c2,rfl,o2,hb⟩;refine ⟨_,rfl,?_⟩;have XC:∀q9,(Mut [(some gb1)]) q9→q9<w10.heap.size:=(Mut.grow Mut.none_ (ze Bb1.lt));have SC:=Nat.le_trans LW.size E.size;have Ec:=Ext.of_below hb No;replace Bb1:=Bb1.extN Ec NotIn.nil;replace E:=E.trans Ec.no;have hS:=SC;obtain ⟨HF,LW,E⟩:=fra HF LW E XLW (Per.ownX o2 XC);refine zjk ?_;intro w12 Bx Eb1;replace Bb1:=Bx;replace E:=E.step1 Eb1 Mut.head;obtain ⟨HF,LW,XLW,E⟩:=frg HF LW E XLW (Y:=No) (Mut.skip Mut.nil_) (Per.blkN Bb1 NotIn.nil);refine zu ?_;exact ⟨A2,c2,by rw[e1,e2];rfl,by rw[e1];exact ((HF.on E).here.1.2).mono hS,(LW.step E XLW).toBelow⟩
theorem ofx_any (n1:Bool) (A:Option Addr) (c:Nat) (xs:List Nat) (hl:xs.length≤9223372036854775807) (hx:Nums w A xs) (V:Nat) (F:Int) (hV:V=(if zr n1 xs then ofV (num n1 xs) else 0)) (hF:F=(if zr n1 xs then ofE (num n1 xs) else 3)) (hD:∀b,Below w.heap.size w b→TabD b) (hT:Tabs bp op cp bf of cf bl ol cl w) (hE:∃te pe,w.cell? ⟨4,0,none⟩=some (.iface te pe)):Calls Tryz.prog 98 #[.agg #[.bool n1,.slice A xs.length c]] w (RetB w (.tuple #[.int .u64 ((V:Nat):Int),.int .i64 F])):=by
 subst hV;subst hF;cases hg:zr n1 xs with
 | false=>exact of_bad w n1 A c xs hl hx hg
 | true=>
  obtain ⟨i,rfl,rfl,hi⟩:=qlz hg;rw[if_pos rfl,if_pos rfl,ji];exact of_good w i A c hi hx hD hT hE
theorem ofx_any_r (n1:Bool) (A:Option Addr) (c:Nat) (xs:List Nat) (hl:xs.length≤9223372036854775807) (hx:Nums w A xs) (V:Nat) (F:Int) (hV:V=(if zr n1 xs then ofV (num n1 xs) else 0)) (hF:F=(if zr n1 xs then ofE (num n1 xs) else 3)) (hT:Tabs bp op cp bf of cf bl ol cl w) (hE:∃te pe,w.cell? ⟨4,0,none⟩=some (.iface te pe)):Calls Tryz.prog 107 #[.agg #[.bool n1,.slice A xs.length c]] w (RetB w (.tuple #[.int .u64 ((V:Nat):Int),.int .i64 F])):=by
 subst hV;subst hF;cases hg:zr n1 xs with
 | false=>exact of_bad_r w n1 A c xs hl hx hg
 | true=>
  obtain ⟨i,rfl,rfl,hi⟩:=qlz hg;rw[if_pos rfl,if_pos rfl,ji];exact of_good_r w i A c hi hx hT hE
end
end Go.Proofs.YtmnmebdmpigddaaGreatDoor
namespace Go.Proofs.YtmnmebdmpigddaaGreatDoor
open Go.RowKit
theorem stpdq305 {P Q:Prop} (k:Q) (h:(Unit→Q)→P:=by
 intro zK;refine zm ?_;refine onx rfl (yn (j:=b+1) (b:=bAt s (b+1)) u9 rfl rfl rfl (qh (by omega)) ?_);exact zK ()):P:=h fun _=>k
theorem stpdq277 {P Q:Prop} (k:Q) (h:(Unit→Q)→P:=by
 intro zK;refine stp ?_;refine onx rfl (yn (j:=0) (b:=bAt (s.extract (b+1) s.size) 0) u9 rfl rfl rfl (qh (by rw[yt];omega)) ?_);exact zK ()):P:=h fun _=>k
theorem ykk {P Q:Prop} (k:Q) (h:(Unit→Q)→P:=by
 intro zK;refine zm ?_;refine onx rfl (yn (j:=n) (b:=bAt s (n)) u9 rfl rfl rfl (qh (by omega)) ?_);exact zK ()):P:=h fun _=>k
theorem dqz156 {P:Prop} (h:P:=by
 exact zt false ⟨rfl,rfl,trivial⟩ ⟨M9.step E XM9,(decide_eq_false (by omega)).symm⟩):P:=h
theorem dqz144 {P:Prop} (h:P:=by
 exact zt false ⟨rfl,rfl,rfl,trivial⟩ ⟨M11.step E XM11,(decide_eq_false (by omega)).symm⟩):P:=h
theorem dqz126 {P:Prop} (h:P:=by
 exact zt () ⟨rfl,rfl,rfl,trivial⟩ ⟨M7.step E XM7,trivial⟩):P:=h
theorem dqz118 {P:Prop} (h:P:=by
 exact zt () ⟨rfl,rfl,rfl,rfl,trivial⟩ ⟨M2.step E XM2,trivial⟩):P:=h
theorem dqz70 {P:Prop} (h:P:=by
 have h1:¬n<s.size:=by have h1:=of_decide_eq_false h1;omega
 have hdone:xa s n=true:=by
  cases hd:xa s n with
  | true=>rfl
  | false=>exact absurd (ru_go hd).1 h1
 rw[yp hdone] at hu;refine stp27 ?_;exact ⟨by rw[←hu];rfl,(LW.step E XLW).toBelow⟩):P:=h
theorem dqz68 {P:Prop} (h:P:=by
 have h2:¬48≤bAt s n:=by have h2:=of_decide_eq_false h2;omega
 have hdone:xa s n=true:=by
  cases hd:xa s n with
  | true=>rfl
  | false=>exact absurd (ru_go hd).2.1 h2
 rw[yp hdone] at hu;refine zsk ?_;exact ⟨by rw[←hu];rfl,(LW.step E XLW).toBelow⟩):P:=h
theorem dqz67 {P:Prop} (h:P:=by
 have h3:¬bAt s n≤57:=by have h3:=of_decide_eq_false h3;omega
 have hdone:xa s n=true:=by
  cases hd:xa s n with
  | true=>rfl
  | false=>exact absurd (ru_go hd).2.2 h3
 rw[yp hdone] at hu;refine jt ?_;exact ⟨by rw[←hu];rfl,(LW.step E XLW).toBelow⟩):P:=h
attribute [local irreducible] OW RS CW EW
theorem eq_nil (s:ByteArray) (k:Nat):((s.extract k s.size).toList==(⟨#[]⟩:ByteArray).toList)=decide (s.size≤k):=by
 rw[yfk #[]];by_cases h:s.size≤k
 · rw[decide_eq_true h,vbv.2 h];rfl
 · rw[decide_eq_false h];exact beq_eq_false_iff_ne.2 (fun e=>h (vbv.1 e))
theorem ne_nil (s:ByteArray) (k:Nat):(!((s.extract k s.size).toList==(⟨#[]⟩:ByteArray).toList))=decide (k<s.size):=by
 rw[eq_nil];by_cases h:k<s.size
 · rw[decide_eq_true h,decide_eq_false (by omega)];rfl
 · rw[decide_eq_false h,decide_eq_true (by omega)];rfl
theorem qmk {s:ByteArray} {f k z m:Nat} (hz:z=s.size-f) (hm:f+k=m):(s.extract f s.size).extract k z=s.extract m s.size:=by
 subst hz;subst hm;rw[←extract_extract,yt]
theorem nB_dot {s:ByteArray} {a:Nat} (h:bAt s a=46):nB s a=zgz s (a+1):=by unfold nB;rw[if_pos h]
theorem nB_no {s:ByteArray} {a:Nat} (h:¬bAt s a=46):nB s a=a:=by unfold nB;rw[if_neg h]
theorem nC_e {s:ByteArray} {a:Nat} (h:bAt s a=101):nC s a=zgz s (nQ s a):=by unfold nC;rw[if_pos h]
theorem nC_no {s:ByteArray} {a:Nat} (h:¬bAt s a=101):nC s a=a:=by unfold nC;rw[if_neg h]
theorem nC_le {s:ByteArray} {b:Nat} (hb:b≤s.size):nC s b≤s.size:=by
 by_cases h:bAt s b=101
 · rw[nC_e h];exact (km (nQ_le (oj (by omega)))).1.hi
 · rw[nC_no h];exact hb
theorem sgB_add {x:Nat} (h:x≤9218868437227405312) (neg:Bool):sgB neg ||| x=sgB neg+x:=by
 cases neg with
 | false=>rw[show sgB false=0 from rfl,Nat.zero_or,Nat.zero_add]
 | true=>
  have h2:=Nat.two_pow_add_eq_or_of_lt (show x<2^63 by show x<9223372036854775808;omega) 1;exact h2.symm
section
variable (w:World)
theorem qav (s:ByteArray) (hl:s.size<100000):Calls Tryz.prog 154 #[.string s] w (RetB w (.int .i64 ((zgz s 0:Nat):Int))):=by
 have hle:=Nat.zero_le s.size;refine zc Tryz.func154 rfl Tryz.ntmps154 rfl ?_;have LW:=erx (No) w;have XLW:=grx (No) w;have E:=erx (No) w;refine vp ?_;replace LW:=LW.step E XLW;replace E:=erx (No) w;refine yw (ι:=Nat) (fun n=>[(0,.string s),(3,.int .i64 ((n:Nat):Int))]) (fun n w'=>Ext (No) w w'∧(RuI s 0 n∧qk (xa s) (fun i=>i+1) n=zgz s 0)) (fun n=>s.size-n) 0 ⟨rfl,rfl,trivial⟩ ⟨Ext.refl _ _,⟨Nat.le_refl _,hle,fun j h1 h2=>absurd h1 (Nat.not_le.2 h2)⟩,rfl⟩ ?_;rintro n w2 ⟨M1,⟨hI,hu⟩⟩;have XM1:=grx (No) w;replace E:=E.trans M1;replace LW:=LW.step E XLW;replace E:=erx (No) w2;have hlo:=hI.lo;have hhi:=hI.hi;refine zjx ?_;refine zj 8 rfl (fun h1=>?_) (fun h1=>?_)
 ·
  have h1:n<s.size:=by have h1:=of_decide_eq_true h1;omega
  refine ykk ?_;refine zn ?_;refine zj 14 rfl (fun h2=>?_) (fun h2=>?_)
  ·
   have h2:48≤bAt s n:=by have h2:=of_decide_eq_true h2;omega
   refine ykk ?_;refine zx ?_;refine zg rfl (fun h3=>?_) (fun h3=>?_)
   ·
    have h3:bAt s n≤57:=by have h3:=of_decide_eq_true h3;omega
    have hdone:=ru_on h1 ⟨h2,h3⟩;have hk:=ru_keeps hI hdone;rw[qp hdone] at hu;refine yjk ?_;exact zo (n+1) (by omega) ⟨rfl,rfl,trivial⟩ ⟨M1.step E XM1,hk,hu⟩
   ·
    exact dqz67
  ·
   exact dqz68
 ·
  exact dqz70
theorem run_any (s:ByteArray) (a:Nat) (hle:a≤s.size) (hl:s.size<100000):Calls Tryz.prog 159 #[.string s,.int .i64 ((a:Nat):Int)] w (RetB w (.int .i64 ((zgz s a:Nat):Int))):=by
 refine zc Tryz.func159 rfl Tryz.ntmps159 rfl ?_;have LW:=erx (No) w;have XLW:=grx (No) w;have E:=erx (No) w;refine zp ?_;replace LW:=LW.step E XLW;replace E:=erx (No) w;refine yw (ι:=Nat) (fun n=>[(0,.string s),(1,.int .i64 ((n:Nat):Int))]) (fun n w'=>Ext (No) w w'∧(RuI s a n∧qk (xa s) (fun i=>i+1) n=zgz s a)) (fun n=>s.size-n) a ⟨rfl,rfl,trivial⟩ ⟨Ext.refl _ _,⟨Nat.le_refl _,hle,fun j h1 h2=>absurd h1 (Nat.not_le.2 h2)⟩,rfl⟩ ?_;rintro n w2 ⟨M1,⟨hI,hu⟩⟩;have XM1:=grx (No) w;replace E:=E.trans M1;replace LW:=LW.step E XLW;replace E:=erx (No) w2;have hlo:=hI.lo;have hhi:=hI.hi;refine zjx ?_;refine zj 9 rfl (fun h1=>?_) (fun h1=>?_)
 ·
  have h1:n<s.size:=by have h1:=of_decide_eq_true h1;omega
  refine ykk ?_;refine zn ?_;refine zj 15 rfl (fun h2=>?_) (fun h2=>?_)
  ·
   have h2:48≤bAt s n:=by have h2:=of_decide_eq_true h2;omega
   refine ykk ?_;refine zx ?_;refine zg rfl (fun h3=>?_) (fun h3=>?_)
   ·
    have h3:bAt s n≤57:=by have h3:=of_decide_eq_true h3;omega
    have hdone:=ru_on h1 ⟨h2,h3⟩;have hk:=ru_keeps hI hdone;rw[qp hdone] at hu;refine yjk ?_;exact zo (n+1) (by omega) ⟨rfl,rfl,trivial⟩ ⟨M1.step E XM1,hk,hu⟩
   ·
    exact dqz67
  ·
   exact dqz68
 ·
  exact dqz70
theorem prefix1_in (s:ByteArray) (c:UInt8) (hc:c.toNat≠0):Calls Tryz.prog 168 #[.string s,.string ⟨#[c]⟩] w (RetB w (.bool (decide (bAt s 0=c.toNat)))):=by
 have h1s:((⟨#[c]⟩:ByteArray).size:Nat)=1:=rfl;refine zc Tryz.func168 rfl Tryz.ntmps168 rfl ?_;have LW:=erx (No) w;have XLW:=grx (No) w;have E:=erx (No) w;refine yi ?_;refine zy ?_;refine stp ?_;refine zy ?_;refine zm ?_;refine zj 10 rfl (fun h1=>?_) (fun h1=>?_)
 ·
  have h1:0<s.size:=by have h1:=of_decide_eq_true h1;rw[h1s] at h1;omega
  refine stpdq309 ?_;refine onx rfl (vu (l:=0) (h:=1) u9 rfl rfl ⟨_,rfl⟩ (by decide) (by omega) (zp ?_));refine zq 4 (.bool (decide (bAt s 0=c.toNat))) rfl (by rw[yfk #[c],list_one h1]) (stp ?_);exact xi
 ·
  have h1:¬0<s.size:=by have h1:=of_decide_eq_false h1;rw[h1s] at h1;omega
  refine vp ?_;exact ⟨by rw[decide_eq_false (by rw[ygx (by omega)];omega)];rfl,(LW.step E XLW).toBelow⟩
theorem vaz (s:ByteArray) (c:UInt8) (hc:c.toNat≠0):Calls Tryz.prog 128 #[.string s,.string ⟨#[c]⟩] w (RetB w (.bool (decide (bAt s 0=c.toNat)))):=by
 refine zc Tryz.func128 rfl Tryz.ntmps128 rfl ?_;have LW:=erx (No) w;have XLW:=grx (No) w;have E:=erx (No) w;refine qd ?_;refine za rfl (zb en168 rfl ((prefix1_in _ s c hc).mono ?_));exact dqz164
def signed (s:ByteArray):Bool:=decide (bAt s 0=45)
def ywx (s:ByteArray):Nat:=if bAt s 0=45 then 1 else 0
theorem cut_in (s:ByteArray):Calls Tryz.prog 153 #[.string s,.string ⟨#[45]⟩] w (RetB w (.tuple #[.string (s.extract (ywx s) s.size),.bool (signed s)])):=by
 refine zc Tryz.func153 rfl Tryz.ntmps153 rfl ?_;have LW:=erx (No) w;have XLW:=grx (No) w;have E:=erx (No) w;refine yu ?_;refine za rfl (zb en168 rfl ((prefix1_in _ s 45 (by decide)).mono ?_));rintro e w1 ⟨rfl,hb⟩;refine ⟨_,rfl,?_⟩;replace E:=blx E hb;clear hb;refine zf 8 (.bool (signed s)) rfl (rfl) (zn ?_);by_cases h:bAt s 0=45
 ·
  have e1:signed s=true:=decide_eq_true h;have e2:ywx s=1:=by unfold ywx;rw[if_pos h]
  have hs:=oj (s:=s) (i:=0) (by omega);refine zd 9 (.bool false) rfl (by rw[e1];rfl) (zp ?_);refine zy ?_;refine za rfl (vu (l:=1) (h:=s.size) u9 rfl ⟨_,rfl⟩ rfl (by omega) (by omega) (zl ?_));exact ⟨by rw[e1,e2];rfl,(LW.step E XLW).toBelow⟩
 ·
  have e1:signed s=false:=decide_eq_false h;have e2:ywx s=0:=by unfold ywx;rw[if_neg h]
  refine zd 9 (.bool true) rfl (by rw[e1];rfl) (yu ?_);exact ⟨by rw[e1,e2,vcx];rfl,(LW.step E XLW).toBelow⟩
theorem cutp_any (s:ByteArray):Calls Tryz.prog 99 #[.string s,.string ⟨#[45]⟩] w (RetB w (.tuple #[.string (s.extract (ywx s) s.size),.bool (signed s)])):=by
 refine zc Tryz.func99 rfl Tryz.ntmps99 rfl ?_;have LW:=erx (No) w;have XLW:=grx (No) w;have E:=erx (No) w;refine zz ?_;refine za rfl (zb en153 rfl ((cut_in _ s).mono ?_));rintro e w1 ⟨rfl,hb⟩;refine ⟨_,rfl,?_⟩;replace E:=blx E hb;clear hb;refine yi ?_;exact xi
theorem numeral_any (s:ByteArray) (hl:s.size<100000):Calls Tryz.prog 101 #[.string s] w (RetB w (.bool (zlq s 0))):=by
 obtain ⟨n,hn⟩:∃n,n=zgz s 0:=⟨_,rfl⟩;have hnI:=(km (s:=s) (Nat.zero_le _)).1;rw[←hn] at hnI;have hns:=hnI.hi;obtain ⟨b,hbq⟩:∃b,b=nB s n:=⟨_,rfl⟩;have hbs:=nB_le (s:=s) hns;rw[←hbq] at hbs;refine zc Tryz.func101 rfl Tryz.ntmps101 rfl ?_;have LW:=erx (No) w;have XLW:=grx (No) w;have E:=erx (No) w;refine yi ?_;refine za rfl (zb en154 rfl ((qav _ s hl).mono ?_));rintro e w1 ⟨rfl,hb⟩;refine ⟨_,rfl,?_⟩;replace E:=blx E hb;clear hb;refine zf 5 (.int .i64 ((n:Nat):Int)) rfl (by rw[hn]<;>rfl) (zz ?_);refine zg rfl (fun h1=>?_) (fun h1=>?_)
 ·
  have h1:n=0:=by have h1:=eq_of_beq h1;omega
  have e:zlq s 0=false:=ot (fun h=>by have:=h.1;rw[←hn] at this;omega);refine yi ?_;exact zlx
 ·
  have h1:n≠0:=fun e=>absurd h1 (by rw[e];decide);refine zl ?_;refine za rfl (vu (l:=n) (h:=s.size) u9 rfl ⟨_,rfl⟩ rfl (by omega) (by omega) (zp ?_));refine za rfl (zb en128 rfl ((vaz _ (s.extract n s.size) 46 (by decide)).mono ?_));rintro e w2 ⟨rfl,hb⟩;refine ⟨_,rfl,?_⟩;replace E:=blx E hb;clear hb;refine zf 12 (.bool (decide (bAt s n=46))) rfl (by rw[vv,Nat.add_zero];rfl) (zm ?_);replace LW:=LW.step E XLW;replace E:=erx (No) w2;refine yh (ι:=Unit) (fun _=>[(0,.string (s.extract b s.size))]) (fun _ w'=>Ext (No) w2 w'∧((bAt s n=46→n+1<b))) ?_ ?_
  ·
   have M3:=erx (No) w2;have XM3:=grx (No) w2;refine zg rfl (fun h3=>?_) (fun h3=>?_)
   ·
    have h3:=of_decide_eq_true h3;have hin:=oj (s:=s) (i:=n) (by omega);obtain ⟨r,hr⟩:∃r,r=zgz (s.extract (n+1) s.size) 0:=⟨_,rfl⟩;have e1:b=n+1+r:=by rw[hbq,nB_dot h3,hr];exact zxq (f:=n+1) (a:=0) (by omega)
    refine zx ?_;refine za rfl (vu (l:=1) (h:=s.size-n) u9 rfl ⟨_,rfl⟩ (yt).symm (by omega) (by rw[yt];omega) (zf 14 (.string (s.extract (n+1) s.size)) rfl (by rw[qmk rfl rfl]<;>rfl) (za rfl (zb en154 rfl ((qav _ (s.extract (n+1) s.size) (by rw[yt];omega)).mono ?_)))));rintro e w5 ⟨rfl,hb⟩;refine ⟨_,rfl,?_⟩;replace E:=blx E hb;clear hb;refine zf 15 (.int .i64 ((r:Nat):Int)) rfl (by rw[hr]<;>rfl) (qd ?_);refine zg rfl (fun h4=>?_) (fun h4=>?_)
    ·
     have h4:r=0:=by have h4:=eq_of_beq h4;omega
     have e:zlq s 0=false:=ot (fun h=>by have:=h.2.1;rw[←hn,←hbq] at this;have:=this h3;omega);refine qd ?_;exact zlx
    ·
     have h4:r≠0:=fun e=>absurd h4 (by rw[e];decide);refine zu ?_;refine yo ?_;refine zf 20 (.int .i64 ((r+1:Nat):Int)) rfl (rfl) (za rfl (vu (l:=r+1) (h:=s.size-n) u9 rfl ⟨_,rfl⟩ (yt).symm (by omega) (by rw[yt];omega) (zm ?_)));refine zq 0 (.string (s.extract b s.size)) rfl ((by rw[qmk (m:=b) rfl (by omega)]:(.string ((s.extract n s.size).extract (r+1) (s.size-n)):Value)=_)) ?_;exact zt () ⟨rfl,trivial⟩ ⟨M3.step E XM3,fun _=>by omega⟩
   ·
    have h3:=of_decide_eq_false h3;have e1:b=n:=by rw[hbq,nB_no h3]
    refine stp ?_;refine zq 0 (.string (s.extract b s.size)) rfl ((by rw[e1]:(.string (s.extract n s.size):Value)=_)) ?_;exact zt () ⟨rfl,trivial⟩ ⟨M3.step E XM3,fun h=>absurd h h3⟩
  ·
   rintro _ w4 ⟨M3,h2⟩;replace E:=E.trans M3;replace LW:=LW.step E XLW;replace E:=erx (No) w4;have hcs:=nC_le (s:=s) hbs.2;refine zx ?_;refine za rfl (zb en128 rfl ((vaz _ (s.extract b s.size) 101 (by decide)).mono ?_));rintro e w6 ⟨rfl,hb⟩;refine ⟨_,rfl,?_⟩;replace E:=blx E hb;clear hb;refine zf 23 (.bool (decide (bAt s b=101))) rfl (by rw[vv,Nat.add_zero];rfl) (zm ?_);replace LW:=LW.step E XLW;replace E:=erx (No) w6;refine yh (ι:=Unit) (fun _=>[(0,.string (s.extract (nC s b) s.size))]) (fun _ w'=>Ext (No) w6 w'∧((bAt s b=101→nQ s b<nC s b))) ?_ ?_
   ·
    have M7:=erx (No) w6;have XM7:=grx (No) w6;refine zg rfl (fun h3=>?_) (fun h3=>?_)
    ·
     have h3:=of_decide_eq_true h3;have hin:=oj (s:=s) (i:=b) (by omega);have hqs:=nQ_le hin;refine zn ?_;refine za rfl (vu (l:=1) (h:=s.size-b) u9 rfl ⟨_,rfl⟩ (yt).symm (by omega) (by rw[yt];omega) (zf 25 (.string (s.extract (b+1) s.size)) rfl (by rw[qmk rfl rfl]<;>rfl) (zu ?_)));replace LW:=LW.step E XLW;replace M7:=M7.step E XM7;replace E:=erx (No) w6;refine yh (ι:=Bool) (fun g=>[(0,.string (s.extract (b+1) s.size)),(37,.bool g)]) (fun g w'=>Ext (No) w6 w'∧(g=decide (bAt s (b+1)=43∨bAt s (b+1)=45))) ?_ ?_
     ·
      have M9:=erx (No) w6;have XM9:=grx (No) w6;refine zm ?_;refine za rfl (ycq rfl rfl (stp ?_));refine zf 28 (.bool (decide (b+1<s.size))) rfl (by rw[ne_nil]) (zj 28 rfl (fun h6=>?_) (fun h6=>?_))
      ·
       have h6:=of_decide_eq_true h6;refine stpdq277 ?_;refine zf 30 (.int .u8 ((bAt s (b+1):Nat):Int)) rfl (by rw[vv]<;>rfl) (zm ?_);refine zj 32 rfl (fun h7=>?_) (fun h7=>?_)
       ·
        have h7:bAt s (b+1)=43:=by have h7:=eq_of_beq h7;omega
        refine zl ?_;exact zt true ⟨rfl,rfl,trivial⟩ ⟨M9.step E XM9,(decide_eq_true (.inl h7)).symm⟩
       ·
        have h7:¬bAt s (b+1)=43:=fun e=>absurd h7 (by rw[e];decide);refine stpdq277 ?_;refine zf 34 (.int .u8 ((bAt s (b+1):Nat):Int)) rfl (by rw[vv]<;>rfl) (zx ?_);by_cases h8:bAt s (b+1)=45
        ·
         refine zq 37 (.bool true) rfl ((by rw[h8];rfl:(.bool (((bAt s (b+1):Nat):Int)==45):Value)=_)) ?_;exact zt true ⟨rfl,rfl,trivial⟩ ⟨M9.step E XM9,(decide_eq_true (.inr h8)).symm⟩
        ·
         refine zq 37 (.bool false) rfl ((by rw[vm (by omega)]:(.bool (((bAt s (b+1):Nat):Int)==45):Value)=_)) ?_;exact dqz156
      ·
       have h6:=of_decide_eq_false h6;have h0:=ygx (s:=s) (i:=b+1) (by omega);refine zz ?_;exact dqz156
     ·
      rintro g w10 ⟨M9,hg⟩;replace E:=E.trans M9;replace LW:=LW.step E XLW;replace M7:=M7.step E XM7;replace E:=erx (No) w10;replace LW:=LW.step E XLW;replace M7:=M7.step E XM7;replace E:=erx (No) w10;refine yh (ι:=Unit) (fun _=>[(0,.string (s.extract (nQ s b) s.size))]) (fun _ w'=>Ext (No) w10 w'∧(True)) ?_ ?_
      ·
       have M11:=erx (No) w10;have XM11:=grx (No) w10;refine zg rfl (fun h6=>?_) (fun h6=>?_)
       ·
        rw[hg] at h6;have h6:=of_decide_eq_true h6;have e1:nQ s b=b+2:=by unfold nQ;rw[if_pos h6]
        have hin2:=oj (s:=s) (i:=b+1) (by omega);refine zm ?_;refine za rfl (vu (l:=1) (h:=s.size-(b+1)) u9 rfl ⟨_,rfl⟩ (yt).symm (by omega) (by rw[yt];omega) (zm ?_));refine zq 0 (.string (s.extract (nQ s b) s.size)) rfl ((by rw[qmk (f:=b+1) (k:=1) (m:=nQ s b) rfl (by omega)]:(.string ((s.extract (b+1) s.size).extract 1 (s.size-(b+1))):Value)=_)) ?_;exact zt () ⟨rfl,trivial⟩ ⟨M11.step E XM11,trivial⟩
       ·
        rw[hg] at h6;have h6:=of_decide_eq_false h6;have e1:nQ s b=b+1:=by unfold nQ;rw[if_neg h6]
        refine stp ?_;refine zq 0 (.string (s.extract (nQ s b) s.size)) rfl ((by rw[e1]:(.string (s.extract (b+1) s.size):Value)=_)) ?_;exact zt () ⟨rfl,trivial⟩ ⟨M11.step E XM11,trivial⟩
      ·
       rintro _ w12 ⟨M11,_⟩;replace E:=E.trans M11;replace LW:=LW.step E XLW;replace M7:=M7.step E XM7;replace E:=erx (No) w12;obtain ⟨r,hr⟩:∃r,r=zgz (s.extract (nQ s b) s.size) 0:=⟨_,rfl⟩;have e1:nC s b=nQ s b+r:=by rw[nC_e h3,hr];exact zxq (f:=nQ s b) (a:=0) (by omega)
       refine zx ?_;refine za rfl (zb en154 rfl ((qav _ (s.extract (nQ s b) s.size) (by rw[yt];omega)).mono ?_));rintro e w13 ⟨rfl,hb⟩;refine ⟨_,rfl,?_⟩;replace E:=blx E hb;clear hb;refine zf 41 (.int .i64 ((r:Nat):Int)) rfl (by rw[hr]<;>rfl) (qd ?_);refine zg rfl (fun h4=>?_) (fun h4=>?_)
       ·
        have h4:r=0:=by have h4:=eq_of_beq h4;omega
        have e:zlq s 0=false:=ot (fun h=>by have:=h.2.2.2;rw[←hn,←hbq] at this;have:=this h3;omega);refine qd ?_;exact zlx
       ·
        have h4:r≠0:=fun e=>absurd h4 (by rw[e];decide);refine zu ?_;refine za rfl (vu (l:=r) (h:=s.size-nQ s b) u9 rfl ⟨_,rfl⟩ (yt).symm (by omega) (by rw[yt];omega) (zm ?_));refine zq 0 (.string (s.extract (nC s b) s.size)) rfl ((by rw[qmk rfl e1.symm]:(.string ((s.extract (nQ s b) s.size).extract r (s.size-nQ s b)):Value)=_)) ?_;exact zt () ⟨rfl,trivial⟩ ⟨M7.step E XM7,fun _=>by omega⟩
    ·
     have h3:=of_decide_eq_false h3;refine stp ?_;refine zq 0 (.string (s.extract (nC s b) s.size)) rfl ((by rw[nC_no h3]:(.string (s.extract b s.size):Value)=_)) ?_;exact zt () ⟨rfl,trivial⟩ ⟨M7.step E XM7,fun h=>absurd h h3⟩
   ·
    rintro _ w8 ⟨M7,h5⟩;replace E:=E.trans M7;replace LW:=LW.step E XLW;replace E:=erx (No) w8;refine yi ?_;refine zq 2 (.bool (decide (s.size≤nC s b))) rfl (by rw[eq_nil]) ?_;by_cases h6:s.size≤nC s b
    ·
     have e:zlq s 0=true:=vev ⟨by rw[←hn];omega,by rw[←hn,←hbq];exact h2,by rw[←hn,←hbq];omega,by rw[←hn,←hbq];exact h5⟩;refine stp ?_;exact ⟨by rw[e,decide_eq_true h6];rfl,(LW.step E XLW).toBelow⟩
    ·
     have e:zlq s 0=false:=ot (fun h=>by have:=h.2.2.1;rw[←hn,←hbq] at this;omega);refine stp ?_;exact ⟨by rw[e,decide_eq_false h6];rfl,(LW.step E XLW).toBelow⟩
theorem numeral_any_r (s:ByteArray) (f:Nat) (hf:f≤s.size) (hl:s.size<100000):Calls Tryz.prog 108 #[.string s,.int .i64 ((f:Nat):Int)] w (RetB w (.bool (zlq s f))):=by
 obtain ⟨n,hn⟩:∃n,n=zgz s f:=⟨_,rfl⟩;have hnI:=(km (s:=s) hf).1;rw[←hn] at hnI;have hns:=hnI.hi;have hnf:=hnI.lo;obtain ⟨b,hbq⟩:∃b,b=nB s n:=⟨_,rfl⟩;have hbs:=nB_le (s:=s) hns;rw[←hbq] at hbs;refine zc Tryz.func108 rfl Tryz.ntmps108 rfl ?_;have LW:=erx (No) w;have XLW:=grx (No) w;have E:=erx (No) w;refine qd ?_;refine za rfl (zb en159 rfl ((run_any _ s f hf hl).mono ?_));rintro e w1 ⟨rfl,hb⟩;refine ⟨_,rfl,?_⟩;replace E:=blx E hb;clear hb;refine zf 10 (.int .i64 ((n:Nat):Int)) rfl (by rw[hn]<;>rfl) (yu ?_);refine zg rfl (fun h1=>?_) (fun h1=>?_)
 ·
  have h1:n=f:=by have h1:=eq_of_beq h1;omega
  have e:zlq s f=false:=ot (fun h=>by have:=h.1;rw[←hn] at this;omega);refine yi ?_;exact zlx
 ·
  have h1:n≠f:=fun e=>absurd h1 (by rw[e];simp);refine zx ?_;replace LW:=LW.step E XLW;replace E:=erx (No) w1;refine yh (ι:=Unit) (fun _=>[(0,.string s),(1,.int .i64 ((f:Nat):Int)),(5,.int .i64 ((n:Nat):Int)),(23,.bool (decide (bAt s n=46)))]) (fun _ w'=>Ext (No) w1 w'∧(True)) ?_ ?_
  ·
   have M2:=erx (No) w1;have XM2:=grx (No) w1;refine zn ?_;refine zy ?_;refine zm ?_;refine zj 18 rfl (fun h2=>?_) (fun h2=>?_)
   ·
    have h2:n<s.size:=by have h2:=of_decide_eq_true h2;omega
    refine ykk ?_;refine zn ?_;by_cases h3:bAt s n=46
    ·
     refine zq 23 (.bool (decide (bAt s n=46))) rfl ((by rw[h3];rfl:(.bool (((bAt s (n):Nat):Int)==46):Value)=_)) ?_;exact dqz118
    ·
     refine zq 23 (.bool (decide (bAt s n=46))) rfl ((by rw[vm (by omega),decide_eq_false h3]:(.bool (((bAt s (n):Nat):Int)==46):Value)=_)) ?_;exact dqz118
   ·
    have h2:¬n<s.size:=by have h2:=of_decide_eq_false h2;omega
    have h0:=ygx (s:=s) (i:=n) (by omega);refine zl ?_;refine zq 23 (.bool (decide (bAt s n=46))) rfl ((by rw[decide_eq_false (by omega)]:(.bool false:Value)=_)) ?_;exact dqz118
  ·
   rintro _ w3 ⟨M2,_⟩;replace E:=E.trans M2;replace LW:=LW.step E XLW;replace E:=erx (No) w3;replace LW:=LW.step E XLW;replace E:=erx (No) w3;refine yh (ι:=Unit) (fun _=>[(0,.string s),(5,.int .i64 ((b:Nat):Int))]) (fun _ w'=>Ext (No) w3 w'∧((bAt s n=46→n+1<b))) ?_ ?_
   ·
    have M4:=erx (No) w3;have XM4:=grx (No) w3;refine zg rfl (fun h3=>?_) (fun h3=>?_)
    ·
     have h3:=of_decide_eq_true h3;have hin:=oj (s:=s) (i:=n) (by omega);have e1:b=zgz s (n+1):=by rw[hbq,nB_dot h3]
     have e2:=(km (s:=s) (a:=n+1) hin).1.lo;rw[←e1] at e2;refine zx ?_;refine yo ?_;refine zf 26 (.int .i64 ((n+1:Nat):Int)) rfl (rfl) (za rfl (zb en159 rfl ((run_any _ s (n+1) hin hl).mono ?_)));rintro e w6 ⟨rfl,hb⟩;refine ⟨_,rfl,?_⟩;replace E:=blx E hb;clear hb;refine zf 27 (.int .i64 ((b:Nat):Int)) rfl (by rw[e1]<;>rfl) (yi ?_);refine yo ?_;refine zn ?_;refine zg rfl (fun h4=>?_) (fun h4=>?_)
     ·
      have h4:b=n+1:=by have h4:=eq_of_beq h4;omega
      have e:zlq s f=false:=ot (fun h=>by have:=h.2.1;rw[←hn,←hbq] at this;have:=this h3;omega);refine qd ?_;exact zlx
     ·
      have h4:b≠n+1:=fun e=>absurd h4 (by rw[e];simp);refine zl ?_;exact zt () ⟨rfl,rfl,trivial⟩ ⟨M4.step E XM4,fun _=>by omega⟩
    ·
     have h3:=of_decide_eq_false h3;have e1:b=n:=by rw[hbq,nB_no h3]
     refine stp ?_;refine zq 5 (.int .i64 ((b:Nat):Int)) rfl ((by rw[e1]:(.int .i64 ((n:Nat):Int):Value)=_)) ?_;exact zt () ⟨rfl,rfl,trivial⟩ ⟨M4.step E XM4,fun h=>absurd h h3⟩
   ·
    rintro _ w5 ⟨M4,h2⟩;replace E:=E.trans M4;replace LW:=LW.step E XLW;replace E:=erx (No) w5;have hcs:=nC_le (s:=s) hbs.2;refine zm ?_;replace LW:=LW.step E XLW;replace E:=erx (No) w5;refine yh (ι:=Unit) (fun _=>[(0,.string s),(5,.int .i64 ((b:Nat):Int)),(42,.bool (decide (bAt s b=101)))]) (fun _ w'=>Ext (No) w5 w'∧(True)) ?_ ?_
    ·
     have M7:=erx (No) w5;have XM7:=grx (No) w5;refine zn ?_;refine zy ?_;refine zm ?_;refine zj 37 rfl (fun h3=>?_) (fun h3=>?_)
     ·
      have h3:b<s.size:=by have h3:=of_decide_eq_true h3;omega
      refine zm ?_;refine onx rfl (yn (j:=b) (b:=bAt s (b)) u9 rfl rfl rfl (qh (by omega)) (zn ?_));by_cases h4:bAt s b=101
      ·
       refine zq 42 (.bool (decide (bAt s b=101))) rfl ((by rw[h4];rfl:(.bool (((bAt s (b):Nat):Int)==101):Value)=_)) ?_;exact dqz126
      ·
       refine zq 42 (.bool (decide (bAt s b=101))) rfl ((by rw[vm (by omega),decide_eq_false h4]:(.bool (((bAt s (b):Nat):Int)==101):Value)=_)) ?_;exact dqz126
     ·
      have h3:¬b<s.size:=by have h3:=of_decide_eq_false h3;omega
      have h0:=ygx (s:=s) (i:=b) (by omega);refine zl ?_;refine zq 42 (.bool (decide (bAt s b=101))) rfl ((by rw[decide_eq_false (by omega)]:(.bool false:Value)=_)) ?_;exact dqz126
    ·
     rintro _ w8 ⟨M7,_⟩;replace E:=E.trans M7;replace LW:=LW.step E XLW;replace E:=erx (No) w8;replace LW:=LW.step E XLW;replace E:=erx (No) w8;refine yh (ι:=Unit) (fun _=>[(0,.string s),(5,.int .i64 ((nC s b:Nat):Int))]) (fun _ w'=>Ext (No) w8 w'∧((bAt s b=101→nQ s b<nC s b))) ?_ ?_
     ·
      have M9:=erx (No) w8;have XM9:=grx (No) w8;refine zg rfl (fun h3=>?_) (fun h3=>?_)
      ·
       have h3:=of_decide_eq_true h3;have hin:=oj (s:=s) (i:=b) (by omega);have hqs:=nQ_le hin;refine zn ?_;refine yo ?_;refine zu ?_;refine zd 5 (.int .i64 ((b+1:Nat):Int)) rfl (rfl) ?_;replace LW:=LW.step E XLW;replace M9:=M9.step E XM9;replace E:=erx (No) w8;refine yh (ι:=Bool) (fun g=>[(0,.string s),(5,.int .i64 ((b+1:Nat):Int)),(60,.bool g)]) (fun g w'=>Ext (No) w8 w'∧(g=decide (bAt s (b+1)=43∨bAt s (b+1)=45))) ?_ ?_
       ·
        have M11:=erx (No) w8;have XM11:=grx (No) w8;refine zn ?_;refine zy ?_;refine zm ?_;refine zj 49 rfl (fun h6=>?_) (fun h6=>?_)
        ·
         have h6:b+1<s.size:=by have h6:=of_decide_eq_true h6;omega
         refine stpdq305 ?_;refine zm ?_;refine zj 54 rfl (fun h7=>?_) (fun h7=>?_)
         ·
          have h7:bAt s (b+1)=43:=by have h7:=eq_of_beq h7;omega
          refine zp ?_;exact zt true ⟨rfl,rfl,rfl,trivial⟩ ⟨M11.step E XM11,(decide_eq_true (.inl h7)).symm⟩
         ·
          have h7:¬bAt s (b+1)=43:=fun e=>absurd h7 (by rw[e];decide);refine stpdq305 ?_;refine zx ?_;by_cases h8:bAt s (b+1)=45
          ·
           refine zq 60 (.bool true) rfl ((by rw[h8];rfl:(.bool (((bAt s (b+1):Nat):Int)==45):Value)=_)) ?_;exact zt true ⟨rfl,rfl,rfl,trivial⟩ ⟨M11.step E XM11,(decide_eq_true (.inr h8)).symm⟩
          ·
           refine zq 60 (.bool false) rfl ((by rw[vm (by omega)]:(.bool (((bAt s (b+1):Nat):Int)==45):Value)=_)) ?_;exact dqz144
        ·
         have h6:¬b+1<s.size:=by have h6:=of_decide_eq_false h6;omega
         have h0:=ygx (s:=s) (i:=b+1) (by omega);refine vp ?_;exact dqz144
       ·
        rintro g w12 ⟨M11,hg⟩;replace E:=E.trans M11;replace LW:=LW.step E XLW;replace M9:=M9.step E XM9;replace E:=erx (No) w12;replace LW:=LW.step E XLW;replace M9:=M9.step E XM9;replace E:=erx (No) w12;refine yh (ι:=Unit) (fun _=>[(0,.string s),(5,.int .i64 ((nQ s b:Nat):Int))]) (fun _ w'=>Ext (No) w12 w'∧(True)) ?_ ?_
        ·
         have M13:=erx (No) w12;have XM13:=grx (No) w12;refine zg rfl (fun h6=>?_) (fun h6=>?_)
         ·
          rw[hg] at h6;have h6:=of_decide_eq_true h6;have e1:nQ s b=b+2:=by unfold nQ;rw[if_pos h6]
          refine zm ?_;refine yo ?_;refine zm ?_;refine zq 5 (.int .i64 ((nQ s b:Nat):Int)) rfl ((by rw[e1];rfl:(.int .i64 (((b+1:Nat):Int)+1):Value)=_)) ?_;exact zt () ⟨rfl,rfl,trivial⟩ ⟨M13.step E XM13,trivial⟩
         ·
          rw[hg] at h6;have h6:=of_decide_eq_false h6;have e1:nQ s b=b+1:=by unfold nQ;rw[if_neg h6]
          refine stp ?_;refine zq 5 (.int .i64 ((nQ s b:Nat):Int)) rfl ((by rw[e1]:(.int .i64 ((b+1:Nat):Int):Value)=_)) ?_;exact zt () ⟨rfl,rfl,trivial⟩ ⟨M13.step E XM13,trivial⟩
        ·
         rintro _ w14 ⟨M13,_⟩;replace E:=E.trans M13;replace LW:=LW.step E XLW;replace M9:=M9.step E XM9;replace E:=erx (No) w14;have e1:nC s b=zgz s (nQ s b):=nC_e h3;have e2:=(km (s:=s) (a:=nQ s b) hqs).1.lo;rw[←e1] at e2;refine zx ?_;refine za rfl (zb en159 rfl ((run_any _ s (nQ s b) hqs hl).mono ?_));rintro e w15 ⟨rfl,hb⟩;refine ⟨_,rfl,?_⟩;replace E:=blx E hb;clear hb;refine zf 65 (.int .i64 ((nC s b:Nat):Int)) rfl (by rw[e1]<;>rfl) (yu ?_);refine zg rfl (fun h4=>?_) (fun h4=>?_)
         ·
          have h4:nC s b=nQ s b:=by have h4:=eq_of_beq h4;omega
          have e:zlq s f=false:=ot (fun h=>by have:=h.2.2.2;rw[←hn,←hbq] at this;have:=this h3;omega);refine qd ?_;exact zlx
         ·
          have h4:nC s b≠nQ s b:=fun e=>absurd h4 (by rw[e];simp);refine zl ?_;exact zt () ⟨rfl,rfl,trivial⟩ ⟨M9.step E XM9,fun _=>by omega⟩
      ·
       have h3:=of_decide_eq_false h3;refine stp ?_;refine zq 5 (.int .i64 ((nC s b:Nat):Int)) rfl ((by rw[nC_no h3]:(.int .i64 ((b:Nat):Int):Value)=_)) ?_;exact zt () ⟨rfl,rfl,trivial⟩ ⟨M9.step E XM9,fun h=>absurd h h3⟩
     ·
      rintro _ w10 ⟨M9,h5⟩;replace E:=E.trans M9;replace LW:=LW.step E XLW;replace E:=erx (No) w10;refine zx ?_;refine zy ?_;refine zu ?_;by_cases h6:nC s b=s.size
      ·
       have e:zlq s f=true:=vev ⟨by rw[←hn];omega,by rw[←hn,←hbq];exact h2,by rw[←hn,←hbq];exact h6,by rw[←hn,←hbq];exact h5⟩;refine zq 4 (.bool true) rfl ((by rw[h6];simp:(.bool (((nC s b:Nat):Int)==(s.size:Int)):Value)=_)) (stp ?_);exact zlx
      ·
       have e:zlq s f=false:=ot (fun h=>by have:=h.2.2.1;rw[←hn,←hbq] at this;omega);refine zq 4 (.bool false) rfl ((by rw[vm (by omega)]:(.bool (((nC s b:Nat):Int)==(s.size:Int)):Value)=_)) (stp ?_);exact zlx
end
end Go.Proofs.YtmnmebdmpigddaaGreatDoor
namespace Go.Proofs.YtmnmebdmpigddaaGreatDoor
open Go.RowKit
theorem stpdq320 {P Q:Prop} (k:Q) (h:(Unit→Q)→P:=by
 intro zK;refine za rfl (zb en102 rfl ((parse_pos _ (prX s) hnm (by omega) (HF.on E).here.1.2 ⟨te,pe,(HF.on E).here.2⟩).mono ?_));exact zK ()):P:=h fun _=>k
theorem stpdq259 {P Q:Prop} (k:Q) (h:(Unit→Q)→P:=by
 intro zK;refine za rfl (vu (l:=ywx s) (h:=s.size) u9 rfl ⟨_,rfl⟩ rfl hcl (Nat.le_refl _) ?_);exact zK ()):P:=h fun _=>k
theorem dqz119 {P:Prop} (h:P:=by
 exact zt () ⟨rfl,rfl,rfl,rfl,trivial⟩ ⟨M1.step E XM1,trivial⟩):P:=h
theorem dqz116 {P:Prop} (h:P:=by
 exact ⟨by unfold prV prE;rw[if_neg h1,if_neg h1,if_neg h2,if_neg h2,if_neg h3,if_neg h3,if_neg h4,if_neg h4];rfl,(LW.step E XLW).toBelow⟩):P:=h
theorem dqz106 {P:Prop} (h:P:=by
 have h1:1000<s.size:=by have h1:=of_decide_eq_true h1;omega
 refine qd ?_;exact ⟨by unfold prV prE;rw[if_pos h1,if_pos h1];rfl,(LW.step E XLW).toBelow⟩):P:=h
theorem dqz101 {P:Prop} (h:P:=by
 have h3:prNan s=true:=h3;refine zz ?_;exact ⟨by unfold prV prE;rw[if_neg h1,if_neg h1,if_neg h2,if_neg h2,if_pos h3,if_pos h3];rfl,(LW.step E XLW).toBelow⟩):P:=h
attribute [local irreducible] OW RS CW EW
noncomputable def prX (s:ByteArray):ByteArray:=s.extract (ywx s) s.size
noncomputable def vaq (s:ByteArray):Bool:=(prX s).toList==(⟨#[105,110,102]⟩:ByteArray).toList
noncomputable def prNan (s:ByteArray):Bool:=(prX s).toList==(⟨#[110,97,110]⟩:ByteArray).toList
noncomputable def prV (s:ByteArray):Nat:=
 if 1000<s.size then 0
 else if vaq s then sgB (signed s)+9218868437227405312
 else if prNan s then 9221120237041090560
 else if zlq (prX s) 0 then sgB (signed s)+atV (prX s) 0 false
 else 0
noncomputable def prE (s:ByteArray):Int:=
 if 1000<s.size then 2
 else if vaq s then 0
 else if prNan s then 0
 else if zlq (prX s) 0 then 0
 else 4
theorem cut1_le (s:ByteArray):ywx s≤s.size:=by
 unfold ywx;split
 · rename_i h
   have:=oj (s:=s) (i:=0) (by omega);omega
 · omega
theorem prX_size (s:ByteArray):(prX s).size≤s.size:=by unfold prX;rw[yt];omega
theorem Sgn.le {v:Nat} (h:Sgn false v):v≤9218868437227405312:=h.tame
theorem vcv {v:Nat} (h:Sgn false v) (n:Bool):yy (sgB n+v)=sgB n+v:=by
 have h1:=ylx h.tame n;rw[sgB_add h.tame] at h1;unfold yy;rw[h1.num,if_neg (by decide)]
theorem word_signed {v:Nat} (h:Sgn false v):Ieee.double.word (ng 13830554455654793216) (rg v)=sgB true+v:=by
 have h1:rg v=v:=by
  have:=h.tame;unfold rg;omega
 rw[h1,show ng 13830554455654793216=true by decide +kernel];unfold Ieee.Format.word;rw[c1,if_pos rfl];show _=9223372036854775808+v
 omega
theorem sgn_inf:Sgn false 9218868437227405312:=by
 have h:=ylx (Nat.le_refl 9218868437227405312) false;rw[show sgB false=0 from rfl,Nat.zero_or] at h;exact h
theorem rp100_1:Gives 100 #[.int .i64 1] (.float .f64 9218868437227405312):=by
 intro w;refine zc Tryz.func100 rfl Tryz.ntmps100 rfl ?_;have LW:=erx (No) w;have XLW:=grx (No) w;have E:=erx (No) w;refine stp25 ?_;refine za rfl (va (b:=9218868437227405312) ex88 rfl (zx ?_));refine gr (rs:=[.tmp 2]) (vs:=[.float .f64 9218868437227405312]) rfl ⟨rfl,trivial⟩ ?_;exact xi
section
variable (w:World) {bp op cp bf of cf bl ol cl:Nat}
theorem realparse_any (s:ByteArray) (hT:Tabs bp op cp bf of cf bl ol cl w) (hE:∃te pe,w.cell? ⟨4,0,none⟩=some (.iface te pe)):Calls Tryz.prog 50 #[.string s] w (RetB w (.tuple #[.int .u64 ((prV s:Nat):Int),.int .i64 (prE s)])):=by
 have hxs:=prX_size s;obtain ⟨te,pe,hE⟩:=hE;refine zc Tryz.func50 rfl Tryz.ntmps50 rfl ?_;obtain ⟨HF,LW,XLW,E⟩:=wk0 w;replace HF:=HF.and (Per.tabs hT (fun _ h=>h.elim));replace HF:=HF.and (Per.cellA hE (fun _ h=>h.elim));refine zz ?_;refine zy ?_;refine zn ?_;refine zg rfl (fun h1=>?_) (fun h1=>?_)
 ·
  exact dqz106
 ·
  have h1:¬1000<s.size:=by have h1:=of_decide_eq_false h1;omega
  refine zu ?_;refine zh rfl en99 rfl (cutp_any _ s) E fun w1 E=>(jt ?_);replace HF:=HF.on E;replace LW:=LW.step E XLW;replace E:=erx (No) w1;refine yh (ι:=Nat) (fun v=>[(5,.bool (signed s)),(6,.float .f64 v)]) (fun v w'=>Ext (No) w1 w'∧(Sgn false v∧sgB (signed s)+v=prV s∧prE s=0)) ?_ ?_
  ·
   have M2:=erx (No) w1;have XM2:=grx (No) w1;refine yi ?_;refine zg rfl (fun h2=>?_) (fun h2=>?_)
   ·
    have h2:vaq s=true:=h2;refine stp ?_;refine zh rfl en100 rfl (rp100_1 _) E fun w4 E=>(zn ?_);exact zt 9218868437227405312 ⟨rfl,rfl,trivial⟩ ⟨M2.step E XM2,sgn_inf,by unfold prV;rw[if_neg h1,if_pos h2],by unfold prE;rw[if_neg h1,if_pos h2]⟩
   ·
    have h2:¬vaq s=true:=by rw[show vaq s=false from h2];decide
    refine zp ?_;refine zg rfl (fun h3=>?_) (fun h3=>?_)
    ·
     exact dqz101
    ·
     have h3:¬prNan s=true:=by rw[show prNan s=false from h3];decide
     refine zn ?_;refine zh rfl en101 rfl (numeral_any _ (prX s) (by omega)) E fun w5 E=>(zn ?_);refine zg rfl (fun h4=>?_) (fun h4=>?_)
     ·
      have hnm:=num_nm (Nat.zero_le _) (numB_is h4);refine zm ?_;refine stpdq320 ?_;rintro e w6 ⟨⟨er,rfl⟩,hb⟩;refine ⟨_,rfl,?_⟩;replace E:=blx E hb;refine zl ?_;exact zt (atV (prX s) 0 false) ⟨rfl,rfl,trivial⟩ ⟨M2.step E XM2,viz false hnm,by unfold prV;rw[if_neg h1,if_neg h2,if_neg h3,if_pos h4],by unfold prE;rw[if_neg h1,if_neg h2,if_neg h3,if_pos h4]⟩
     ·
      have h4:¬zlq (prX s) 0=true:=by rw[h4];decide
      refine zz ?_;exact dqz116
  ·
   rintro v w3 ⟨M2,⟨hv,hpv,hpe⟩⟩;replace E:=E.trans M2;replace LW:=LW.step E XLW;replace E:=erx (No) w3;refine zl ?_;refine zg rfl (fun h5=>?_) (fun h5=>?_)
   ·
    refine zm ?_;refine zh rfl en103 rfl (qox _ v hv.lt 13830554455654793216 (by decide)) E fun w7 E=>(zf 32 (.float .f64 (sgB true+v)) rfl (by rw[word_signed hv]<;>rfl) (zl ?_));refine zh rfl en87 rfl (ypz _ (sgB true+v)) E fun w8 E=>(zl ?_);exact ⟨by rw[vcv hv,←hpv,hpe,h5];rfl,(LW.step E XLW).toBelow⟩
   ·
    refine zu ?_;refine zh rfl en87 rfl (ypz _ v) E fun w9 E=>?_;have hb0:=vcv hv false;rw[show sgB false=0 from rfl,Nat.zero_add] at hb0;refine zl ?_;exact ⟨by rw[hb0,←hpv,hpe,h5,show sgB false=0 from rfl,Nat.zero_add];rfl,(LW.step E XLW).toBelow⟩
theorem realparse_any_r (s:ByteArray) (hT:Tabs bp op cp bf of cf bl ol cl w) (hE:∃te pe,w.cell? ⟨4,0,none⟩=some (.iface te pe)):Calls Tryz.prog 56 #[.string s] w (RetB w (.tuple #[.int .u64 ((prV s:Nat):Int),.int .i64 (prE s)])):=by
 have hxs:=prX_size s;have hcl:=cut1_le s;obtain ⟨te,pe,hE⟩:=hE;refine zc Tryz.func56 rfl Tryz.ntmps56 rfl ?_;obtain ⟨HF,LW,XLW,E⟩:=wk0 w;replace HF:=HF.and (Per.tabs hT (fun _ h=>h.elim));replace HF:=HF.and (Per.cellA hE (fun _ h=>h.elim));refine zz ?_;refine zy ?_;refine zn ?_;refine zg rfl (fun h1=>?_) (fun h1=>?_)
 ·
  exact dqz106
 ·
  have h1:¬1000<s.size:=by have h1:=of_decide_eq_false h1;omega
  refine jm ?_;replace HF:=HF.on E;replace LW:=LW.step E XLW;replace E:=erx (No) w;refine yh (ι:=Unit) (fun _=>[(0,.string s),(4,.int .i64 0),(5,.int .u64 0),(18,.bool (signed s))]) (fun _ w'=>Ext (No) w w'∧(True)) ?_ ?_
  ·
   have M1:=erx (No) w;have XM1:=grx (No) w;refine zm ?_;refine zy ?_;refine zm ?_;refine zj 14 rfl (fun h2=>?_) (fun h2=>?_)
   ·
    have h2:0<s.size:=by have h2:=of_decide_eq_true h2;omega
    refine stp ?_;refine onx rfl (yn (j:=0) (b:=bAt s 0) u9 rfl rfl rfl (qh h2) (zn ?_));by_cases h3:bAt s 0=45
    ·
     refine zq 18 (.bool (signed s)) rfl ((by rw[show signed s=true from decide_eq_true h3,h3];rfl:(.bool (((bAt s 0:Nat):Int)==45):Value)=_)) ?_;exact dqz119
    ·
     refine zq 18 (.bool (signed s)) rfl ((by rw[show signed s=false from decide_eq_false h3,vm (by omega)]:(.bool (((bAt s 0:Nat):Int)==45):Value)=_)) ?_;exact dqz119
   ·
    have h2:¬0<s.size:=by have h2:=of_decide_eq_false h2;omega
    have h0:=ygx (s:=s) (i:=0) (by omega);refine zu ?_;refine zq 18 (.bool (signed s)) rfl ((by rw[show signed s=false from decide_eq_false (by omega)]:(.bool false:Value)=_)) ?_;exact dqz119
  ·
   rintro _ w2 ⟨M1,_⟩;replace E:=E.trans M1;replace HF:=HF.on E;replace LW:=LW.step E XLW;replace E:=erx (No) w2;replace HF:=HF.on E;replace LW:=LW.step E XLW;replace E:=erx (No) w2;refine yh (ι:=Unit) (fun _=>[(0,.string s),(4,.int .i64 ((ywx s:Nat):Int)),(5,.int .u64 ((sgB (signed s):Nat):Int))]) (fun _ w'=>Ext (No) w2 w'∧(True)) ?_ ?_
   ·
    have M3:=erx (No) w2;have XM3:=grx (No) w2;refine zg rfl (fun h2=>?_) (fun h2=>?_)
    ·
     have h3:bAt s 0=45:=of_decide_eq_true h2;refine yi ?_;refine zq 4 (.int .i64 ((ywx s:Nat):Int)) rfl ((by unfold ywx;rw[if_pos h3];rfl:(.int .i64 1:Value)=_)) (zq 5 (.int .u64 ((sgB (signed s):Nat):Int)) rfl ((by rw[h2];rfl:(.int .u64 9223372036854775808:Value)=_)) ?_);exact zt () ⟨rfl,rfl,rfl,trivial⟩ ⟨M3.step E XM3,trivial⟩
    ·
     have h3:¬bAt s 0=45:=of_decide_eq_false h2;refine stp ?_;refine zq 4 (.int .i64 ((ywx s:Nat):Int)) rfl ((by unfold ywx;rw[if_neg h3];rfl:(.int .i64 0:Value)=_)) (zq 5 (.int .u64 ((sgB (signed s):Nat):Int)) rfl ((by rw[h2];rfl:(.int .u64 0:Value)=_)) ?_);exact zt () ⟨rfl,rfl,rfl,trivial⟩ ⟨M3.step E XM3,trivial⟩
   ·
    rintro _ w4 ⟨M3,_⟩;replace E:=E.trans M3;replace HF:=HF.on E;replace LW:=LW.step E XLW;replace E:=erx (No) w4;have hsg:sgB (signed s)≤9223372036854775808:=by cases signed s<;>decide
    refine zl ?_;refine stpdq259 ?_;refine zx ?_;refine zg rfl (fun h2=>?_) (fun h2=>?_)
    ·
     have h2:vaq s=true:=h2;refine zn ?_;refine kl ?_;refine zp ?_;refine zq 2 (.int .u64 ((prV s:Nat):Int)) rfl ((by unfold prV;rw[if_neg h1,if_pos h2];congr 1;omega:(.int .u64 (9218868437227405312+((sgB (signed s):Nat):Int)):Value)=_)) (stp ?_);exact ⟨by unfold prE;rw[if_neg h1,if_pos h2];rfl,(LW.step E XLW).toBelow⟩
    ·
     have h2:¬vaq s=true:=by rw[show vaq s=false from h2];decide
     refine zx ?_;refine stpdq259 ?_;refine zx ?_;refine zg rfl (fun h3=>?_) (fun h3=>?_)
     ·
      exact dqz101
     ·
      have h3:¬prNan s=true:=by rw[show prNan s=false from h3];decide
      refine zx ?_;refine zh rfl en108 rfl (numeral_any_r _ s (ywx s) hcl (by omega)) E fun w5 E=>(zf 34 (.bool (zlq (prX s) 0)) rfl (by rw[←numB_shift hcl];rfl) (zn ?_));refine zg rfl (fun h4=>?_) (fun h4=>?_)
      ·
       have hnm:=num_nm (Nat.zero_le _) (numB_is h4);have hv:=(viz false hnm).tame;refine zx ?_;refine stpdq259 ?_;refine stpdq320 ?_;rintro e w6 ⟨⟨er,rfl⟩,hb⟩;refine ⟨_,rfl,?_⟩;replace E:=blx E hb;refine zz ?_;refine zcv ?_;refine stp ?_;refine kl ?_;refine zp ?_;refine zq 2 (.int .u64 ((prV s:Nat):Int)) rfl ((by unfold prV;rw[if_neg h1,if_neg h2,if_neg h3,if_pos h4];congr 1;omega:(.int .u64 ((((atV (prX s) 0 false):Nat):Int)+((sgB (signed s):Nat):Int)):Value)=_)) (stp ?_);exact ⟨by unfold prE;rw[if_neg h1,if_neg h2,if_neg h3,if_pos h4];rfl,(LW.step E XLW).toBelow⟩
      ·
       have h4:¬zlq (prX s) 0=true:=by rw[h4];decide
       refine yu ?_;exact dqz116
end
end Go.Proofs.YtmnmebdmpigddaaGreatDoor
namespace Go.Proofs.YtmnmebdmpigddaaGreatDoor
open Go.RowKit
def vZ:PV:=⟨0,false,false,[],0,⟨#[]⟩,0⟩
def vI (i:Int):PV:=⟨2,false,decide (i<0),limbs i,0,⟨#[]⟩,0⟩
def vFl (b:Nat):PV:=⟨3,false,false,[],b,⟨#[]⟩,0⟩
def vT (s:ByteArray):PV:=⟨4,false,false,[],0,s,0⟩
def vf (w:World) (p:PV×Int) (e:Ending) (w':World):Prop:=∃A c,e= .returned (.tuple #[.agg #[.int .i64 p.1.k,.bool p.1.yes,.bool p.1.neg,.slice A p.1.xs.length c,.int .u64 (p.1.bits:Int),.string p.1.s,.slice none 0 0],.int .i64 p.2])∧Own w' w.heap.size A c p.1.xs∧Below w.heap.size w w'
noncomputable def zpq (v:PV):Int:=num v.cn v.cx
noncomputable def unP (op:Int) (v:PV):PV×Int:=
 if v.good then (if gg v.k&&(op==1 || op==2) then (if v.k=3 then (vFl (if op=1 then yy (qf v.bits) else yy v.bits),0) else (vI (if op=2 then zpq v else -zpq v),0)) else (vZ,9)) else (vZ,3)
noncomputable def intP (v:PV):PV×Int:=
 if v.good then (if v.k=1∨v.k=2 then (vI (zpq v),0)
  else if v.k=3 then (if wE v.bits=0 then (vI (wV v.bits),0) else (vZ,wE v.bits))
  else if v.k=4 then (if qy (kx v.s.data.toList)=0 then (vI (qz (yhx v.s.data.toList) (kx v.s.data.toList)),0) else (vZ,4))
  else (vZ,9)) else (vZ,3)
noncomputable def zfq (v:PV):Nat×Int:=if v.k=3 then (v.bits,0) else (ofV (zpq v),ofE (zpq v))
noncomputable def floP (v:PV):PV×Int:=
 if v.good then (if gg v.k then (if (zfq v).2=0 then (vFl (yy (zfq v).1),0) else (vZ,(zfq v).2))
  else if v.k=4 then (if prE v.s=0 then (vFl (yy (prV v.s)),0) else (vZ,4)) else (vZ,9)) else (vZ,3)
theorem sgB_le (b:Bool):sgB b≤9223372036854775808:=by unfold sgB;split<;>omega
theorem prV_lt (s:ByteArray):prV s<18446744073709551616:=by
 unfold prV;have h:=sgB_le (signed s);split
 · decide
 split
 · omega
 split
 · decide
 split
 · rename_i h4
   have h5:=(viz false (num_nm (Nat.zero_le _) (numB_is h4))).tame;omega
 · decide
theorem vgv {v:PV} (hb:v.bits<18446744073709551616):(zfq v).1<18446744073709551616:=by
 unfold zfq;split
 · exact hb
 · show ofV _<_
   unfold ofV;split
   · decide
   · exact (vek _).lt
theorem textV_lt (n:Bool) (r:List UInt8):(qz n r).natAbs<B18^30:=by
 unfold qz;split
 · rename_i h
   have:=h.2.2;unfold sgn;split<;>omega
 · decide
theorem textV_len {n:Bool} {r:List UInt8} {K:Int} (h:K=qz n r):(tens K).length≤1048576:=by
 have:=(oo K).2 (h▸textV_lt n r);omega
theorem vI_len {i:Int} (h:i.natAbs<B18^30):(vI i).xs.length≤1048576:=by
 have:=ve h;show (limbs i).length≤_
 omega
theorem numV_lt {v:PV} (hg:v.good=true) (hk:v.k=1∨v.k=2):(zpq v).natAbs<B18^30:=(PV.canon hg hk).2.2
theorem PV.goodQ {v:PV} (h:v.good=true) (hk:v.k=1∨v.k=2):zr v.cn v.cx=true:=by
 obtain ⟨h1,h2,h3⟩:=PV.canon h hk;have h4:=vb h3;rw[←h1,←h2] at h4;exact h4
theorem unP_len (op:Int) (v:PV):(unP op v).1.xs.length≤1048576:=by
 unfold unP;split
 · rename_i hg
   split
   · rename_i hn
     rw[Bool.and_eq_true] at hn;have hk:=qkx hn.1;split
     · exact Nat.zero_le _
     · rename_i h3
       have h:=numV_lt hg (by omega);refine vI_len ?_;split
       · exact h
       · rw[Int.natAbs_neg];exact h
   · exact Nat.zero_le _
 · exact Nat.zero_le _
theorem intP_len (v:PV):(intP v).1.xs.length≤1048576:=by
 unfold intP;split
 · rename_i hg
   split
   · rename_i hk
     exact vI_len (numV_lt hg hk)
   split
   · split
     · exact vI_len (wV_lt _)
     · exact Nat.zero_le _
   split
   · split
     · exact vI_len (textV_lt _ _)
     · exact Nat.zero_le _
   · exact Nat.zero_le _
 · exact Nat.zero_le _
theorem floP_len (v:PV):(floP v).1.xs.length≤1048576:=by
 unfold floP;repeat' split
 all_goals exact Nat.zero_le _
theorem bare_twice (b:Nat):yy (yy b)=yy b:=by
 unfold yy;by_cases h:isN b=true
 · rw[if_pos h,if_pos (by decide)]
 · rw[if_neg h,if_neg h]
end Go.Proofs.YtmnmebdmpigddaaGreatDoor
namespace Go.Proofs.YtmnmebdmpigddaaGreatDoor
open Go.RowKit
attribute [local irreducible] OW RS CW EW
section
variable (w:World) (v:PV) (A B:Option Addr) (c d:Nat) (hx:Nums w A v.xs) (hy:Nums w B v.xs) (hl:v.xs.length≤1048576)
include hx hy hl
theorem rl_isV:Calls Tryz.prog 14 #[.agg #[.int .i64 v.k,.bool v.yes,.bool v.neg,.slice A v.xs.length c,.int .u64 (v.bits:Int),.string v.s,.slice none 0 0],.agg #[.int .i64 v.k,.bool v.yes,.bool v.neg,.slice B v.xs.length d,.int .u64 (v.bits:Int),.string v.s,.slice none 0 0]] w (RetB w (.bool true)):=by
 refine zc Tryz.func14 rfl Tryz.ntmps14 rfl ?_;obtain ⟨HF,LW,XLW,E⟩:=wk0 w;replace HF:=HF.and (Per.nums0 hx);replace HF:=HF.and (Per.nums0 hy);refine zi ?_;intro gb1 w2 Bb1 Eb1 Gb1;obtain ⟨HF,LW,E⟩:=frz HF LW E XLW Bb1 Eb1;refine za rfl (jz rfl ?_);intro gb3 w4 Bb3 Eb3 Gb3;obtain ⟨HF,LW,E⟩:=frz HF LW E XLW Bb3 Eb3;refine vp ?_;refine zf 11 (.bool false) rfl (by simp) (zx ?_);refine onx rfl (ow_neqB u4 rfl rfl (zm ?_));refine zf 18 (.bool false) rfl (by simp) (zp ?_);refine zf 25 (.bool false) rfl (by simp) (zx ?_);refine onx rfl (ycq rfl rfl (zm ?_));refine zf 32 (.bool false) rfl (by simp) (stp ?_);refine onx rfl (ow_loadP u24 rfl ku rfl (HF.on E).here.1.2 rfl rfl (stp ?_));refine onx rfl (ow_loadP u24 rfl ku rfl (HF.on E).here.2 rfl rfl (onx rfl (zb en46 rfl ((sameB_self v.neg v.xs▸rsame_any A B c d v.xs v.xs _ v.neg v.neg (HF.on E).here.1.1.1.2 (HF.on E).here.1.1.2 hl hl).mono ?_))));rintro e w5 ⟨rfl,hb⟩;refine ⟨_,rfl,?_⟩;replace E:=blx E hb;refine stpdq254 ?_;refine zbk (zp ?_);refine zf 52 (.int .i64 0) rfl (by kernel_rfl:(.int .i64 (0:Nat):Value)=_) (og ?_);exact xi
theorem quv (f:Int):Calls Tryz.prog 9 #[.agg #[.int .i64 v.k,.bool v.yes,.bool v.neg,.slice A v.xs.length c,.int .u64 (v.bits:Int),.string v.s,.slice none 0 0],.int .i64 f,.agg #[.int .i64 v.k,.bool v.yes,.bool v.neg,.slice B v.xs.length d,.int .u64 (v.bits:Int),.string v.s,.slice none 0 0],.int .i64 f] w (RetB w (.bool true)):=by
 refine zc Tryz.func9 rfl Tryz.ntmps9 rfl ?_;obtain ⟨HF,LW,XLW,E⟩:=wk0 w;replace HF:=HF.and (Per.nums0 hx);replace HF:=HF.and (Per.nums0 hy);refine zi ?_;intro gb1 w2 Bb1 Eb1 Gb1;obtain ⟨HF,LW,E⟩:=frz HF LW E XLW Bb1 Eb1;refine za rfl (jz rfl ?_);intro gb3 w4 Bb3 Eb3 Gb3;obtain ⟨HF,LW,E⟩:=frz HF LW E XLW Bb3 Eb3;refine zp ?_;refine zh rfl en14 rfl (rl_isV _ v A B c d (HF.on E).here.1.1.1.2 (HF.on E).here.1.1.2 hl) E fun w5 E=>(zx ?_);refine zf 15 (.bool true) rfl (by simp:(.bool (f==f):Value)=_) (zl ?_);exact xi
end
end Go.Proofs.YtmnmebdmpigddaaGreatDoor
namespace Go.Proofs.YtmnmebdmpigddaaGreatDoor
open Go.RowKit
theorem qdx {P Q:Prop} (k:Q) (h:(Unit→Q)→P:=by
 intro zK;refine za rfl (zb en29 rfl ((zpx _ ua A1 B1 c1 d1 false hn).mono ?_));exact zK ()):P:=h fun _=>k
theorem ykx {P Q:Prop} (k:Q) (h:(Unit→Q)→P:=by
 intro zK;refine za rfl (zb en29 rfl ((zpx _ ua A1 B1 c1 d1 true hn).mono ?_));exact zK ()):P:=h fun _=>k
theorem gk {P Q:Prop} (k:Q) (h:(Unit→Q)→P:=by
 intro zK;refine zk (zw kt rfl rfl Bb3 rfl rfl rfl ?_);exact zK ()):P:=h fun _=>k
theorem ka {P Q:Prop} (k:Q) (h:(Unit→Q)→P:=by
 intro zK;refine za rfl (zb yek rfl ((jw _ ua A1 B1 c1 d1 (HF.on E).here.1.2 hl true hg).mono ?_));exact zK ()):P:=h fun _=>k
theorem zdq {P Q:Prop} (k:Q) (h:(Unit→Q)→P:=by
 intro zK;refine za rfl (qn (cs:=#[.int .i64 0,.bool false,.bool false,.slice none 0 0,.int .u64 0,.string ⟨#[]⟩,.slice none 0 0]) yvk yvq rfl rfl ?_);exact zK ()):P:=h fun _=>k
theorem dqz102 {P:Prop} (h:P:=by
 refine za rfl (qn (cs:=#[.int .i64 0,.bool false,.bool false,.slice none 0 0,.int .u64 0,.string ⟨#[]⟩,.slice none 0 0]) yvk yvq rfl rfl ?_);exact dqz33):P:=h
theorem dqz33 {P:Prop} (h:P:=by
 refine zk (zw kt rfl rfl Bb3 rfl rfl rfl ?_);intro w7 Bx Eb3;replace Bb3:Blk w7 gb3 28 #[.int .i64 0,.bool false,.bool false,.slice none 0 0,.int .u64 0,.string ⟨#[]⟩,.slice none 0 0]:=Bx;replace E:=E.step1 Eb3 Mut.head;refine zp ?_;exact vcz):P:=h
theorem vcz {P:Prop} (h:P:=by
 exact ⟨none,0,rfl,ziz,(LW.step E XLW).toBelow⟩):P:=h
attribute [local irreducible] OW RS CW EW
theorem neg_numJ {w:World} {A:Option Addr} {c:Nat} {n:Bool} {xs:List Nat} (hx:Nums w A xs) (hl:xs.length≤9223372036854775807) (hg:zr n xs=true) (J:Int) (hJ:J= -num n xs):Calls Tryz.prog 48 #[.agg #[.bool n,.slice A xs.length c]] w (zhv w J):=by
 have h:=neg_any A c xs w n hx hl;rw[if_pos hg,←hJ] at h;exact h
theorem neg_bigJ {w:World} {A:Option Addr} {c:Nat} (i:Int) (hx:Nums w A (limbs i)) (hi:i.natAbs<B18^30) (J:Int) (hJ:J= -i):Calls Tryz.prog 48 #[.agg #[.bool (decide (i<0)),.slice A (limbs i).length c]] w (zhv w J):=by
 have hl:=ve hi;exact neg_numJ hx (by omega) (vb hi) J (by rw[hJ,ji])
section
variable (w:World) (ua:PV) (A1 B1:Option Addr) (c1 d1:Nat) (hx:Nums w A1 ua.xs) (hl:ua.xs.length≤9223372036854775807) (ha:ua.bits<18446744073709551616)
include hx hl ha
omit hx hl in
theorem pt_bits (b:Nat) (hb0:b<18446744073709551616):Calls Tryz.prog 47 #[.int .u64 ((b:Nat):Int)] w (RetB w (.agg #[.int .i64 3,.bool false,.bool false,.slice none 0 0,.int .u64 ((yy b:Nat):Int),.string ⟨#[]⟩,.slice none 0 0])):=by
 have _:=ha;refine zc Tryz.func47 rfl Tryz.ntmps47 rfl ?_;obtain ⟨HF,LW,XLW,E⟩:=wk0 w;refine zm ?_;refine zv ?_;intro gb1 w2 Bb1 Eb1 Gb1;obtain ⟨Gb1,HF,E,XLW⟩:=alx HF LW E XLW Eb1 Gb1;refine zu ?_;refine za rfl (zb en41 rfl ((quz _ b).mono ?_));rintro e w3 ⟨rfl,hb⟩;refine ⟨_,rfl,?_⟩;have Ec:=Ext.of_below hb No;replace Bb1:=Bb1.extN Ec NotIn.nil;replace E:=E.trans Ec.no;refine za rfl (zb en41 rfl ((quz _ (yy (qf b))).mono ?_));rintro e w4 ⟨rfl,hb⟩;refine ⟨_,rfl,?_⟩;have Ec:=Ext.of_below hb No;replace Bb1:=Bb1.extN Ec NotIn.nil;replace E:=E.trans Ec.no;refine za rfl (qn (cs:=#[.int .i64 3,.bool false,.bool false,.slice none 0 0,.int .u64 ((yy (qf (yy (qf b))):Nat):Int),.string ⟨#[]⟩,.slice none 0 0]) yvk yvq rfl rfl (zk (zw kt rfl rfl Bb1 rfl rfl rfl ?_)));intro w5 Bx Eb1;replace Bb1:Blk w5 gb1 28 #[.int .i64 3,.bool false,.bool false,.slice none 0 0,.int .u64 ((yy (qf (yy (qf b))):Nat):Int),.string ⟨#[]⟩,.slice none 0 0]:=Bx;replace E:=E.step1 Eb1 Mut.head;obtain ⟨HF,LW,XLW,E⟩:=frg HF LW E XLW (Y:=No) (Mut.skip Mut.nil_) (Per.blkN Bb1 NotIn.nil);refine zn ?_;refine gr (rs:=[.cell 2 28]) (vs:=[_]) rfl ⟨⟨_,rfl,ycz u28 rfl kt (HF.on E).here.2 rfl⟩,trivial⟩ ?_;exact ⟨by rw[neg_twice hb0];rfl,(LW.step E XLW).toBelow⟩
theorem pt_un_bad (op:Int) (hg:ua.good=false):Calls Tryz.prog 15 #[.int .i64 op,pvV ua A1 c1 B1 d1] w (vf w (vZ,3)):=by
 have _:=hx;have _:=hl;have _:=ha;refine zc Tryz.func15 rfl Tryz.ntmps15 rfl ?_;obtain ⟨HF,LW,XLW,E⟩:=wk0 w;replace HF:=HF.and (Per.nums0 hx);refine zi ?_;intro gb1 w2 Bb1 Eb1 Gb1;obtain ⟨HF,LW,E⟩:=frz HF LW E XLW Bb1 Eb1;refine zv ?_;intro gb3 w4 Bb3 Eb3 Gb3;obtain ⟨Gb3,HF,E,XLW⟩:=alx HF LW E XLW Eb3 Gb3;refine yi ?_;refine za rfl (zb yek rfl ((jw _ ua A1 B1 c1 d1 (HF.on E).here.1.2 hl false hg).mono ?_));rintro e w5 ⟨rfl,hb⟩;refine ⟨_,rfl,?_⟩;have Ec:=Ext.of_below hb No;replace Bb3:=Bb3.extN Ec NotIn.nil;replace E:=E.trans Ec.no;refine zp ?_;refine zdq ?_;refine gk ?_;intro w6 Bx Eb3;replace Bb3:Blk w6 gb3 28 #[.int .i64 0,.bool false,.bool false,.slice none 0 0,.int .u64 0,.string ⟨#[]⟩,.slice none 0 0]:=Bx;replace E:=E.step1 Eb3 Mut.head;refine zp ?_;exact vcz
theorem pt_un_type1 (op:Int) (hg:ua.good=true) (hn:gg ua.k=false):Calls Tryz.prog 15 #[.int .i64 op,pvV ua A1 c1 B1 d1] w (vf w (vZ,9)):=by
 have _:=hx;have _:=hl;have _:=ha;refine zc Tryz.func15 rfl Tryz.ntmps15 rfl ?_;obtain ⟨HF,LW,XLW,E⟩:=wk0 w;replace HF:=HF.and (Per.nums0 hx);refine zi ?_;intro gb1 w2 Bb1 Eb1 Gb1;obtain ⟨HF,LW,E⟩:=frz HF LW E XLW Bb1 Eb1;refine zv ?_;intro gb3 w4 Bb3 Eb3 Gb3;obtain ⟨Gb3,HF,E,XLW⟩:=alx HF LW E XLW Eb3 Gb3;refine yi ?_;refine ka ?_;rintro e w5 ⟨rfl,hb⟩;refine ⟨_,rfl,?_⟩;have Ec:=Ext.of_below hb No;replace Bb3:=Bb3.extN Ec NotIn.nil;replace E:=E.trans Ec.no;refine yi ?_;refine qdx ?_;rintro e w6 ⟨rfl,hb⟩;refine ⟨_,rfl,?_⟩;have Ec:=Ext.of_below hb No;replace Bb3:=Bb3.extN Ec NotIn.nil;replace E:=E.trans Ec.no;refine ky ?_;exact dqz102
theorem pt_un_type2 (op:Int) (hg:ua.good=true) (hn:gg ua.k=true) (h1:op≠1) (h2:op≠2):Calls Tryz.prog 15 #[.int .i64 op,pvV ua A1 c1 B1 d1] w (vf w (vZ,9)):=by
 have _:=hx;have _:=hl;have _:=ha;refine zc Tryz.func15 rfl Tryz.ntmps15 rfl ?_;obtain ⟨HF,LW,XLW,E⟩:=wk0 w;replace HF:=HF.and (Per.nums0 hx);refine zi ?_;intro gb1 w2 Bb1 Eb1 Gb1;obtain ⟨HF,LW,E⟩:=frz HF LW E XLW Bb1 Eb1;refine zv ?_;intro gb3 w4 Bb3 Eb3 Gb3;obtain ⟨Gb3,HF,E,XLW⟩:=alx HF LW E XLW Eb3 Gb3;refine yi ?_;refine ka ?_;rintro e w5 ⟨rfl,hb⟩;refine ⟨_,rfl,?_⟩;have Ec:=Ext.of_below hb No;replace Bb3:=Bb3.extN Ec NotIn.nil;replace E:=E.trans Ec.no;refine yi ?_;refine ykx ?_;rintro e w6 ⟨rfl,hb⟩;refine ⟨_,rfl,?_⟩;have Ec:=Ext.of_below hb No;replace Bb3:=Bb3.extN Ec NotIn.nil;replace E:=E.trans Ec.no;refine zu ?_;refine zf 19 (.bool true) rfl (by simp[h1]) (zp ?_);refine zd 12 (.bool true) rfl (by simp[h2]) (zn ?_);exact dqz102
theorem pt_un_flt1 (hg:ua.good=true) (hn:gg ua.k=true) (hk:ua.k=3):Calls Tryz.prog 15 #[.int .i64 1,pvV ua A1 c1 B1 d1] w (vf w (vFl (yy (qf ua.bits)),0)):=by
 have _:=hx;have _:=hl;have _:=ha;refine zc Tryz.func15 rfl Tryz.ntmps15 rfl ?_;obtain ⟨HF,LW,XLW,E⟩:=wk0 w;replace HF:=HF.and (Per.nums0 hx);refine zi ?_;intro gb1 w2 Bb1 Eb1 Gb1;obtain ⟨HF,LW,E⟩:=frz HF LW E XLW Bb1 Eb1;refine zv ?_;intro gb3 w4 Bb3 Eb3 Gb3;obtain ⟨Gb3,HF,E,XLW⟩:=alx HF LW E XLW Eb3 Gb3;refine yi ?_;refine ka ?_;rintro e w5 ⟨rfl,hb⟩;refine ⟨_,rfl,?_⟩;have Ec:=Ext.of_below hb No;replace Bb3:=Bb3.extN Ec NotIn.nil;replace E:=E.trans Ec.no;refine yi ?_;refine ykx ?_;rintro e w6 ⟨rfl,hb⟩;refine ⟨_,rfl,?_⟩;have Ec:=Ext.of_below hb No;replace Bb3:=Bb3.extN Ec NotIn.nil;replace E:=E.trans Ec.no;refine zsk ?_;refine zd 25 (.bool true) rfl (by simp[hk]) (jt ?_);refine za rfl (zb en41 rfl ((quz _ ua.bits).mono ?_));rintro e w7 ⟨rfl,hb⟩;refine ⟨_,rfl,?_⟩;have Ec:=Ext.of_below hb No;replace Bb3:=Bb3.extN Ec NotIn.nil;replace E:=E.trans Ec.no;refine za rfl (zb en47 rfl ((pt_bits _ ua ha (yy (qf ua.bits)) (bareN_lt (zfx ha).2.2)).mono ?_));rintro e w8 ⟨rfl,hb⟩;refine ⟨_,rfl,?_⟩;have Ec:=Ext.of_below hb No;replace Bb3:=Bb3.extN Ec NotIn.nil;replace E:=E.trans Ec.no;refine gk ?_;intro w9 Bx Eb3;replace Bb3:Blk w9 gb3 28 #[.int .i64 3,.bool false,.bool false,.slice none 0 0,.int .u64 ((yy (yy (qf ua.bits)):Nat):Int),.string ⟨#[]⟩,.slice none 0 0]:=Bx;replace E:=E.step1 Eb3 Mut.head;refine yi ?_;exact ⟨none,0,by rw[bare_twice];rfl,ziz,(LW.step E XLW).toBelow⟩
theorem pt_un_int1 (hg:ua.good=true) (hk:ua.k=1∨ua.k=2):Calls Tryz.prog 15 #[.int .i64 1,pvV ua A1 c1 B1 d1] w (vf w (vI (-zpq ua),0)):=by
 have _:=hx;have _:=hl;have _:=ha;obtain ⟨I,hI⟩:∃I,I= -num ua.cn ua.cx:=⟨_,rfl⟩;have hnn:gg ua.k=true:=by rcases hk with h | h<;>rw[h]<;>rfl
 have hgc:=PV.goodQ hg hk;have hcl:=PV.cx_len hl;have hcan:=(PV.canon hg hk).2.2;have hIb:I.natAbs<B18^30:=by rw[hI,Int.natAbs_neg];exact hcan
 have hIn:-zpq ua=I:=by rw[hI];rfl
 rw[hIn];refine zc Tryz.func15 rfl Tryz.ntmps15 rfl ?_;obtain ⟨HF,LW,XLW,E⟩:=wk0 w;replace HF:=HF.and (Per.nums0 hx);refine zi ?_;intro gb1 w2 Bb1 Eb1 Gb1;obtain ⟨HF,LW,E⟩:=frz HF LW E XLW Bb1 Eb1;refine zv ?_;intro gb3 w4 Bb3 Eb3 Gb3;obtain ⟨Gb3,HF,E,XLW⟩:=alx HF LW E XLW Eb3 Gb3;refine yi ?_;refine ka ?_;rintro e w5 ⟨rfl,hb⟩;refine ⟨_,rfl,?_⟩;have Ec:=Ext.of_below hb No;replace Bb3:=Bb3.extN Ec NotIn.nil;replace E:=E.trans Ec.no;refine yi ?_;refine za rfl (zb en29 rfl ((zpx _ ua A1 B1 c1 d1 true hnn).mono ?_));rintro e w6 ⟨rfl,hb⟩;refine ⟨_,rfl,?_⟩;have Ec:=Ext.of_below hb No;replace Bb3:=Bb3.extN Ec NotIn.nil;replace E:=E.trans Ec.no;refine zsk ?_;refine zd 25 (.bool false) rfl (by rcases hk with h | h<;>simp[h]) (zp ?_);refine qcv ?_;rintro e w7 ⟨A3,c3,rfl,hN,hb⟩;refine ⟨_,rfl,?_⟩;have XC:∀q9,(Mut [(some gb3)]) q9→q9<w6.heap.size:=(Mut.grow Mut.none_ (ze Bb3.lt));have Ec:=Ext.of_below hb No;replace Bb3:=Bb3.extN Ec NotIn.nil;replace E:=E.trans Ec.no;obtain ⟨HF,LW,E⟩:=fra HF LW E XLW (ztq hN XC);refine za rfl (zb en48 rfl ((neg_numJ (c:=c3) (((HF.on E).here.2).nums (HF.on E).here.1.1.2) hcl hgc I hI).mono ?_));rintro e w8 ⟨A4,c4,rfl,o4,hb⟩;refine ⟨_,rfl,?_⟩;have XC:∀q9,(Mut [(some gb3)]) q9→q9<w7.heap.size:=(Mut.grow Mut.none_ (ze Bb3.lt));have SC:=Nat.le_trans LW.size E.size;have Ec:=Ext.of_below hb No;replace Bb3:=Bb3.extN Ec NotIn.nil;replace E:=E.trans Ec.no;have S4:=SC;obtain ⟨HF,LW,E⟩:=fra HF LW E XLW (Per.ownX o4 XC);refine yq ?_;intro gb9 w10 Bb9 Eb9 Gb9;have Db9_b3:Apart (some gb9) (some gb3):=Apart.of_lt (ze Bb3.lt) Gb9;have Db3_b9:=Db9_b3.symm;replace Bb3:=Bb3.extN Eb9 NotIn.nil;obtain ⟨Gb9,HF,E,XLW⟩:=alx HF LW E XLW Eb9 Gb9;refine zk (zw ku rfl rfl Bb9 rfl rfl rfl ?_);intro w11 Bx Eb9;replace Bb9:Blk w11 gb9 24 #[.bool (decide (I<0)),.slice A4 (limbs I).length c4]:=Bx;replace Bb3:=Bb3.extN Eb9 (NotIn.cons Db3_b9 NotIn.nil);replace E:=E.step1 Eb9 Mut.head;refine ky ?_;refine za rfl (zb en45 rfl ((qik _ A4 c4 (decide (I<0)) (limbs I)).mono ?_));rintro e w12 ⟨rfl,hb⟩;refine ⟨_,rfl,?_⟩;have Ec:=Ext.of_below hb No;replace Bb9:=Bb9.extN Ec NotIn.nil;replace Bb3:=Bb3.extN Ec NotIn.nil;replace E:=E.trans Ec.no;refine gk ?_;intro w13 Bx Eb3;replace Bb3:Blk w13 gb3 28 #[.int .i64 2,.bool false,.bool (decide (I<0)),.slice A4 (limbs I).length c4,.int .u64 0,.string ⟨#[]⟩,.slice none 0 0]:=Bx;replace Bb9:=Bb9.extN Eb3 (NotIn.cons Db9_b3 NotIn.nil);replace E:=E.step1 Eb3 (Mut.tail Mut.head);obtain ⟨HF,LW,XLW,E⟩:=frg HF LW E XLW (Y:=Mut [(some gb9)]) (Mut.keep (Mut.skip Mut.nil_)) (Per.blkN Bb3 (NotIn.cons Db3_b9 NotIn.nil));refine zu ?_;exact ⟨A4,c4,rfl,((HF.on E).here.1.2).mono S4,(LW.step E XLW).toBelow⟩
theorem pt_un_flt2 (hg:ua.good=true) (hn:gg ua.k=true) (hk:ua.k=3):Calls Tryz.prog 15 #[.int .i64 2,pvV ua A1 c1 B1 d1] w (vf w (vFl (yy ua.bits),0)):=by
 have _:=hx;have _:=hl;have _:=ha;refine zc Tryz.func15 rfl Tryz.ntmps15 rfl ?_;obtain ⟨HF,LW,XLW,E⟩:=wk0 w;replace HF:=HF.and (Per.nums0 hx);refine zi ?_;intro gb1 w2 Bb1 Eb1 Gb1;obtain ⟨HF,LW,E⟩:=frz HF LW E XLW Bb1 Eb1;refine zv ?_;intro gb3 w4 Bb3 Eb3 Gb3;obtain ⟨Gb3,HF,E,XLW⟩:=alx HF LW E XLW Eb3 Gb3;refine yi ?_;refine ka ?_;rintro e w5 ⟨rfl,hb⟩;refine ⟨_,rfl,?_⟩;have Ec:=Ext.of_below hb No;replace Bb3:=Bb3.extN Ec NotIn.nil;replace E:=E.trans Ec.no;refine yi ?_;refine ykx ?_;rintro e w6 ⟨rfl,hb⟩;refine ⟨_,rfl,?_⟩;have Ec:=Ext.of_below hb No;replace Bb3:=Bb3.extN Ec NotIn.nil;replace E:=E.trans Ec.no;refine zsk ?_;refine zd 25 (.bool true) rfl (by simp[hk]) (ky ?_);refine za rfl (zb en47 rfl ((pt_bits _ ua ha ua.bits ha).mono ?_));rintro e w7 ⟨rfl,hb⟩;refine ⟨_,rfl,?_⟩;have Ec:=Ext.of_below hb No;replace Bb3:=Bb3.extN Ec NotIn.nil;replace E:=E.trans Ec.no;refine gk ?_;intro w8 Bx Eb3;replace Bb3:Blk w8 gb3 28 #[.int .i64 3,.bool false,.bool false,.slice none 0 0,.int .u64 ((yy ua.bits:Nat):Int),.string ⟨#[]⟩,.slice none 0 0]:=Bx;replace E:=E.step1 Eb3 Mut.head;refine zp ?_;exact ⟨none,0,by rfl,ziz,(LW.step E XLW).toBelow⟩
theorem pt_un_int2 (hg:ua.good=true) (hk:ua.k=1∨ua.k=2):Calls Tryz.prog 15 #[.int .i64 2,pvV ua A1 c1 B1 d1] w (vf w (vI (zpq ua),0)):=by
 have _:=hx;have _:=hl;have _:=ha;obtain ⟨I,hI⟩:∃I,I= -num ua.cn ua.cx:=⟨_,rfl⟩;have hnn:gg ua.k=true:=by rcases hk with h | h<;>rw[h]<;>rfl
 have hgc:=PV.goodQ hg hk;have hcl:=PV.cx_len hl;have hcan:=(PV.canon hg hk).2.2;have hIb:I.natAbs<B18^30:=by rw[hI,Int.natAbs_neg];exact hcan
 obtain ⟨K,hK⟩:∃K,K= -I:=⟨_,rfl⟩;have hKn:zpq ua=K:=by rw[hK,hI,Int.neg_neg];rfl
 rw[hKn];refine zc Tryz.func15 rfl Tryz.ntmps15 rfl ?_;obtain ⟨HF,LW,XLW,E⟩:=wk0 w;replace HF:=HF.and (Per.nums0 hx);refine zi ?_;intro gb1 w2 Bb1 Eb1 Gb1;obtain ⟨HF,LW,E⟩:=frz HF LW E XLW Bb1 Eb1;refine zv ?_;intro gb3 w4 Bb3 Eb3 Gb3;obtain ⟨Gb3,HF,E,XLW⟩:=alx HF LW E XLW Eb3 Gb3;refine yi ?_;refine ka ?_;rintro e w5 ⟨rfl,hb⟩;refine ⟨_,rfl,?_⟩;have Ec:=Ext.of_below hb No;replace Bb3:=Bb3.extN Ec NotIn.nil;replace E:=E.trans Ec.no;refine yi ?_;refine za rfl (zb en29 rfl ((zpx _ ua A1 B1 c1 d1 true hnn).mono ?_));rintro e w6 ⟨rfl,hb⟩;refine ⟨_,rfl,?_⟩;have Ec:=Ext.of_below hb No;replace Bb3:=Bb3.extN Ec NotIn.nil;replace E:=E.trans Ec.no;refine zsk ?_;refine zd 25 (.bool false) rfl (by rcases hk with h | h<;>simp[h]) (zp ?_);refine qcv ?_;rintro e w7 ⟨A3,c3,rfl,hN,hb⟩;refine ⟨_,rfl,?_⟩;have XC:∀q9,(Mut [(some gb3)]) q9→q9<w6.heap.size:=(Mut.grow Mut.none_ (ze Bb3.lt));have Ec:=Ext.of_below hb No;replace Bb3:=Bb3.extN Ec NotIn.nil;replace E:=E.trans Ec.no;obtain ⟨HF,LW,E⟩:=fra HF LW E XLW (ztq hN XC);refine za rfl (zb en48 rfl ((neg_numJ (c:=c3) (((HF.on E).here.2).nums (HF.on E).here.1.1.2) hcl hgc I hI).mono ?_));rintro e w8 ⟨A4,c4,rfl,o4,hb⟩;refine ⟨_,rfl,?_⟩;have XC:∀q9,(Mut [(some gb3)]) q9→q9<w7.heap.size:=(Mut.grow Mut.none_ (ze Bb3.lt));have SC:=Nat.le_trans LW.size E.size;have Ec:=Ext.of_below hb No;replace Bb3:=Bb3.extN Ec NotIn.nil;replace E:=E.trans Ec.no;have S4:=SC;obtain ⟨HF,LW,E⟩:=fra HF LW E XLW (Per.ownX o4 XC);refine yq ?_;intro gb9 w10 Bb9 Eb9 Gb9;have Db9_b3:Apart (some gb9) (some gb3):=Apart.of_lt (ze Bb3.lt) Gb9;have Db3_b9:=Db9_b3.symm;replace Bb3:=Bb3.extN Eb9 NotIn.nil;obtain ⟨Gb9,HF,E,XLW⟩:=alx HF LW E XLW Eb9 Gb9;refine zk (zw ku rfl rfl Bb9 rfl rfl rfl ?_);intro w11 Bx Eb9;replace Bb9:Blk w11 gb9 24 #[.bool (decide (I<0)),.slice A4 (limbs I).length c4]:=Bx;replace Bb3:=Bb3.extN Eb9 (NotIn.cons Db3_b9 NotIn.nil);replace E:=E.step1 Eb9 Mut.head;refine vp ?_;refine za rfl (zb en48 rfl ((neg_bigJ (c:=c4) I ((HF.on E).here.2).nums hIb K hK).mono ?_));rintro e w12 ⟨A5,c5,rfl,o5,hb⟩;refine ⟨_,rfl,?_⟩;have XC:∀q9,(Mut [(some gb9),(some gb3)]) q9→q9<w11.heap.size:=(Mut.grow (Mut.grow Mut.none_ (ze Bb3.lt)) (ze Bb9.lt));have SC:=Nat.le_trans LW.size E.size;have Ec:=Ext.of_below hb No;replace Bb9:=Bb9.extN Ec NotIn.nil;replace Bb3:=Bb3.extN Ec NotIn.nil;replace E:=E.trans Ec.no;have S5:=SC;obtain ⟨HF,LW,E⟩:=fra HF LW E XLW (Per.ownX o5 XC);refine zk (zw ku rfl rfl Bb9 rfl rfl rfl ?_);intro w13 Bx Eb9;replace Bb9:Blk w13 gb9 24 #[.bool (decide (K<0)),.slice A5 (limbs K).length c5]:=Bx;replace Bb3:=Bb3.extN Eb9 (NotIn.cons Db3_b9 NotIn.nil);replace E:=E.step1 Eb9 Mut.head;obtain ⟨HF,LW,XLW,E⟩:=frg HF LW E XLW (Y:=Mut [(some gb3)]) (Mut.skip (Mut.keep Mut.nil_)) (Per.blkN Bb9 (NotIn.cons Db9_b3 NotIn.nil));refine zu ?_;refine za rfl (zb en45 rfl ((qik _ A5 c5 (decide (K<0)) (limbs K)).mono ?_));rintro e w14 ⟨rfl,hb⟩;refine ⟨_,rfl,?_⟩;have Ec:=Ext.of_below hb No;replace Bb3:=Bb3.extN Ec NotIn.nil;replace E:=E.trans Ec.no;refine gk ?_;intro w15 Bx Eb3;replace Bb3:Blk w15 gb3 28 #[.int .i64 2,.bool false,.bool (decide (K<0)),.slice A5 (limbs K).length c5,.int .u64 0,.string ⟨#[]⟩,.slice none 0 0]:=Bx;replace E:=E.step1 Eb3 Mut.head;obtain ⟨HF,LW,XLW,E⟩:=frg HF LW E XLW (Y:=No) (Mut.skip Mut.nil_) (Per.blkN Bb3 NotIn.nil);refine zu ?_;exact ⟨A5,c5,rfl,((HF.on E).here.1.1.2).mono S5,(LW.step E XLW).toBelow⟩
theorem pt_un (op:Int) (p:PV×Int) (hp:p=unP op ua):Calls Tryz.prog 15 #[.int .i64 op,pvV ua A1 c1 B1 d1] w (vf w p):=by
 subst hp;unfold unP;cases hg:ua.good
 · exact pt_un_bad w ua A1 B1 c1 d1 hx hl ha op hg
 rw[if_pos rfl];cases hn:gg ua.k
 · exact pt_un_type1 w ua A1 B1 c1 d1 hx hl ha op hg hn
 have hk:=qkx hn;by_cases h1:op=1
 · subst h1;rw[if_pos (show (true&&((1:Int)==1 || (1:Int)==2))=true from rfl)];by_cases h3:ua.k=3
   · rw[if_pos h3,if_pos rfl];exact pt_un_flt1 w ua A1 B1 c1 d1 hx hl ha hg hn h3
   · rw[if_neg h3,if_neg (by decide)];exact pt_un_int1 w ua A1 B1 c1 d1 hx hl ha hg (by omega)
 by_cases h2:op=2
 · subst h2;rw[if_pos (show (true&&((2:Int)==1 || (2:Int)==2))=true from rfl)];by_cases h3:ua.k=3
   · rw[if_pos h3,if_neg (by decide)];exact pt_un_flt2 w ua A1 B1 c1 d1 hx hl ha hg hn h3
   · rw[if_neg h3,if_pos rfl];exact pt_un_int2 w ua A1 B1 c1 d1 hx hl ha hg (by omega)
 · rw[if_neg (by simp[h1,h2])];exact pt_un_type2 w ua A1 B1 c1 d1 hx hl ha op hg hn h1 h2
end
end Go.Proofs.YtmnmebdmpigddaaGreatDoor
