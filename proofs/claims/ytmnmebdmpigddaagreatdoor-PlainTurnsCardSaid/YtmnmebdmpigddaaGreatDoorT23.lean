/- Texts of this claim. -/
import Derived.Test.YtmnmebdmpigddaaGreatDoorT22
import Derived.Shelf.Strings.Builder1
import Derived.Shelf.Strings.Builder2
import Derived.Shelf.Small.Strs
import Derived.Shelf.Strings.BuilderF
import Derived.Shelf.Strconv.Itoa0
import Derived.Shelf.Strconv.Itoa1
import Derived.Shelf.LaysM
import Derived.Shelf.Strconv.Itoa2
import Derived.Shelf.Pu.ParseUintPublic10
import Derived.Shelf.Strings.Search1
import Derived.Shelf.Strings.Search2
import Derived.Shelf.Strings.Search3
import Derived.Shelf.Strings.Shaped
import Derived.Shelf.Strings.Prefix
import Derived.Shelf.Strings.Repeat
import Derived.Test.YtmnmebdmpigddaaGreatDoorProg
set_option maxRecDepth 100000
set_option maxHeartbeats 20000000
namespace Go.Proofs
open Go.Shelf
def Tryz.lays169_ren:Go.Shelf.Ren:=⟨fun | 169=>61 | n=>n,fun | 70=>79 | 9=>9 | 0=>0 | 72=>81 | 37=>46 | 127=>139 | 3=>3 | 5=>5 | n=>n,fun | n=>n⟩
theorem Tryz.lays169:Go.Proofs.Lays.n169 Tryz.prog Tryz.lays169_ren:={
 mixed:=by kernel_rfl
 f169:=Tryz.func61.trans (congrArg some (by kernel_rfl))
 t0:=Tryz.underlying0
 a0:=Tryz.isAgg0
 z0:=Tryz.sizeOf0
 v0:=Tryz.zeroValue0
 t3:=Tryz.underlying3
 a3:=Tryz.isAgg3
 z3:=Tryz.sizeOf3
 v3:=Tryz.zeroValue3
 t9:=Tryz.underlying9
 a9:=Tryz.isAgg9
 z9:=Tryz.sizeOf9
 v9:=Tryz.zeroValue9
 t37:=Tryz.underlying46
 a37:=Tryz.isAgg46
 z37:=Tryz.sizeOf46
 v37:=Tryz.zeroValue46
 t70:=Tryz.underlying79
 a70:=Tryz.isAgg79
 z70:=Tryz.sizeOf79
 v70:=Tryz.zeroValue79
 t72:=Tryz.underlying81
 a72:=Tryz.isAgg81
 z72:=Tryz.sizeOf81
 v72:=Tryz.zeroValue81
 t127:=Tryz.underlying139
 a127:=Tryz.isAgg139
 z127:=Tryz.sizeOf139
 v127:=Tryz.zeroValue139 }
theorem Tryz.Builder_Extra_169:Builder.Extra Tryz.prog Tryz.lays169_ren:={
 sizeBuilder:=by kernel_rfl
 liesBuilder:=by kernel_rfl
 t5:=Tryz.underlying5
 a5:=Tryz.isAgg5
 z5:=Tryz.sizeOf5
 v5:=Tryz.zeroValue5
 infoByte:=by kernel_rfl
 cellsByte:=by kernel_rfl
 sizeByte:=by kernel_rfl
 neB5:=by decide }
open Go.RowKit in
theorem Tryz.Builder_String_any (B b:Nat) (l:List UInt8) (w:World) (h:Lib.IsBuilder 81 5 B b (Lib.byteCells l) w) (hBw:B≤w.heap.size) :
 Calls Tryz.prog 61 #[.pointer (some ⟨b,0,none⟩)] w fun e w'=>e= .returned (.string ⟨l.toArray⟩)∧Below B w w':=Any.Builder_String_any Tryz.lays169 Tryz.Builder_Extra_169 B b l w h hBw
def Tryz.lays283_ren:Go.Shelf.Ren:=⟨fun | 283=>202 | n=>n,fun | 3=>3 | 9=>9 | 4=>4 | n=>n,fun | n=>n⟩
theorem Tryz.lays283:Go.Proofs.Lays.n283 Tryz.prog Tryz.lays283_ren:={
 mixed:=by kernel_rfl
 f283:=Tryz.func202.trans (congrArg some (by kernel_rfl))
 t3:=Tryz.underlying3
 a3:=Tryz.isAgg3
 z3:=Tryz.sizeOf3
 v3:=Tryz.zeroValue3
 t4:=Tryz.underlying4
 a4:=Tryz.isAgg4
 z4:=Tryz.sizeOf4
 v4:=Tryz.zeroValue4
 t9:=Tryz.underlying9
 a9:=Tryz.isAgg9
 z9:=Tryz.sizeOf9
 v9:=Tryz.zeroValue9 }
open Go.Lib in
theorem Tryz.internal_strconv_small (i:Nat) (h:i<100) (w:World) :
 Calls Tryz.prog 202 #[.int .i64 i] w fun e w'=>e= .returned (.string ⟨(Lib.decDigits i).toArray⟩)∧w'=w:=Any.internal_strconv_small Tryz.lays283 i h w
def Tryz.laysM284_ren:Go.Shelf.Ren:=⟨fun | 284=>203 | 129=>196 | 317=>228 | 318=>229 | n=>n,fun | 53=>25 | 3=>3 | 212=>238 | 0=>0 | 4=>4 | 46=>87 | 5=>5 | 9=>9 | n=>n,fun | 17=>9 | n=>n⟩
theorem Tryz.laysM284:Go.Proofs.LaysM.n284 Tryz.prog Tryz.laysM284_ren:={
 mixed:=by kernel_rfl
 f129:=Tryz.func196.trans (congrArg some (by kernel_rfl))
 f284:=Tryz.func203.trans (congrArg some (by kernel_rfl))
 f317:=Tryz.func228.trans (congrArg some (by kernel_rfl))
 f318:=Tryz.func229.trans (congrArg some (by kernel_rfl))
 t0:=Tryz.underlying0
 a0:=Tryz.isAgg0
 z0:=Tryz.sizeOf0
 v0:=Tryz.zeroValue0
 t3:=Tryz.underlying3
 a3:=Tryz.isAgg3
 z3:=Tryz.sizeOf3
 v3:=Tryz.zeroValue3
 t4:=Tryz.underlying4
 a4:=Tryz.isAgg4
 z4:=Tryz.sizeOf4
 v4:=Tryz.zeroValue4
 t5:=Tryz.underlying5
 a5:=Tryz.isAgg5
 z5:=Tryz.sizeOf5
 v5:=Tryz.zeroValue5
 t9:=Tryz.underlying9
 a9:=Tryz.isAgg9
 z9:=Tryz.sizeOf9
 v9:=Tryz.zeroValue9
 t46:=Tryz.underlying87
 a46:=Tryz.isAgg87
 z46:=Tryz.sizeOf87
 v46:=Tryz.zeroValue87
 t53:=Tryz.underlying25
 a53:=Tryz.isAgg25
 z53:=Tryz.sizeOf25
 v53:=Tryz.zeroValue25
 t212:=Tryz.underlying238
 a212:=Tryz.isAgg238
 z212:=Tryz.sizeOf238
 v212:=Tryz.zeroValue238
 g17:=by kernel_rfl
 i0:=by kernel_rfl
 i3:=by kernel_rfl
 i4:=by kernel_rfl
 i5:=by kernel_rfl
 i9:=by kernel_rfl
 i46:=by kernel_rfl
 i53:=by kernel_rfl
 i212:=by kernel_rfl
 m17:=by kernel_rfl }
open Go.Lib in
theorem Tryz.internal_strconv_numDigits (u:Nat) (h1:1≤u) (h2:u<18446744073709551616) (w:World) (htab:Lib.TabIs Tryz.prog w "internal/strconv.uint64pow10" .u64 Lib.pow10Tab) :
 Calls Tryz.prog 203 #[.int .u64 u] w fun e w'=>e= .returned (.int .i64 (Lib.nDigits u))∧w'=w:=Any.internal_strconv_numDigits Tryz.laysM284 u h1 h2 w htab
def Tryz.lays285_ren:Go.Shelf.Ren:=⟨fun | 285=>204 | n=>n,fun | 37=>46 | 53=>25 | 3=>3 | 4=>4 | 51=>174 | 9=>9 | 5=>5 | 0=>0 | n=>n,fun | n=>n⟩
theorem Tryz.lays285:Go.Proofs.Lays.n285 Tryz.prog Tryz.lays285_ren:={
 mixed:=by kernel_rfl
 f285:=Tryz.func204.trans (congrArg some (by kernel_rfl))
 t0:=Tryz.underlying0
 a0:=Tryz.isAgg0
 z0:=Tryz.sizeOf0
 v0:=Tryz.zeroValue0
 t3:=Tryz.underlying3
 a3:=Tryz.isAgg3
 z3:=Tryz.sizeOf3
 v3:=Tryz.zeroValue3
 t4:=Tryz.underlying4
 a4:=Tryz.isAgg4
 z4:=Tryz.sizeOf4
 v4:=Tryz.zeroValue4
 t5:=Tryz.underlying5
 a5:=Tryz.isAgg5
 z5:=Tryz.sizeOf5
 v5:=Tryz.zeroValue5
 t9:=Tryz.underlying9
 a9:=Tryz.isAgg9
 z9:=Tryz.sizeOf9
 v9:=Tryz.zeroValue9
 t37:=Tryz.underlying46
 a37:=Tryz.isAgg46
 z37:=Tryz.sizeOf46
 v37:=Tryz.zeroValue46
 t51:=Tryz.underlying174
 a51:=Tryz.isAgg174
 z51:=Tryz.sizeOf174
 v51:=Tryz.zeroValue174
 t53:=Tryz.underlying25
 a53:=Tryz.isAgg25
 z53:=Tryz.sizeOf25
 v53:=Tryz.zeroValue25 }
open Go.RowKit Go.Sort Go.Lib in
theorem Tryz.internal_strconv_formatBase10 (blk off cap:Nat) (u:Nat) (d:Array UInt8) (w:World) (hH:Holds (fun (b:UInt8)=>Value.int .u8 (b.toNat:Int)) w blk off d) (hu:u<10^d.size) (hu64:u<18446744073709551616) (hsz:d.size<4611686018427387904) :
 Calls Tryz.prog 204 #[.slice (some ⟨blk,off,none⟩) d.size cap,.int .u64 u] w fun e w'=>
  e= .returned (.tuple #[])∧ ∃(n v':Nat) (dk:Array UInt8),w'=(putRow (fun (b:UInt8)=>Value.int .u8 (b.toNat:Int)) w blk off dk).drewN n∧FmtInv d.size u 0 v' dk:=Any.internal_strconv_formatBase10 Tryz.lays285 blk off cap u d w hH hu hu64 hsz
def Tryz.laysPu14_ren:Go.Shelf.Ren:=⟨fun | 14=>96 | 16=>151 | 17=>152 | 19=>180 | 20=>181 | 21=>182 | 22=>183 | 23=>184 | 24=>185 | 25=>197 | 27=>199 | 26=>198 | 28=>214 | 29=>248 | 30=>202 | 31=>203 | 32=>204 | 33=>205 | 35=>196 | 34=>228 | 36=>229 | 37=>230 | 38=>231 | 39=>260 | 40=>261 | n=>n,fun | 9=>9 | 3=>3 | 22=>25 | 24=>83 | 25=>121 | 4=>4 | 34=>183 | 5=>5 | 36=>87 | 37=>46 | 0=>0 | 39=>185 | 21=>21 | 44=>194 | 47=>139 | 50=>212 | 48=>210 | 2=>2 | 52=>201 | 55=>203 | 59=>238 | 60=>174 | 20=>20 | 61=>239 | 65=>246 | 66=>278 | 67=>88 | n=>n,fun | 0=>3 | 1=>4 | 2=>9 | 3=>14 | 4=>15 | n=>n⟩
theorem Tryz.laysPu14:Go.Proofs.LaysPu.n14 Tryz.prog Tryz.laysPu14_ren:={
 mixed:=by kernel_rfl
 f14:=Tryz.func96.trans (congrArg some (by kernel_rfl))
 f16:=Tryz.func151.trans (congrArg some (by kernel_rfl))
 f17:=Tryz.func152.trans (congrArg some (by kernel_rfl))
 f19:=Tryz.func180.trans (congrArg some (by kernel_rfl))
 f20:=Tryz.func181.trans (congrArg some (by kernel_rfl))
 f21:=Tryz.func182.trans (congrArg some (by kernel_rfl))
 f22:=Tryz.func183.trans (congrArg some (by kernel_rfl))
 f23:=Tryz.func184.trans (congrArg some (by kernel_rfl))
 f24:=Tryz.func185.trans (congrArg some (by kernel_rfl))
 f25:=Tryz.func197.trans (congrArg some (by kernel_rfl))
 f26:=Tryz.func198.trans (congrArg some (by kernel_rfl))
 f27:=Tryz.func199.trans (congrArg some (by kernel_rfl))
 f28:=Tryz.func214.trans (congrArg some (by kernel_rfl))
 f29:=Tryz.func248.trans (congrArg some (by kernel_rfl))
 f30:=Tryz.func202.trans (congrArg some (by kernel_rfl))
 f31:=Tryz.func203.trans (congrArg some (by kernel_rfl))
 f32:=Tryz.func204.trans (congrArg some (by kernel_rfl))
 f33:=Tryz.func205.trans (congrArg some (by kernel_rfl))
 f34:=Tryz.func228.trans (congrArg some (by kernel_rfl))
 f35:=Tryz.func196.trans (congrArg some (by kernel_rfl))
 f36:=Tryz.func229.trans (congrArg some (by kernel_rfl))
 f37:=Tryz.func230.trans (congrArg some (by kernel_rfl))
 f38:=Tryz.func231.trans (congrArg some (by kernel_rfl))
 f39:=Tryz.func260.trans (congrArg some (by kernel_rfl))
 f40:=Tryz.func261.trans (congrArg some (by kernel_rfl))
 t0:=Tryz.underlying0
 a0:=Tryz.isAgg0
 z0:=Tryz.sizeOf0
 v0:=Tryz.zeroValue0
 i0:=by kernel_rfl
 t2:=Tryz.underlying2
 a2:=Tryz.isAgg2
 z2:=Tryz.sizeOf2
 v2:=Tryz.zeroValue2
 i2:=by kernel_rfl
 t3:=Tryz.underlying3
 a3:=Tryz.isAgg3
 z3:=Tryz.sizeOf3
 v3:=Tryz.zeroValue3
 i3:=by kernel_rfl
 t4:=Tryz.underlying4
 a4:=Tryz.isAgg4
 z4:=Tryz.sizeOf4
 v4:=Tryz.zeroValue4
 i4:=by kernel_rfl
 t5:=Tryz.underlying5
 a5:=Tryz.isAgg5
 z5:=Tryz.sizeOf5
 v5:=Tryz.zeroValue5
 i5:=by kernel_rfl
 t9:=Tryz.underlying9
 a9:=Tryz.isAgg9
 z9:=Tryz.sizeOf9
 v9:=Tryz.zeroValue9
 i9:=by kernel_rfl
 t20:=Tryz.underlying20
 a20:=Tryz.isAgg20
 z20:=Tryz.sizeOf20
 v20:=Tryz.zeroValue20
 i20:=by kernel_rfl
 t21:=Tryz.underlying21
 a21:=Tryz.isAgg21
 z21:=Tryz.sizeOf21
 v21:=Tryz.zeroValue21
 i21:=by kernel_rfl
 t22:=Tryz.underlying25
 a22:=Tryz.isAgg25
 z22:=Tryz.sizeOf25
 v22:=Tryz.zeroValue25
 i22:=by kernel_rfl
 t24:=Tryz.underlying83
 a24:=Tryz.isAgg83
 z24:=Tryz.sizeOf83
 v24:=Tryz.zeroValue83
 i24:=by kernel_rfl
 t25:=Tryz.underlying121
 a25:=Tryz.isAgg121
 z25:=Tryz.sizeOf121
 v25:=Tryz.zeroValue121
 i25:=by kernel_rfl
 t34:=Tryz.underlying183
 a34:=Tryz.isAgg183
 z34:=Tryz.sizeOf183
 v34:=Tryz.zeroValue183
 i34:=by kernel_rfl
 c34:=by kernel_rfl
 t36:=Tryz.underlying87
 a36:=Tryz.isAgg87
 z36:=Tryz.sizeOf87
 v36:=Tryz.zeroValue87
 i36:=by kernel_rfl
 t37:=Tryz.underlying46
 a37:=Tryz.isAgg46
 z37:=Tryz.sizeOf46
 v37:=Tryz.zeroValue46
 i37:=by kernel_rfl
 t39:=Tryz.underlying185
 a39:=Tryz.isAgg185
 z39:=Tryz.sizeOf185
 v39:=Tryz.zeroValue185
 i39:=by kernel_rfl
 t44:=Tryz.underlying194
 a44:=Tryz.isAgg194
 z44:=Tryz.sizeOf194
 v44:=Tryz.zeroValue194
 i44:=by kernel_rfl
 t47:=Tryz.underlying139
 a47:=Tryz.isAgg139
 z47:=Tryz.sizeOf139
 v47:=Tryz.zeroValue139
 i47:=by kernel_rfl
 t48:=Tryz.underlying210
 a48:=Tryz.isAgg210
 z48:=Tryz.sizeOf210
 v48:=Tryz.zeroValue210
 i48:=by kernel_rfl
 t50:=Tryz.underlying212
 a50:=Tryz.isAgg212
 z50:=Tryz.sizeOf212
 v50:=Tryz.zeroValue212
 i50:=by kernel_rfl
 t52:=Tryz.underlying201
 a52:=Tryz.isAgg201
 z52:=Tryz.sizeOf201
 v52:=Tryz.zeroValue201
 i52:=by kernel_rfl
 t55:=Tryz.underlying203
 a55:=Tryz.isAgg203
 z55:=Tryz.sizeOf203
 v55:=Tryz.zeroValue203
 i55:=by kernel_rfl
 t59:=Tryz.underlying238
 a59:=Tryz.isAgg238
 z59:=Tryz.sizeOf238
 v59:=Tryz.zeroValue238
 i59:=by kernel_rfl
 t60:=Tryz.underlying174
 a60:=Tryz.isAgg174
 z60:=Tryz.sizeOf174
 v60:=Tryz.zeroValue174
 i60:=by kernel_rfl
 t61:=Tryz.underlying239
 a61:=Tryz.isAgg239
 z61:=Tryz.sizeOf239
 t65:=Tryz.underlying246
 a65:=Tryz.isAgg246
 z65:=Tryz.sizeOf246
 v65:=Tryz.zeroValue246
 i65:=by kernel_rfl
 t66:=Tryz.underlying278
 a66:=Tryz.isAgg278
 z66:=Tryz.sizeOf278
 v66:=Tryz.zeroValue278
 i66:=by kernel_rfl
 t67:=Tryz.underlying88
 a67:=Tryz.isAgg88
 z67:=Tryz.sizeOf88
 v67:=Tryz.zeroValue88
 i67:=by kernel_rfl
 g0:=by kernel_rfl
 m0:=by kernel_rfl
 g1:=by kernel_rfl
 m1:=by kernel_rfl
 g2:=by kernel_rfl
 m2:=by kernel_rfl
 g3:=by kernel_rfl
 m3:=by kernel_rfl
 g4:=by kernel_rfl
 m4:=by kernel_rfl }
open Go.RowKit in
theorem Tryz.strconv_ParseUint_10_at64_ok (s:ByteArray) (hmax:s.size≤9223372036854775806) (u:Nat) (h:Lib.parseUintB 64 s.data.toList= .ok u) (w:World) :
 Calls Tryz.prog 96 #[.string s,.int .i64 10,.int .i64 64] w fun e w'=>e= .returned (.tuple #[.int .u64 u,.nilIface])∧(w'=w∨w'=Lib.bytesWorld w 5 s):=Any.strconv_ParseUint_10_at64_ok Tryz.laysPu14 s hmax u h w
def Tryz.lays105_ren:Go.Shelf.Ren:=⟨fun | 105=>71 | 212=>127 | 99=>128 | 165=>129 | 166=>60 | 170=>130 | 169=>61 | 263=>167 | 264=>114 | 206=>168 | 240=>112 | 241=>169 | 276=>165 | 277=>193 | n=>n,fun | 9=>9 | 3=>3 | 4=>4 | 20=>20 | 0=>0 | 46=>87 | 109=>147 | 5=>5 | 72=>81 | 76=>85 | 51=>174 | 146=>175 | 53=>25 | 148=>140 | 70=>79 | 37=>46 | 75=>83 | 127=>139 | 164=>170 | 80=>88 | n=>n,fun | n=>n⟩
theorem Tryz.lays105:Go.Proofs.Lays.n105 Tryz.prog Tryz.lays105_ren:={
 mixed:=by kernel_rfl
 f99:=Tryz.func128.trans (congrArg some (by kernel_rfl))
 f105:=Tryz.func71.trans (congrArg some (by kernel_rfl))
 f165:=Tryz.func129.trans (congrArg some (by kernel_rfl))
 f166:=Tryz.func60.trans (congrArg some (by kernel_rfl))
 f169:=Tryz.func61.trans (congrArg some (by kernel_rfl))
 f170:=Tryz.func130.trans (congrArg some (by kernel_rfl))
 f206:=Tryz.func168.trans (congrArg some (by kernel_rfl))
 f212:=Tryz.func127.trans (congrArg some (by kernel_rfl))
 f240:=Tryz.func112.trans (congrArg some (by kernel_rfl))
 f241:=Tryz.func169.trans (congrArg some (by kernel_rfl))
 f263:=Tryz.func167.trans (congrArg some (by kernel_rfl))
 f264:=Tryz.func114.trans (congrArg some (by kernel_rfl))
 f276:=Tryz.func165.trans (congrArg some (by kernel_rfl))
 f277:=Tryz.func193.trans (congrArg some (by kernel_rfl))
 t0:=Tryz.underlying0
 a0:=Tryz.isAgg0
 z0:=Tryz.sizeOf0
 v0:=Tryz.zeroValue0
 t3:=Tryz.underlying3
 a3:=Tryz.isAgg3
 z3:=Tryz.sizeOf3
 v3:=Tryz.zeroValue3
 t4:=Tryz.underlying4
 a4:=Tryz.isAgg4
 z4:=Tryz.sizeOf4
 v4:=Tryz.zeroValue4
 t5:=Tryz.underlying5
 a5:=Tryz.isAgg5
 z5:=Tryz.sizeOf5
 v5:=Tryz.zeroValue5
 t9:=Tryz.underlying9
 a9:=Tryz.isAgg9
 z9:=Tryz.sizeOf9
 v9:=Tryz.zeroValue9
 t20:=Tryz.underlying20
 a20:=Tryz.isAgg20
 z20:=Tryz.sizeOf20
 v20:=Tryz.zeroValue20
 t37:=Tryz.underlying46
 a37:=Tryz.isAgg46
 z37:=Tryz.sizeOf46
 v37:=Tryz.zeroValue46
 t46:=Tryz.underlying87
 a46:=Tryz.isAgg87
 z46:=Tryz.sizeOf87
 v46:=Tryz.zeroValue87
 t51:=Tryz.underlying174
 a51:=Tryz.isAgg174
 z51:=Tryz.sizeOf174
 v51:=Tryz.zeroValue174
 t53:=Tryz.underlying25
 a53:=Tryz.isAgg25
 z53:=Tryz.sizeOf25
 v53:=Tryz.zeroValue25
 t70:=Tryz.underlying79
 a70:=Tryz.isAgg79
 z70:=Tryz.sizeOf79
 v70:=Tryz.zeroValue79
 t72:=Tryz.underlying81
 a72:=Tryz.isAgg81
 z72:=Tryz.sizeOf81
 v72:=Tryz.zeroValue81
 t75:=Tryz.underlying83
 a75:=Tryz.isAgg83
 z75:=Tryz.sizeOf83
 v75:=Tryz.zeroValue83
 t76:=Tryz.underlying85
 a76:=Tryz.isAgg85
 z76:=Tryz.sizeOf85
 v76:=Tryz.zeroValue85
 t109:=Tryz.underlying147
 a109:=Tryz.isAgg147
 z109:=Tryz.sizeOf147
 v109:=Tryz.zeroValue147
 t127:=Tryz.underlying139
 a127:=Tryz.isAgg139
 z127:=Tryz.sizeOf139
 v127:=Tryz.zeroValue139
 t146:=Tryz.underlying175
 a146:=Tryz.isAgg175
 z146:=Tryz.sizeOf175
 v146:=Tryz.zeroValue175
 t148:=Tryz.underlying140
 a148:=Tryz.isAgg140
 z148:=Tryz.sizeOf140
 v148:=Tryz.zeroValue140
 t164:=Tryz.underlying170
 a164:=Tryz.isAgg170
 z164:=Tryz.sizeOf170
 v164:=Tryz.zeroValue170 }
theorem Tryz.Builder_Extra_105:Builder.Extra Tryz.prog Tryz.lays105_ren:={
 sizeBuilder:=by kernel_rfl
 liesBuilder:=by kernel_rfl
 t5:=Tryz.underlying5
 a5:=Tryz.isAgg5
 z5:=Tryz.sizeOf5
 v5:=Tryz.zeroValue5
 infoByte:=by kernel_rfl
 cellsByte:=by kernel_rfl
 sizeByte:=by kernel_rfl
 neB5:=by decide }
open Go.RowKit Go.Lib in
theorem Tryz.strings_Repeat (s:ByteArray) (c:Nat) (w:World) (hc:c≤9223372036854775807) (hlen:s.size*c≤140737488355328) :
 Calls Tryz.prog 71 #[.string s,.int .i64 c] w fun e w'=>e= .returned (.string ⟨(Lib.repeatL s.data.toList c).toArray⟩)∧Below w.heap.size w w':=Any.strings_Repeat Tryz.lays105 Tryz.Builder_Extra_105 s c w hc hlen
end Go.Proofs
namespace Go.Proofs.YtmnmebdmpigddaaGreatDoor
open Go.RowKit Proofs.Tryz
theorem zR {P Q:Prop} (k:Q) (h:(Unit→Q)→P:=by
 intro zK;refine zu ?_;refine za rfl (ye u79 rfl rfl hb rfl (za rfl (YL u79 rfl rfl ?_)));exact zK ()):P:=h fun _=>k
attribute [local irreducible] OW RS CW EW
theorem RH:pK prog 165 Extern.AbiNoEscape.same:=⟨_,func165,kr,kr,kr,kr⟩
theorem j3:(prog.info? 81).map (·.size)=some 2:=kr
theorem RI:liesAt prog prog.depth 81 (2/prog.cellsOf 81) 0 81 1=true:=kr
def Qb (w:World) (lo b:Nat) (p:Value) (l:List UInt8) (F:Nat→Prop):Prop:=∃A c,aB w b 81 #[p,.slice A l.length c]∧w.ownsRow lo 5 1 (.slice A l.length c) l.length (Lib.byteCells l)∧ ∀q,(Value.slice A l.length c).ownBlock=some q→F q
def Adr (b:Nat) (p:Value):Prop:=p= .pointer none∨p= .pointer (some ⟨b,0,none⟩)
theorem Qb.lib {w:World} {lo b:Nat} {p:Value} {l:List UInt8} {F:Nat→Prop} (h:Qb w lo b p l F) (hp:Adr b p) (hb:lo≤b):Lib.IsBuilder 81 5 lo b (Lib.byteCells l) w:=by
 obtain ⟨A,c,h1,h2,_⟩:=h;have hl:(Lib.byteCells l).length=l.length:=by unfold Lib.byteCells;simp
 have hne:(Value.slice A l.length c).ownBlock≠some b:=fun e=>by
  obtain ⟨cur,h3⟩:=jV h2 e;have h4:=h1.symm.trans h3;injection h4 with h4
  injection h4 with _ h4
  exact absurd h4 de
 rcases hp with rfl | rfl
 · exact Or.inl ⟨hb,_,h1,by rw[hl];exact h2,hne⟩
 · exact Or.inr ⟨hb,_,h1,by rw[hl];exact h2,hne⟩
theorem Qb.no {w w':World} {lo b:Nat} {p:Value} {l:List UInt8} {F:Nat→Prop} (h:Qb w lo b p l F) (E:Ext No w w'):Qb w' lo b p l F:=by
 obtain ⟨A,c,h1,h2,h3⟩:=h;exact ⟨A,c,h1.ext E (fun h=>h.elim),xz h2 E (fun _ _ h=>h.elim),h3⟩
section
variable (w:World) (lo b:Nat) (p:Value) (hp:Adr b p)
theorem YW (s0:Value) (hb:aB w b 81 #[.pointer none,s0]):Calls prog 112 #[.pointer (some ⟨b,0,none⟩)] w fun e w'=>e= .returned (.tuple #[])∧aB w' b 81 #[.pointer (some ⟨b,0,none⟩),s0]∧Ext (aj [some b]) w w':=by
 refine zc func112 rfl ntmps112 rfl (zR ?_);refine zl ?_;refine za rfl (aq7 u79 underlying170 j3 de rfl hb (Nat.zero_lt_succ 1) (za rfl (jQ (args:=[.pointer (some ⟨b,0,none⟩)]) (v:=.pointer (some ⟨b,0,none⟩)) RH rfl (Lib.run_noEscape _ _) (za rfl (Rc underlying170 u79 j3 rfl hb RI (zm ?_))))));refine zk (qr (cs':=#[.pointer (some ⟨b,0,none⟩),s0]) aM0 rfl rfl hb rfl rfl (Nat.le_of_ble_eq_true rfl) rfl ?_);rintro wB B2 E2;refine aN ?_;refine Yy rfl ?_;exact ⟨rfl,B2,E2⟩
theorem YX (s0:Value) (hb:aB w b 81 #[.pointer (some ⟨b,0,none⟩),s0]):Calls prog 112 #[.pointer (some ⟨b,0,none⟩)] w fun e w'=>e= .returned (.tuple #[])∧aB w' b 81 #[.pointer (some ⟨b,0,none⟩),s0]∧Ext (aj [some b]) w w':=by
 refine zc func112 rfl ntmps112 rfl (zR ?_);refine yi ?_;refine za rfl (ye u79 rfl rfl hb rfl (aN ?_));refine za rfl (Mg u79 j3 rfl rfl (zx ?_));refine Yy rfl ?_;exact ⟨rfl,hb,Ext.refl _ _⟩
include hp
theorem RJ (s0:Value) (hb:aB w b 81 #[p,s0]):Calls prog 112 #[.pointer (some ⟨b,0,none⟩)] w fun e w'=>e= .returned (.tuple #[])∧aB w' b 81 #[.pointer (some ⟨b,0,none⟩),s0]∧Ext (aj [some b]) w w':=by
 rcases hp with rfl | rfl
 · exact YW w b s0 hb
 · exact YX w b s0 hb
variable (l:List UInt8) (hl:l.length≤900000) (F:Nat→Prop) (h:Qb w lo b p l F) (hbl:lo≤b) (hF:∀q,w.heap.size≤q→F q)
include hl h hbl hF
theorem RL (x:UInt8):Calls prog 59 #[.pointer (some ⟨b,0,none⟩),.int .u8 (x.toNat:Int)] w fun e w'=>e= .returned .nilIface∧Qb w' lo b (.pointer (some ⟨b,0,none⟩)) (l++ [x]) F∧Ext (fun q=>q=b∨F q) w w':=by
 obtain ⟨A,c,hB,hO,hFb⟩:=h;have hlt:=hB.lt;refine zc func59 rfl ntmps59 rfl (yi ?_);refine za rfl (zb ai1 rfl ((RJ _ b p hp _ hB).mono ?_));rintro e w1 ⟨rfl,hB2,hE⟩;refine ⟨_,rfl,?_⟩;have hO2:=zfx hO hB de hE;have hs:=hE.size;refine yi ?_;refine za rfl (ye u46 rfl rfl hB2 rfl (aN ?_));refine za rfl (ou (cs:=#[.int .u8 (x.toNat:Int)]) u46 iL zr5 de rfl (by rw[zqk];rfl) ?_);rintro gx wI Bx E17 Gx;have O17:=xz hO2 E17 (fun _ _ h=>h.elim);have B17:=hB2.ext E17 (fun h=>h.elim);have aT3:=E17.size;refine za rfl (FP (n':=(l++ [x]).length) (xs':=Lib.byteCells (l++ [x])) u46 Rk rfl de rfl O17 rfl (FE Bx Bx.lt rfl) (by simp[Value.oneCell']) (by rw[List.length_append];rfl) (by unfold Lib.byteCells;rw[List.map_append];rfl) (by rw[List.length_append];unfold maxLen;simp;omega) (by rw[List.length_append];simp;omega) om ?_);rintro A5 c5 wJ O18 E18 N18;have au:=ru B17 O17 de E18;refine zm ?_;refine zk (qr (cs':=#[.pointer (some ⟨b,0,none⟩),.slice A5 (l++ [x]).length c5]) az8 rfl rfl au rfl rfl (Nat.le_of_ble_eq_true rfl) rfl ?_);rintro wK B19 E19;have O19:=zfx O18 au de E19;refine qd ?_;exact ⟨rfl,⟨A5,c5,B19,O19,fun q hq=>(N18 q hq).elim (hFb q) (fun h=>hF q om)⟩,(((hE.mono (Y:=fun q=>q=b∨F q) (fun q hq _=>Or.inl (pV hq))).step E17 (fun _ h=>h.elim)).step E18 (fun q hq=>Or.inl (Or.inr (hFb q (uX hq))))).step E19 (fun q hq=>Or.inl (Or.inl (pV hq)))⟩
theorem viq (s:ByteArray) (hs1:s.size≤1000) (hl0:0<l.length):Calls prog 60 #[.pointer (some ⟨b,0,none⟩),.string s] w fun e w'=>e= .returned (.tuple #[.int .i64 (s.size:Int),.nilIface])∧Qb w' lo b (.pointer (some ⟨b,0,none⟩)) (l++s.data.toList) F∧Ext (fun q=>q=b∨F q) w w':=by
 obtain ⟨A,c,hB,hO,hFb⟩:=h;have hlt:=hB.lt;have hsl:s.data.toList.length=s.size:=by rw[Array.length_toList];rfl
 refine zc func60 rfl ntmps60 rfl (qd ?_);refine za rfl (zb ai1 rfl ((RJ _ b p hp _ hB).mono ?_));rintro e w1 ⟨rfl,hB2,hE⟩;refine ⟨_,rfl,?_⟩;have hO2:=zfx hO hB de hE;have hs:=hE.size;refine yi ?_;refine za rfl (ye u46 rfl rfl hB2 rfl (aN ?_));refine za rfl (uY (n':=(l++s.data.toList).length) u46 u9 Rk rfl hO2 hl0 rfl (by rw[List.length_append,hsl]) (by rw[List.length_append,hsl];omega) om ?_);rintro A5 c5 wJ O18 E18 N18;have O18:wJ.ownsRow lo 5 1 (.slice A5 (l++s.data.toList).length c5) (l++s.data.toList).length (Lib.byteCells (l++s.data.toList)):=by
  have e:Lib.byteCells (l++s.data.toList)=Lib.byteCells l++Lib.strCells s:=by unfold Lib.byteCells Lib.strCells;rw[List.map_append]
  rw[e];exact O18
 have au:=ru hB2 hO2 de E18;refine zm ?_;refine zk (qr (cs':=#[.pointer (some ⟨b,0,none⟩),.slice A5 (l++s.data.toList).length c5]) az8 rfl rfl au rfl rfl (Nat.le_of_ble_eq_true rfl) rfl ?_);rintro wK B19 E19;have O19:=zfx O18 au de E19;refine zu ?_;refine zy ?_;refine zl ?_;exact ⟨rfl,⟨A5,c5,B19,O19,fun q hq=>(N18 q hq).elim (hFb q) (fun h=>hF q om)⟩,((hE.mono (Y:=fun q=>q=b∨F q) (fun q hq _=>Or.inl (pV hq))).step E18 (fun q hq=>Or.inl (Or.inr (hFb q (uX hq))))).step E19 (fun q hq=>Or.inl (Or.inl (pV hq)))⟩
end
end Go.Proofs.YtmnmebdmpigddaaGreatDoor
namespace Go.Proofs.YtmnmebdmpigddaaGreatDoor
open Go.RowKit Proofs.Tryz
theorem lY {P Q:Prop} (k:Q) (h:(Unit→Q)→P:=by
 intro zK;refine gr (rs:=[.cell 2 24]) (vs:=[_]) rfl ⟨⟨_,rfl,ycv u24 rfl kw H9 rfl⟩,trivial⟩ ?_;exact zK ()):P:=h fun _=>k
theorem lZ {P Q:Prop} (k:Q) (h:(Unit→Q)→P:=by
 intro zK;refine zn ?_;refine bO rfl (zb uZ rfl ((jw _ ub A2 B2 c2 d2 (HF.on E).here.1.1.2 hl' true h2).mono ?_));exact zK ()):P:=h fun _=>k
theorem Ul {P:Prop} (h:P:=by
 refine qd ?_;exact ⟨by unfold NZ;rw[h1,h2,h3,h4,ho];rfl,(LW.step E ak).toBelow⟩):P:=h
theorem Um {P:Prop} (h:P:=by
 refine yu ?_;exact ⟨by unfold NZ eqS;rw[h1,h2,h3,ho];rfl,(LW.step E ak).toBelow⟩):P:=h
theorem Un {P:Prop} (h:P:=by
 refine yu ?_;exact ⟨by unfold NZ eqS;rw[h1,h2,h3,h4,ho];rfl,(LW.step E ak).toBelow⟩):P:=h
theorem Uo {P:Prop} (h:P:=by
 refine qd ?_;exact ⟨by refine congrArg (fun z=>Ending.returned (.bool z)) ?_;unfold gg;first | (simp_all;done) | (simp_all;omega),(LW.step E ak).toBelow⟩):P:=h
theorem al1 {P:Prop} (h:P:=by
 refine qq ?_;intro vs X wq K;have XN:=K.2.1;refine zb Mj rfl ((ymz _ ua A1 B1 c1 d1).mono ?_);rintro e w2 ⟨A3,c3,rfl,hN,hb⟩;exact ⟨_,rfl,hb,⟨(A3,c3),rfl,ztv hN XN⟩⟩):P:=h
attribute [local irreducible] OW RS CW EW
section
variable (w:World) (ua ub:PV) (A1 B1 A2 B2:Option Addr) (c1 d1 c2 d2:Nat) (hx:aC w A1 ua.xs) (hl:ua.xs.length≤9223372036854775807) (ha:ua.bits<18446744073709551616) (hy:aC w A2 ub.xs) (hl':ub.xs.length≤9223372036854775807) (hb0:ub.bits<18446744073709551616)
theorem N8:Calls prog 29 #[bK ua A1 c1 B1 d1] w (aI w (.bool (gg ua.k))):=by
 refine zc func29 rfl ntmps29 rfl ?_;obtain ⟨HF,LW,ak,E⟩:=bg w;refine zi ?_;intro aG w2 aA aK aP;obtain ⟨HF,LW,E⟩:=bD HF LW E ak aA aK;refine qd ?_;refine zj 6 rfl (fun h1=>?_) (fun h1=>?_)
 ·
  replace h1:=of_decide_eq_true h1;exact Uo
 ·
  replace h1:=of_decide_eq_false h1;exact Uo
include hx hl
theorem jw (r:Bool) (hr:PV.good ua=r):Calls prog 28 #[bK ua A1 c1 B1 d1] w (aI w (.bool r)):=by
 subst hr;exact N7 w ua.k ua.yes ua.neg A1 B1 ua.xs c1 ua.bits ua.ni d1 ua.s hx hl
omit hx hl in
theorem Uq (r:Bool) (hr:gg ua.k=r):Calls prog 29 #[bK ua A1 c1 B1 d1] w (aI w (.bool r)):=by
 subst hr;exact N8 w ua A1 B1 c1 d1
omit hx hl
theorem ymz:Calls prog 33 #[bK ua A1 c1 B1 d1] w (Uj w A1 ua.cn ua.xs ua.cx):=by
 refine zc func33 rfl ntmps33 rfl (zi ?_);rintro g1 wA BX E1 G1;refine yq ?_;rintro g2 wB BY E2 G2;have KW:=BX.ext E2 (fun h=>h.elim);have fH:=E1.trans E2;refine zz ?_;refine zg rfl (fun hk=>?_) (fun hk=>?_)
 ·
  have hk1:ua.k=1:=by simpa using hk
  have e1:ua.cn=false:=by unfold PV.cn;rw[if_pos hk1]
  refine zp ?_;refine zg rfl (fun hyes=>?_) (fun hyes=>?_)
  ·
   have e2:ua.cx= [1]:=by unfold PV.cx;rw[if_pos hk1,if_pos hyes]
   refine zm ?_;refine za rfl (zb Mk rfl ((quk 1 _ de de).mono ?_));rintro e w1 ⟨A3,c3,rfl,hO,hb⟩;refine ⟨_,rfl,?_⟩;have E3:=Ext.of_below hb No;have N9:=BY.ext E3 (fun h=>h.elim);refine zk (zw kw rfl rfl N9 rfl rfl rfl ?_);rintro wC H9 E4;have hs:=fH.size;have h3:=zyq hO E4 BY.lt hs;refine zu ?_;refine lY ?_;exact ⟨A3,c3,by rw[e1,e2,←ymx];rfl,Or.inr (by rw[e2,←ymx];exact h3),((fH.trans E3).step E4 (fun q hq=>Or.inr (by have:=pV hq;have:=E1.size;omega))).toBelow⟩
  ·
   have e2:ua.cx= []:=by unfold PV.cx;rw[if_pos hk1,if_neg (by rw[hyes];decide)]
   refine zx ?_;refine zxq ?_;refine zk (zw kw rfl rfl BY rfl rfl rfl ?_);rintro wC H9 E4;refine zx ?_;refine lY ?_;exact ⟨none,0,by rw[e1,e2];rfl,Or.inr (by rw[e2];exact Yf),(fH.step E4 (fun q hq=>Or.inr (by have:=pV hq;have:=E1.size;omega))).toBelow⟩
 ·
  have hk1:ua.k≠1:=by simpa using hk
  have e1:ua.cn=ua.neg:=by unfold PV.cn;rw[if_neg hk1]
  have e2:ua.cx=ua.xs:=by unfold PV.cx;rw[if_neg hk1]
  refine BU ?_;refine zk (zw kw rfl rfl BY rfl rfl rfl ?_);rintro wC H9 E4;refine zn ?_;have E5:Ext No w wC:=fH.step E4 (fun q hq=>Or.inr (by have:=pV hq;have:=E1.size;omega));refine lY ?_;exact ⟨A1,c1,by rw[e1,e2];rfl,Or.inl ⟨rfl,e2⟩,E5.toBelow⟩
include hx hl ha hy hl' hb0
theorem Ur:Calls prog 64 #[bK ua A1 c1 B1 d1,bK ub A2 c2 B2 d2] w (aI w (.tuple #[.int .i64 (H6 ua ub),.bool (wL ua ub)])):=by
 have hcl:=PV.iy hl;have hcl':=PV.iy hl';refine zc func64 rfl ntmps64 rfl ?_;obtain ⟨HF,LW,ak,E⟩:=bg w;replace HF:=HF.and (Per.aH hx);replace HF:=HF.and (Per.aH hy);by_cases hk3:ua.k=3
 ·
  by_cases hj3:ub.k=3
  ·
   refine zi ?_;intro aG w2 aA aK aP;obtain ⟨HF,LW,E⟩:=bD HF LW E ak aA aK;refine za rfl (jz rfl ?_);intro aR w4 aF aO aT;obtain ⟨HF,LW,E⟩:=bD HF LW E ak aF aO;refine vp ?_;refine zf 12 (.bool true) rfl ((by simp[hk3]:(.bool (ua.k==3):Value)=_)) (zp ?_);refine zd 8 (.bool true) rfl (by simp[hj3]) (zp ?_);refine zh rfl ai2 rfl (rP _ ua.bits ub.bits) E fun w5 E=>(zz ?_);exact ⟨by unfold H6 wL;rw[if_pos hk3,if_pos hk3,if_pos hj3,if_pos hj3];rfl,(LW.step E ak).toBelow⟩
  ·
   refine zi ?_;intro dM w7 dG bZ dF;obtain ⟨HF,LW,E⟩:=bD HF LW E ak dG bZ;refine za rfl (jz rfl ?_);intro dO w9 bS iN su;obtain ⟨HF,LW,E⟩:=bD HF LW E ak bS iN;refine vp ?_;refine zf 12 (.bool true) rfl ((by simp[hk3]:(.bool (ua.k==3):Value)=_)) (zp ?_);refine zd 8 (.bool false) rfl (by simp[hj3]) (qd ?_);refine zd 24 (.bool true) rfl (by simp[hk3]) (zm ?_);have OY:∀q9,(aj (oa [])) q9→q9<(World.drew w9).heap.size→(No) q9:=fun k h _=>(aj.none_) k h;refine qm (No) aj.none_ [] [] (fQ [Fx.of (.pointer (some ⟨dM,4,none⟩)),
    Fx.of (.int .u64 (ua.bits:Int)),
    Fx.of (bK ub A2 c2 B2 d2),
    ⟨(Option Addr×Nat),fun (A3,c3)=>.agg #[.bool ub.cn,.slice A3 ub.cx.length c3],fun (A3,c3) b=>(lV b A2 A3 ub.xs (PV.cx ub))⟩,
    Fx.of (.tuple #[.int .i64 (yG ua.bits ub.cn ub.cx),.bool (wH ua.bits ub.cn ub.cx)]),
    Fx.of (.int .i64 (yG ua.bits ub.cn ub.cx)),
    Fx.of (.bool (wH ua.bits ub.cn ub.cx)),
    Fx.of (.int .i64 (yG ua.bits ub.cn ub.cx)),
    Fx.of (.bool (wH ua.bits ub.cn ub.cx))]) mixed rfl trivial (fun _ h=>by cases h) ?_ ?_
   · refine ⟨arm,arm,arm,?_,?_,arm,arm,arm,arm,trivial⟩
     · refine qq ?_;intro vs X wq K;have XN:=K.2.1;refine zb Mj rfl ((ymz _ ub A2 B2 c2 d2).mono ?_);rintro e w2 ⟨A3,c3,rfl,hN,hb⟩;exact ⟨_,rfl,hb,⟨(A3,c3),rfl,ztv hN XN⟩⟩
     · refine qq ?_;intro vs X wq K;have LE:=K.1;obtain ⟨⟨A3,c3⟩,e3,k3⟩:=K.dep 3 rfl rfl rfl;refine gm 31 _ rfl e3 (zb ai3 rfl ((lU _ ua.bits ha ub.cn A3 c3 ub.cx ((k3.here).nums (HF.on (E.drew.trans (LE.mono OY))).here.1.1.2) hcl').mono ?_));exact Qg
   intro vs dH LE AO AL AF AA;replace E:=E.drew.trans (LE.mono OY);obtain ⟨_,e7,k7⟩:=AL.2.2.2.2.2.2.2.1;obtain ⟨_,e8,k8⟩:=AL.2.2.2.2.2.2.2.2.1;refine ja (τ:=[(2,_),(3,_),(4,.int .i64 (yG ua.bits ub.cn ub.cx)),(5,.bool (wH ua.bits ub.cn ub.cx))]) ⟨rfl,rfl,congrArg some e7,congrArg some e8,trivial⟩ ?_;clear AL AF AA LE AO OY e7 e8 k7 k8;refine zu ?_;exact ⟨by unfold H6 wL;rw[if_pos hk3,if_pos hk3,if_neg hj3,if_neg hj3];rfl,(LW.step E ak).toBelow⟩
 ·
  refine zi ?_;intro aVq eG aQ8 aQ9 aVz;obtain ⟨HF,LW,E⟩:=bD HF LW E ak aQ8 aQ9;refine za rfl (jz rfl ?_);intro eT dU iA eU dh;obtain ⟨HF,LW,E⟩:=bD HF LW E ak iA eU;refine vp ?_;refine zf 12 (.bool false) rfl ((by simp[hk3]:(.bool (ua.k==3):Value)=_)) (oh ?_);refine zd 24 (.bool false) rfl (by simp[hk3]) ?_;by_cases hj3:ub.k=3
  ·
   refine qd ?_;refine zd 35 (.bool true) rfl (by simp[hj3]) (zm ?_);have OY:∀q9,(aj (oa [])) q9→q9<(World.drew dU).heap.size→(No) q9:=fun k h _=>(aj.none_) k h;refine qm (No) aj.none_ [] [] (fQ [Fx.of (.pointer (some ⟨eT,4,none⟩)),
    Fx.of (.int .u64 (ub.bits:Int)),
    Fx.of (bK ua A1 c1 B1 d1),
    ⟨(Option Addr×Nat),fun (A3,c3)=>.agg #[.bool ua.cn,.slice A3 ua.cx.length c3],fun (A3,c3) b=>(lV b A1 A3 ua.xs (PV.cx ua))⟩,
    Fx.of (.tuple #[.int .i64 (yG ub.bits ua.cn ua.cx),.bool (wH ub.bits ua.cn ua.cx)]),
    Fx.of (.tuple #[.int .i64 (yG ub.bits ua.cn ua.cx),.bool (wH ub.bits ua.cn ua.cx)]),
    Fx.of (.int .i64 (yG ub.bits ua.cn ua.cx)),
    Fx.of (.bool (wH ub.bits ua.cn ua.cx)),
    Fx.of (.int .i64 (yG ub.bits ua.cn ua.cx)),
    Fx.of (.bool (wH ub.bits ua.cn ua.cx))]) mixed rfl trivial (fun _ h=>by cases h) ?_ ?_
   · refine ⟨arm,arm,arm,?_,?_,arm,arm,arm,arm,arm,trivial⟩
     · exact al1
     · refine qq ?_;intro vs X wq K;have LE:=K.1;obtain ⟨⟨A3,c3⟩,e3,k3⟩:=K.dep 3 rfl rfl rfl;refine gm 43 _ rfl e3 (zb ai3 rfl ((lU _ ub.bits hb0 ua.cn A3 c3 ua.cx ((k3.here).nums (HF.on (E.drew.trans (LE.mono OY))).here.1.1.1.2) hcl).mono ?_));exact Qg
   intro vs fG LE AO AL AF AA;replace E:=E.drew.trans (LE.mono OY);obtain ⟨_,e8,k8⟩:=AL.2.2.2.2.2.2.2.2.1;obtain ⟨_,e9,k9⟩:=AL.2.2.2.2.2.2.2.2.2.1;refine ja (τ:=[(2,_),(3,_),(4,_),(5,_),(6,.int .i64 (yG ub.bits ua.cn ua.cx)),(7,.bool (wH ub.bits ua.cn ua.cx))]) ⟨rfl,rfl,rfl,rfl,congrArg some e8,congrArg some e9,trivial⟩ ?_;clear AL AF AA LE AO OY e8 e9 k8 k9;have hcv:=ab4 ub.bits ua.cn ua.cx;refine zx ?_;refine zjk ?_;refine qd ?_;exact ⟨by unfold H6 wL;rw[if_neg hk3,if_neg hk3,if_pos hj3,if_pos hj3];rfl,(LW.step E ak).toBelow⟩
  ·
   refine qd ?_;refine zd 35 (.bool false) rfl (by simp[hj3]) (zu ?_);have OY:∀q9,(aj (oa [])) q9→q9<(World.drew dU).heap.size→(No) q9:=fun k h _=>(aj.none_) k h;refine qm (No) aj.none_ [] [] (fQ [Fx.of (bK ua A1 c1 B1 d1),
    ⟨(Option Addr×Nat),fun (A3,c3)=>.agg #[.bool ua.cn,.slice A3 ua.cx.length c3],fun (A3,c3) b=>(lV b A1 A3 ua.xs (PV.cx ua))⟩,
    Fx.of (bK ub A2 c2 B2 d2),
    ⟨(Option Addr×Nat),fun (A4,c4)=>.agg #[.bool ub.cn,.slice A4 ub.cx.length c4],fun (A4,c4) b=>(lV b A2 A4 ub.xs (PV.cx ub))⟩,
    Fx.of (.int .i64 (AY (zr ua.cn ua.cx&&zr ub.cn ub.cx) (num ua.cn ua.cx) (num ub.cn ub.cx))),
    Fx.of (.int .i64 (AY (zr ua.cn ua.cx&&zr ub.cn ub.cx) (num ua.cn ua.cx) (num ub.cn ub.cx))),
    Fx.of (.bool true)]) mixed rfl trivial (fun _ h=>by cases h) ?_ ?_
   · refine ⟨arm,?_,arm,?_,?_,arm,arm,trivial⟩
     · exact al1
     · refine qq ?_;intro vs X wq K;have XN:=K.2.1;refine zb Mj rfl ((ymz _ ub A2 B2 c2 d2).mono ?_);rintro e w2 ⟨A4,c4,rfl,hN,hb⟩;exact ⟨_,rfl,hb,⟨(A4,c4),rfl,ztv hN XN⟩⟩
     · intro vs X wq K;have LE:=K.1;obtain ⟨⟨A3,c3⟩,e1,k1⟩:=K.dep 1 rfl rfl rfl;refine gm 51 _ rfl e1 ?_;obtain ⟨⟨A4,c4⟩,e3,k3⟩:=K.dep 3 rfl rfl rfl;refine gm 53 _ rfl e3 (zb aA4 rfl ((Ko A3 A4 c3 c4 ua.cx ub.cx _ ua.cn ub.cn ((k1.here).nums (HF.on (E.drew.trans (LE.mono OY))).here.1.1.1.2) ((k3.here).nums (HF.on (E.drew.trans (LE.mono OY))).here.1.1.2) hcl hcl').mono ?_));exact Qg
   intro vs w16 LE AO AL AF AA;replace E:=E.drew.trans (LE.mono OY);obtain ⟨_,e5,k5⟩:=AL.2.2.2.2.2.1;obtain ⟨_,e6,k6⟩:=AL.2.2.2.2.2.2.1;refine ja (τ:=[(4,.int .i64 (AY (zr ua.cn ua.cx&&zr ub.cn ub.cx) (num ua.cn ua.cx) (num ub.cn ub.cx))),(5,.bool true)]) ⟨congrArg some e5,congrArg some e6,trivial⟩ ?_;clear AL AF AA LE AO OY e5 e6 k5 k6;refine zn ?_;exact ⟨by unfold H6 wL;rw[if_neg hk3,if_neg hk3,if_neg hj3,if_neg hj3];rfl,(LW.step E ak).toBelow⟩
theorem au8 (h1:ua.good=false):Calls prog 26 #[bK ua A1 c1 B1 d1,bK ub A2 c2 B2 d2] w (aI w (.bool (NZ ua ub))):=by
 have _:=hx;have _:=hl;have _:=ha;have _:=hy;have _:=hl';have _:=hb0;refine zc func26 rfl ntmps26 rfl ?_;obtain ⟨HF,LW,ak,E⟩:=bg w;replace HF:=HF.and (Per.aH hx);replace HF:=HF.and (Per.aH hy);refine zi ?_;intro aG w2 aA aK aP;obtain ⟨HF,LW,E⟩:=bD HF LW E ak aA aK;refine za rfl (jz rfl ?_);intro aR w4 aF aO aT;obtain ⟨HF,LW,E⟩:=bD HF LW E ak aF aO;refine zp ?_;refine zh rfl uZ rfl (jw _ ua A1 B1 c1 d1 (HF.on E).here.1.1.1.2 hl false h1) E fun w5 E=>(Mq ?_);exact ⟨by unfold NZ;rw[h1];rfl,(LW.step E ak).toBelow⟩
theorem au9 (h1:ua.good=true) (h2:ub.good=false):Calls prog 26 #[bK ua A1 c1 B1 d1,bK ub A2 c2 B2 d2] w (aI w (.bool (NZ ua ub))):=by
 have _:=hx;have _:=hl;have _:=ha;have _:=hy;have _:=hl';have _:=hb0;refine zc func26 rfl ntmps26 rfl ?_;obtain ⟨HF,LW,ak,E⟩:=bg w;replace HF:=HF.and (Per.aH hx);replace HF:=HF.and (Per.aH hy);refine zi ?_;intro aG w2 aA aK aP;obtain ⟨HF,LW,E⟩:=bD HF LW E ak aA aK;refine za rfl (jz rfl ?_);intro aR w4 aF aO aT;obtain ⟨HF,LW,E⟩:=bD HF LW E ak aF aO;refine zp ?_;refine zh rfl uZ rfl (jw _ ua A1 B1 c1 d1 (HF.on E).here.1.1.1.2 hl true h1) E fun w5 E=>(zn ?_);refine bO rfl (zb uZ rfl ((jw _ ub A2 B2 c2 d2 (HF.on E).here.1.1.2 hl' false h2).mono ?_));rintro e w6 ⟨rfl,hb⟩;refine ⟨_,rfl,?_⟩;replace E:=bT E hb;refine jt ?_;exact ⟨by unfold NZ;rw[h1,h2];rfl,(LW.step E ak).toBelow⟩
theorem auq (h1:ua.good=true) (h2:ub.good=true) (h3:gg ua.k=true) (h4:gg ub.k=true):Calls prog 26 #[bK ua A1 c1 B1 d1,bK ub A2 c2 B2 d2] w (aI w (.bool (NZ ua ub))):=by
 have _:=hx;have _:=hl;have _:=ha;have _:=hy;have _:=hl';have _:=hb0;refine zc func26 rfl ntmps26 rfl ?_;obtain ⟨HF,LW,ak,E⟩:=bg w;replace HF:=HF.and (Per.aH hx);replace HF:=HF.and (Per.aH hy);refine zi ?_;intro aG w2 aA aK aP;obtain ⟨HF,LW,E⟩:=bD HF LW E ak aA aK;refine za rfl (jz rfl ?_);intro aR w4 aF aO aT;obtain ⟨HF,LW,E⟩:=bD HF LW E ak aF aO;refine zp ?_;refine zh rfl uZ rfl (jw _ ua A1 B1 c1 d1 (HF.on E).here.1.1.1.2 hl true h1) E fun w5 E=>(lZ ?_);rintro e w6 ⟨rfl,hb⟩;refine ⟨_,rfl,?_⟩;replace E:=bT E hb;refine yu ?_;refine zh rfl jW rfl (Uq _ ua A1 B1 c1 d1 true h3) E fun w7 E=>(zm ?_);refine bO rfl (zb jW rfl ((Uq _ ub A2 B2 c2 d2 true h4).mono ?_));rintro e w8 ⟨rfl,hb⟩;refine ⟨_,rfl,?_⟩;replace E:=bT E hb;refine yi ?_;refine zh rfl aN8 rfl (Ur _ ua ub A1 B1 A2 B2 c1 d1 c2 d2 (HF.on E).here.1.1.1.2 hl ha (HF.on E).here.1.1.2 hl' hb0) E fun w9 E=>(yu ?_);by_cases ho:wL ua ub=true
 ·
  refine zf 28 (.bool true) rfl (by rw[ho]<;>rfl) ?_;exact Ul
 ·
  have ho:=Bool.eq_false_iff.2 ho;refine zf 28 (.bool false) rfl (by rw[ho]<;>rfl) ?_;exact Ul
theorem auz (h1:ua.good=true) (h2:ub.good=true) (h3:gg ua.k=false):Calls prog 26 #[bK ua A1 c1 B1 d1,bK ub A2 c2 B2 d2] w (aI w (.bool (NZ ua ub))):=by
 have _:=hx;have _:=hl;have _:=ha;have _:=hy;have _:=hl';have _:=hb0;refine zc func26 rfl ntmps26 rfl ?_;obtain ⟨HF,LW,ak,E⟩:=bg w;replace HF:=HF.and (Per.aH hx);replace HF:=HF.and (Per.aH hy);refine zi ?_;intro aG w2 aA aK aP;obtain ⟨HF,LW,E⟩:=bD HF LW E ak aA aK;refine za rfl (jz rfl ?_);intro aR w4 aF aO aT;obtain ⟨HF,LW,E⟩:=bD HF LW E ak aF aO;refine zp ?_;refine zh rfl uZ rfl (jw _ ua A1 B1 c1 d1 (HF.on E).here.1.1.1.2 hl true h1) E fun w5 E=>(lZ ?_);rintro e w6 ⟨rfl,hb⟩;refine ⟨_,rfl,?_⟩;replace E:=bT E hb;refine yu ?_;refine zh rfl jW rfl (Uq _ ua A1 B1 c1 d1 false h3) E fun w7 E=>(Mq ?_);by_cases ho:(ua.k==ub.k)=true
 ·
  refine zf 37 (.bool true) rfl (by rw[ho]<;>rfl) ?_;exact Um
 ·
  have ho:=Bool.eq_false_iff.2 ho;refine zf 37 (.bool false) rfl (by rw[ho]<;>rfl) ?_;exact Um
theorem auj (h1:ua.good=true) (h2:ub.good=true) (h3:gg ua.k=true) (h4:gg ub.k=false):Calls prog 26 #[bK ua A1 c1 B1 d1,bK ub A2 c2 B2 d2] w (aI w (.bool (NZ ua ub))):=by
 have _:=hx;have _:=hl;have _:=ha;have _:=hy;have _:=hl';have _:=hb0;refine zc func26 rfl ntmps26 rfl ?_;obtain ⟨HF,LW,ak,E⟩:=bg w;replace HF:=HF.and (Per.aH hx);replace HF:=HF.and (Per.aH hy);refine zi ?_;intro aG w2 aA aK aP;obtain ⟨HF,LW,E⟩:=bD HF LW E ak aA aK;refine za rfl (jz rfl ?_);intro aR w4 aF aO aT;obtain ⟨HF,LW,E⟩:=bD HF LW E ak aF aO;refine zp ?_;refine zh rfl uZ rfl (jw _ ua A1 B1 c1 d1 (HF.on E).here.1.1.1.2 hl true h1) E fun w5 E=>(lZ ?_);rintro e w6 ⟨rfl,hb⟩;refine ⟨_,rfl,?_⟩;replace E:=bT E hb;refine yu ?_;refine zh rfl jW rfl (Uq _ ua A1 B1 c1 d1 true h3) E fun w7 E=>(zm ?_);refine bO rfl (zb jW rfl ((Uq _ ub A2 B2 c2 d2 false h4).mono ?_));rintro e w8 ⟨rfl,hb⟩;refine ⟨_,rfl,?_⟩;replace E:=bT E hb;refine jm ?_;by_cases ho:(ua.k==ub.k)=true
 ·
  refine zf 37 (.bool true) rfl (by rw[ho]<;>rfl) ?_;exact Un
 ·
  have ho:=Bool.eq_false_iff.2 ho;refine zf 37 (.bool false) rfl (by rw[ho]<;>rfl) ?_;exact Un
theorem Us:Calls prog 26 #[bK ua A1 c1 B1 d1,bK ub A2 c2 B2 d2] w (aI w (.bool (NZ ua ub))):=by
 cases h1:ua.good
 · exact au8 w ua ub A1 B1 A2 B2 c1 d1 c2 d2 hx hl ha hy hl' hb0 h1
 cases h2:ub.good
 · exact au9 w ua ub A1 B1 A2 B2 c1 d1 c2 d2 hx hl ha hy hl' hb0 h1 h2
 cases h3:gg ua.k
 · exact auz w ua ub A1 B1 A2 B2 c1 d1 c2 d2 hx hl ha hy hl' hb0 h1 h2 h3
 cases h4:gg ub.k
 · exact auj w ua ub A1 B1 A2 B2 c1 d1 c2 d2 hx hl ha hy hl' hb0 h1 h2 h3 h4
 · exact auq w ua ub A1 B1 A2 B2 c1 d1 c2 d2 hx hl ha hy hl' hb0 h1 h2 h3 h4
end
end Go.Proofs.YtmnmebdmpigddaaGreatDoor
namespace Go.Proofs.YtmnmebdmpigddaaGreatDoor
open Go.RowKit Proofs.Tryz
theorem Ca {P Q:Prop} (k:Q) (h:(Unit→Q)→P:=by
 intro zK;refine zx ?_;refine za rfl (gf rfl rfl (aI1 x) (za rfl (gu (j:=x.toNat%16) u9 rfl rfl rfl (Ut om) ?_)));exact zK ()):P:=h fun _=>k
theorem Cb {P Q:Prop} (k:Q) (h:(Unit→Q)→P:=by
 intro zK;refine zl ?_;refine za rfl (kd (j:=i) u46 iL rfl rfl rfl hil (za rfl (vq u5 rfl rfl (hcell _ XI) ?_)));exact zK ()):P:=h fun _=>k
theorem Cc {P Q:Prop} (k:Q) (h:(Unit→Q)→P:=by
 intro zK;refine zu ?_;refine za rfl (jh rfl rfl de (aQq x) (za rfl (gu (j:=x.toNat/16) u9 rfl rfl rfl (Ut (by have:=x.toNat_lt;omega)) ?_)));exact zK ()):P:=h fun _=>k
attribute [local irreducible] OW RS CW EW
def aQz:List UInt8:=[48,49,50,51,52,53,54,55,56,57,97,98,99,100,101,102]
def Fa (n:Nat):UInt8:=aQz.getD n 0
def qb (x:UInt8):List UInt8:=
 if x.toNat=10 then [92,110] else if x.toNat=9 then [92,116] else if x.toNat=92 then [92,x] else if x.toNat=39 then [92,x]
 else if x.toNat<32 then [92,120,Fa (x.toNat/16),Fa (x.toNat%16)] else if 126<x.toNat then [92,120,Fa (x.toNat/16),Fa (x.toNat%16)] else [x]
def xq (l:List UInt8):List UInt8:=39::l.flatMap qb
theorem av0 (x:UInt8):(qb x).length≤4:=by unfold qb;(repeat' split)<;>simp
theorem sD:∀(l:List UInt8),(xq l).length≤1+4*l.length
 | []=>de
 | x::l=>by
  have h:=sD l;have h2:=av0 x;unfold xq at h ⊢;simp only[List.length_cons,List.flatMap_cons,List.length_append] at h ⊢
  omega
theorem oz {l:List UInt8} {i:Nat} {x:UInt8} (h:l[i]? =some x):xq (l.take (i+1))=xq (l.take i)++qb x:=by
 unfold xq;obtain ⟨hi,he⟩:=List.getElem?_eq_some_iff.1 h;rw[List.take_succ_eq_append_getElem hi,List.flatMap_append,he];simp
theorem aQq (x:UInt8):(x.toNat:Int).fdiv (2^(min (4:Int).toNat IntKind.u8.bits))=((x.toNat/16:Nat):Int):=by
 have key:∀n:Fin 256,(n.val:Int).fdiv (2^(min (4:Int).toNat IntKind.u8.bits))=((n.val/16:Nat):Int):=by decide +kernel
 exact key ⟨x.toNat,x.toNat_lt⟩
theorem aI1 (x:UInt8):IntKind.u8.wrap (BitVec.ofInt IntKind.u8.bits (x.toNat:Int) &&& BitVec.ofInt IntKind.u8.bits 15).toNat=((x.toNat%16:Nat):Int):=by
 have key:∀n:Fin 256,IntKind.u8.wrap (BitVec.ofInt IntKind.u8.bits (n.val:Int) &&& BitVec.ofInt IntKind.u8.bits 15).toNat=((n.val%16:Nat):Int):=by decide +kernel
 exact key ⟨x.toNat,x.toNat_lt⟩
theorem Ut {j:Nat} (h:j<16):(⟨#[48,49,50,51,52,53,54,55,56,57,97,98,99,100,101,102]⟩:ByteArray)[j]? =some (Fa j):=by
 have key:∀n:Fin 16,(#[48,49,50,51,52,53,54,55,56,57,97,98,99,100,101,102]:Array UInt8)[n.val]? =some (Fa n.val):=by decide +kernel
 exact key ⟨j,h⟩
section
variable (w:World) (ua:PV) (A1 B1:Option Addr) (c1 d1:Nat) (hx:aC w A1 ua.xs) (hl:ua.xs.length≤9223372036854775807) (g1:ua.good=true) (h4:ua.k=4) (hsl:ua.s.size≤20000)
include hx hl g1 h4 hsl
theorem Uu:Calls prog 23 #[bK ua A1 c1 B1 d1] w (aI w (.string ⟨(xq ua.s.data.toList++ [39]).toArray⟩)):=by
 have hsn:ua.s.data.toList.length=ua.s.size:=by rw[Array.length_toList];rfl
 obtain ⟨lo,hlo⟩:∃lo,lo=w.heap.size:=⟨_,rfl⟩;refine zc func23 rfl ntmps23 rfl (zi ?_);rintro gv wA BX E1 G1;refine zz ?_;refine zf 9 (.bool false) rfl (by rw[h4];rfl) (bO rfl (ymk (cs:=#[.int .i64 ua.k,.bool ua.yes,.bool ua.neg,.slice A1 ua.xs.length c1,.int .u64 (ua.bits:Int),.string ua.s,.slice B1 ua.ni d1]) u28 rfl ku rfl rfl (fun j v hj↦by have h:=(BX.cell j).trans hj;rw[Nat.zero_add];exact h) (bO rfl (zb uZ rfl ((jw _ ua A1 B1 c1 d1 (Per.aH hx _ E1) hl true g1).mono ?_)))));rintro e w1 ⟨rfl,hb⟩;refine ⟨_,rfl,?_⟩;have E2:=E1.trans (Ext.of_below hb No);have BX2:=BX.ext (Ext.of_below hb No) (fun h=>h.elim);refine qd ?_;refine za rfl (zbx aM1 ?_);rintro gb wB BB E3 G3;have E4:=E2.trans E3;have BX3:=BX2.ext E3 (fun h=>h.elim);have hs2:=E2.size;have hgb:lo≤gb:=om;obtain ⟨hi,hhi⟩:∃hi,hi=wB.heap.size:=⟨_,rfl⟩;have hs4:=E4.size;have hlh:lo≤hi:=om;refine zx ?_;refine za rfl (zb jX rfl ((RL _ lo gb (.pointer none) (Or.inl rfl) [] de (fun q=>hi≤q) ⟨none,0,BB,Yz,fun q hq=>(by cases hq)⟩ hgb (fun q hq=>by show hi≤q;omega) 39).mono ?_));rintro e w2 ⟨rfl,M0,X0⟩;refine ⟨_,rfl,?_⟩;have T0:Ext (fun q=>lo≤q) w w2:=(E4.noL lo).step X0 (fun q hq=>Or.inl (hq.elim (fun h=>by show lo≤q;omega) (fun h=>by have h:hi≤q:=h;show lo≤q;omega)));obtain ⟨A3,c3,MB,MO,MF⟩:=M0;have hvb:gv<gb:=by have:=BX2.lt;omega
 have hbh:gb<hi:=by have:=BB.lt;omega
 have BX4:=BX3.ext X0 (fun hq=>hq.elim (fun h=>om) (fun h=>by have h:hi≤gv:=h;omega));refine zp ?_;refine za rfl (vbq u9 u46 u5 rfl rfl rfl ?_);rintro gx cx wC RX E5 GX;have T1:=T0.step E5 (fun _ h=>h.elim);have hsX:=X0.size;have M1:Qb wC lo gb (.pointer (some ⟨gb,0,none⟩)) (xq (ua.s.data.toList.take 0)) (fun q=>hi≤q∧(0<ua.s.size→q≠gx)):=Qb.no ⟨A3,c3,MB,MO,fun q hq=>⟨MF q hq,fun _ e=>by have:=jx MO q hq;omega⟩⟩ E5;have aQx:0<ua.s.size→gx<wC.heap.size:=fun h0=>World.block_lt_of_cell? _ _ (RX 0 _ (by rw[List.getElem?_map,List.getElem?_eq_getElem (show 0<ua.s.data.toList.length from om)];rfl));have KX:∀ {z},Ext (fun q=>q=gb∨(hi≤q∧(0<ua.s.size→q≠gx))) wC z→ ∀q,z.heap.size≤q→hi≤q∧(0<ua.s.size→q≠gx):=fun h q hq=>by
  have h1:=h.size;have h2:=E5.size;exact ⟨om,fun h0 e=>by have:=aQx h0;omega⟩
 refine zu ?_;refine yw (ι:=Nat) (fun i=>[(3,.pointer (some ⟨gb,0,none⟩)),(19,.slice (some ⟨gx,0,none⟩) ua.s.size cx),(20,.int .i64 (ua.s.size:Int)),(21,.int .i64 ((i:Nat):Int))]) (fun i w'=>i≤ua.s.size∧Ext (fun q=>q=gb∨(hi≤q∧(0<ua.s.size→q≠gx))) wC w'∧Qb w' lo gb (.pointer (some ⟨gb,0,none⟩)) (xq (ua.s.data.toList.take i)) (fun q=>hi≤q∧(0<ua.s.size→q≠gx))) (fun i=>ua.s.size-i) 0 ⟨rfl,rfl,rfl,rfl,trivial⟩ (⟨Nat.zero_le _,Ext.refl _ _,M1⟩) ?_;rintro i w4 ⟨hin,XI,MI⟩;have hML:=sD (ua.s.data.toList.take i);rw[List.length_take] at hML;have hM0:0<(xq (ua.s.data.toList.take i)).length:=Nat.zero_lt_succ _;refine zl ?_;refine zg rfl (fun hic=>?_) (fun hic=>?_)
 ·
  have hic:=of_decide_eq_true hic;have hil:i<ua.s.size:=om;obtain ⟨x,hxl⟩:∃x,ua.s.data.toList[i]? =some x:=⟨_,List.getElem?_eq_getElem om⟩;have hcell:∀z,Ext (fun q=>q=gb∨(hi≤q∧(0<ua.s.size→q≠gx))) wC z→z.cell? ⟨gx,0+i,none⟩=some (.int .u8 (x.toNat:Int)):=fun z hz=>by
   have h1:=RX i (.int .u8 (x.toNat:Int)) (by rw[List.getElem?_map,hxl];rfl);rw[Nat.zero_add];refine (hz.cell (World.block_lt_of_cell? _ _ h1) (fun hq=>hq.elim (fun h=>?_) (fun h=>h.2 om rfl))).trans h1;have h:gx=gb:=h;have:=hsX;omega
  refine Cb ?_;refine yu ?_;by_cases h10:x.toNat=10
  ·
   refine zd 27 (.bool true) rfl (by rw[h10];rfl) (zm ?_);refine za rfl (zb YP rfl ((viq _ lo gb _ (Or.inr rfl) (xq (ua.s.data.toList.take i)) (by first | omega | (simp only[List.length_append,List.length_cons,List.length_nil];omega)) (fun q=>hi≤q∧(0<ua.s.size→q≠gx)) MI hgb (KX XI) ⟨#[92,110]⟩ de (by first | omega | (simp only[List.length_append];omega))).mono ?_));rintro e w5 ⟨rfl,M1,X1⟩;refine ⟨_,rfl,?_⟩;have T1:=XI.step X1 (fun q hq=>Or.inl hq);refine je ?_;exact zo (i+1) (by show ua.s.size-(i+1)<ua.s.size-i;omega) ⟨rfl,rfl,rfl,rfl,trivial⟩ (⟨om,T1,by rw[oz hxl];rw[show qb x= [92,110] from (by unfold qb;rw[if_pos h10])];first | exact M1 | (have h:=M1;simp only[List.append_assoc] at h;exact h)⟩)
  ·
   refine zd 27 (.bool false) rfl (congrArg Value.bool (beq_eq_false_iff_ne.2 (fun h=>h10 om))) (yi ?_);by_cases h9:x.toNat=9
   ·
    refine zd 31 (.bool true) rfl (by rw[h9];rfl) (zm ?_);refine za rfl (zb YP rfl ((viq _ lo gb _ (Or.inr rfl) (xq (ua.s.data.toList.take i)) (by first | omega | (simp only[List.length_append,List.length_cons,List.length_nil];omega)) (fun q=>hi≤q∧(0<ua.s.size→q≠gx)) MI hgb (KX XI) ⟨#[92,116]⟩ de (by first | omega | (simp only[List.length_append];omega))).mono ?_));rintro e w6 ⟨rfl,M2,X2⟩;refine ⟨_,rfl,?_⟩;have T2:=XI.step X2 (fun q hq=>Or.inl hq);refine je ?_;exact zo (i+1) (by show ua.s.size-(i+1)<ua.s.size-i;omega) ⟨rfl,rfl,rfl,rfl,trivial⟩ (⟨om,T2,by rw[oz hxl];rw[show qb x= [92,116] from (by unfold qb;rw[if_neg h10,if_pos h9])];first | exact M2 | (have h:=M2;simp only[List.append_assoc] at h;exact h)⟩)
   ·
    refine zd 31 (.bool false) rfl (congrArg Value.bool (beq_eq_false_iff_ne.2 (fun h=>h9 om))) (zl ?_);by_cases h92:x.toNat=92
    ·
     refine zf 38 (.bool true) rfl (by rw[h92];rfl) (qd ?_);refine za rfl (zb jX rfl ((RL _ lo gb _ (Or.inr rfl) (xq (ua.s.data.toList.take i)) (by first | omega | (simp only[List.length_append,List.length_cons,List.length_nil];omega)) (fun q=>hi≤q∧(0<ua.s.size→q≠gx)) MI hgb (KX XI) 92).mono ?_));rintro e w7 ⟨rfl,M3,X3⟩;refine ⟨_,rfl,?_⟩;have T3:=XI.step X3 (fun q hq=>Or.inl hq);refine zx ?_;refine za rfl (zb jX rfl ((RL _ lo gb _ (Or.inr rfl) ((xq (ua.s.data.toList.take i))++ [92]) (by first | omega | (simp only[List.length_append,List.length_cons,List.length_nil];omega)) (fun q=>hi≤q∧(0<ua.s.size→q≠gx)) M3 hgb (KX T3) x).mono ?_));rintro e w8 ⟨rfl,M4,X4⟩;refine ⟨_,rfl,?_⟩;have T4:=T3.step X4 (fun q hq=>Or.inl hq);refine je ?_;exact zo (i+1) (by show ua.s.size-(i+1)<ua.s.size-i;omega) ⟨rfl,rfl,rfl,rfl,trivial⟩ (⟨om,T4,by rw[oz hxl];rw[show qb x= [92,x] from (by unfold qb;rw[if_neg h10,if_neg h9,if_pos h92])];first | exact M4 | (have h:=M4;simp only[List.append_assoc] at h;exact h)⟩)
    ·
     refine zf 38 (.bool false) rfl (congrArg Value.bool (beq_eq_false_iff_ne.2 (fun h=>h92 om))) (zl ?_);by_cases h39:x.toNat=39
     ·
      refine zd 35 (.bool true) rfl (by rw[h39];rfl) (zn ?_);refine za rfl (zb jX rfl ((RL _ lo gb _ (Or.inr rfl) (xq (ua.s.data.toList.take i)) (by first | omega | (simp only[List.length_append,List.length_cons,List.length_nil];omega)) (fun q=>hi≤q∧(0<ua.s.size→q≠gx)) MI hgb (KX XI) 92).mono ?_));rintro e w9 ⟨rfl,M5,X5⟩;refine ⟨_,rfl,?_⟩;have T5:=XI.step X5 (fun q hq=>Or.inl hq);refine zx ?_;refine za rfl (zb jX rfl ((RL _ lo gb _ (Or.inr rfl) ((xq (ua.s.data.toList.take i))++ [92]) (by first | omega | (simp only[List.length_append,List.length_cons,List.length_nil];omega)) (fun q=>hi≤q∧(0<ua.s.size→q≠gx)) M5 hgb (KX T5) x).mono ?_));rintro e dH ⟨rfl,M6,X6⟩;refine ⟨_,rfl,?_⟩;have T6:=T5.step X6 (fun q hq=>Or.inl hq);refine je ?_;exact zo (i+1) (by show ua.s.size-(i+1)<ua.s.size-i;omega) ⟨rfl,rfl,rfl,rfl,trivial⟩ (⟨om,T6,by rw[oz hxl];rw[show qb x= [92,x] from (by unfold qb;rw[if_neg h10,if_neg h9,if_neg h92,if_pos h39])];first | exact M6 | (have h:=M6;simp only[List.append_assoc] at h;exact h)⟩)
     ·
      refine zd 35 (.bool false) rfl (congrArg Value.bool (beq_eq_false_iff_ne.2 (fun h=>h39 om))) (zl ?_);by_cases h32:x.toNat<32
      ·
       refine zf 48 (.bool true) rfl (congrArg Value.bool (decide_eq_true (show (x.toNat:Int)<32 from om))) (qd ?_);refine za rfl (zb YP rfl ((viq _ lo gb _ (Or.inr rfl) (xq (ua.s.data.toList.take i)) (by first | omega | (simp only[List.length_append,List.length_cons,List.length_nil];omega)) (fun q=>hi≤q∧(0<ua.s.size→q≠gx)) MI hgb (KX XI) ⟨#[92,120]⟩ de (by first | omega | (simp only[List.length_append];omega))).mono ?_));rintro e dQ ⟨rfl,M7,X7⟩;refine ⟨_,rfl,?_⟩;have T7:=XI.step X7 (fun q hq=>Or.inl hq);refine Cc ?_;refine za rfl (zb jX rfl ((RL _ lo gb _ (Or.inr rfl) ((xq (ua.s.data.toList.take i))++ [92,120]) (by first | omega | (simp only[List.length_append,List.length_cons,List.length_nil];omega)) (fun q=>hi≤q∧(0<ua.s.size→q≠gx)) M7 hgb (KX T7) (Fa (x.toNat/16))).mono ?_));rintro e eG ⟨rfl,M8,X8⟩;refine ⟨_,rfl,?_⟩;have T8:=T7.step X8 (fun q hq=>Or.inl hq);refine Ca ?_;refine za rfl (zb jX rfl ((RL _ lo gb _ (Or.inr rfl) (((xq (ua.s.data.toList.take i))++ [92,120])++ [(Fa (x.toNat/16))]) (by first | omega | (simp only[List.length_append,List.length_cons,List.length_nil];omega)) (fun q=>hi≤q∧(0<ua.s.size→q≠gx)) M8 hgb (KX T8) (Fa (x.toNat%16))).mono ?_));rintro e yD ⟨rfl,M9,X9⟩;refine ⟨_,rfl,?_⟩;have T9:=T8.step X9 (fun q hq=>Or.inl hq);refine je ?_;exact zo (i+1) (by show ua.s.size-(i+1)<ua.s.size-i;omega) ⟨rfl,rfl,rfl,rfl,trivial⟩ (⟨om,T9,by rw[oz hxl];rw[show qb x= [92,120,Fa (x.toNat/16),Fa (x.toNat%16)] from (by unfold qb;rw[if_neg h10,if_neg h9,if_neg h92,if_neg h39,if_pos h32])];first | exact M9 | (have h:=M9;simp only[List.append_assoc] at h;exact h)⟩)
      ·
       refine zf 48 (.bool false) rfl (congrArg Value.bool (decide_eq_false (show ¬(x.toNat:Int)<32 from om))) (zl ?_);by_cases aI2:126<x.toNat
       ·
        refine zd 45 (.bool true) rfl (congrArg Value.bool (decide_eq_true (show (126:Int)<(x.toNat:Int) from om))) (zn ?_);refine za rfl (zb YP rfl ((viq _ lo gb _ (Or.inr rfl) (xq (ua.s.data.toList.take i)) (by first | omega | (simp only[List.length_append,List.length_cons,List.length_nil];omega)) (fun q=>hi≤q∧(0<ua.s.size→q≠gx)) MI hgb (KX XI) ⟨#[92,120]⟩ de (by first | omega | (simp only[List.length_append];omega))).mono ?_));rintro e dU ⟨rfl,gP,X10⟩;refine ⟨_,rfl,?_⟩;have T10:=XI.step X10 (fun q hq=>Or.inl hq);refine Cc ?_;refine za rfl (zb jX rfl ((RL _ lo gb _ (Or.inr rfl) ((xq (ua.s.data.toList.take i))++ [92,120]) (by first | omega | (simp only[List.length_append,List.length_cons,List.length_nil];omega)) (fun q=>hi≤q∧(0<ua.s.size→q≠gx)) gP hgb (KX T10) (Fa (x.toNat/16))).mono ?_));rintro e fG ⟨rfl,M11,X11⟩;refine ⟨_,rfl,?_⟩;have T11:=T10.step X11 (fun q hq=>Or.inl hq);refine Ca ?_;refine za rfl (zb jX rfl ((RL _ lo gb _ (Or.inr rfl) (((xq (ua.s.data.toList.take i))++ [92,120])++ [(Fa (x.toNat/16))]) (by first | omega | (simp only[List.length_append,List.length_cons,List.length_nil];omega)) (fun q=>hi≤q∧(0<ua.s.size→q≠gx)) M11 hgb (KX T11) (Fa (x.toNat%16))).mono ?_));rintro e w16 ⟨rfl,KY,X12⟩;refine ⟨_,rfl,?_⟩;have T12:=T11.step X12 (fun q hq=>Or.inl hq);refine je ?_;exact zo (i+1) (by show ua.s.size-(i+1)<ua.s.size-i;omega) ⟨rfl,rfl,rfl,rfl,trivial⟩ (⟨om,T12,by rw[oz hxl];rw[show qb x= [92,120,Fa (x.toNat/16),Fa (x.toNat%16)] from (by unfold qb;rw[if_neg h10,if_neg h9,if_neg h92,if_neg h39,if_neg h32,if_pos aI2])];first | exact KY | (have h:=KY;simp only[List.append_assoc] at h;exact h)⟩)
       ·
        refine zd 45 (.bool false) rfl (congrArg Value.bool (decide_eq_false (show ¬(126:Int)<(x.toNat:Int) from om))) (zn ?_);refine za rfl (zb jX rfl ((RL _ lo gb _ (Or.inr rfl) (xq (ua.s.data.toList.take i)) (by first | omega | (simp only[List.length_append,List.length_cons,List.length_nil];omega)) (fun q=>hi≤q∧(0<ua.s.size→q≠gx)) MI hgb (KX XI) x).mono ?_));rintro e vX ⟨rfl,gK,X13⟩;refine ⟨_,rfl,?_⟩;have T13:=XI.step X13 (fun q hq=>Or.inl hq);refine je ?_;exact zo (i+1) (by show ua.s.size-(i+1)<ua.s.size-i;omega) ⟨rfl,rfl,rfl,rfl,trivial⟩ (⟨om,T13,by rw[oz hxl];rw[show qb x= [x] from (by unfold qb;rw[if_neg h10,if_neg h9,if_neg h92,if_neg h39,if_neg h32,if_neg aI2])];first | exact gK | (have h:=gK;simp only[List.append_assoc] at h;exact h)⟩)
 ·
  have hic:=of_decide_eq_false hic;obtain rfl:i=ua.s.size:=om;rw[List.take_of_length_le om] at MI hML hM0;refine zp ?_;refine za rfl (zb jX rfl ((RL _ lo gb _ (Or.inr rfl) (xq ua.s.data.toList) (by first | omega | (simp only[List.length_append,List.length_cons,List.length_nil];omega)) (fun q=>hi≤q∧(0<ua.s.size→q≠gx)) MI hgb (KX XI) 39).mono ?_));rintro e yE ⟨rfl,M14,X14⟩;refine ⟨_,rfl,?_⟩;have T14:=XI.step X14 (fun q hq=>Or.inl hq);refine zx ?_;refine za rfl (zb aN5 rfl (((Tryz.Builder_String_any lo gb _ _ (Qb.lib M14 (Or.inr rfl) hgb) (by have:=T14.size;have:=T1.size;omega))).mono ?_));rintro e E8 ⟨rfl,hb⟩;refine ⟨_,rfl,(zu ?_)⟩;exact ⟨rfl,((T1.step T14 (fun q hq=>Or.inl (hq.elim (fun h=>by show lo≤q;omega) (fun h=>by show lo≤q;omega)))).step (show Ext (fun q=>lo≤q) _ _ from ⟨hb.os,hb.tape,hb.output,hb.size,fun k _ hk=>hb.block k (Nat.lt_of_not_le hk)⟩) (fun q hq=>Or.inl hq)).below (fun q hq=>by rw[←hlo];exact hq)⟩
end
end Go.Proofs.YtmnmebdmpigddaaGreatDoor
namespace Go.Proofs.YtmnmebdmpigddaaGreatDoor
open Go.RowKit Proofs.Tryz
theorem l8 {P Q:Prop} (k:Q) (h:(Unit→Q)→P:=by
 intro zK;refine jY ?_;refine zd 11 (.bool false) rfl (by simp[h0]) (zp ?_);exact zK ()):P:=h fun _=>k
theorem qdz {P Q:Prop} (k:Q) (h:(Unit→Q)→P:=by
 intro zK;refine za rfl (zb Mj rfl ((ymz _ ua A1 B1 c1 d1).mono ?_));exact zK ()):P:=h fun _=>k
attribute [local irreducible] OW RS CW EW
def zrz (h:Nat) (x:UInt8):Nat:=(31*h+x.toNat+1)%2147483647
def al4 (l:List UInt8):Nat:=l.foldl zrz l.length
noncomputable def zzz (v:PV):Int:=if v.good then (if v.k=0 then 1 else if v.k=3 then Uz v.bits else if v.k=4 then ((al4 v.s.data.toList:Nat):Int) else KZ v.cn v.cx) else 0
def aQj (v:PV):Bool:=if v.good then (if v.k=1 then v.yes else if v.k=2 then decide ((0:Int)<(v.xs.length:Int)) else if v.k=3 then (IntKind.u64.wrap ((v.bits:Int)*2) !=0) else !(v.s.toList==(⟨#[]⟩:ByteArray).toList)) else false
theorem ab8 (l:List UInt8) (h:Nat) (hh:h<2147483647):l.foldl zrz h<2147483647:=by
 induction l generalizing h with
 | nil=>exact hh
 | cons x l ih=>exact ih _ (Nat.mod_lt _ de)
theorem Oj {l:List UInt8} {i:Nat} {x:UInt8} (h:l[i]? =some x) (n:Nat):(l.take (i+1)).foldl zrz n=zrz ((l.take i).foldl zrz n) x:=by
 obtain ⟨hi,he⟩:=List.getElem?_eq_some_iff.1 h;rw[List.take_succ_eq_append_getElem hi,List.foldl_append,he];rfl
theorem av3 (m x:Nat):(31*((m:Nat):Int)+((x:Nat):Int)+1).tmod 2147483647=(((31*m+x+1)%2147483647:Nat):Int):=by
 rw[Int.tmod_eq_emod_of_nonneg om];omega
section
variable (w:World) (ua:PV) (A1 B1:Option Addr) (c1 d1:Nat) (hx:aC w A1 ua.xs) (hl:ua.xs.length≤9223372036854775807) (ha:ua.bits<18446744073709551616)
include hx hl ha
theorem ph0 (g1:ua.good=false):Calls prog 25 #[bK ua A1 c1 B1 d1] w (aI w (.int .i64 (zzz ua))):=by
 have _:=hx;have _:=hl;have _:=ha;refine zc func25 rfl ntmps25 rfl ?_;obtain ⟨HF,LW,ak,E⟩:=bg w;replace HF:=HF.and (Per.aH hx);refine zi ?_;intro aG w2 aA aK aP;obtain ⟨HF,LW,E⟩:=bD HF LW E ak aA aK;refine zp ?_;refine zh rfl uZ rfl (jw _ ua A1 B1 c1 d1 (HF.on E).here.1.2 hl false g1) E fun w3 E=>(vp ?_);exact ⟨by unfold zzz;rw[g1];rfl,(LW.step E ak).toBelow⟩
theorem ph1 (g1:ua.good=true) (h0:ua.k=0):Calls prog 25 #[bK ua A1 c1 B1 d1] w (aI w (.int .i64 (zzz ua))):=by
 have _:=hx;have _:=hl;have _:=ha;refine zc func25 rfl ntmps25 rfl ?_;obtain ⟨HF,LW,ak,E⟩:=bg w;replace HF:=HF.and (Per.aH hx);refine zi ?_;intro aG w2 aA aK aP;obtain ⟨HF,LW,E⟩:=bD HF LW E ak aA aK;refine zp ?_;refine zh rfl uZ rfl (jw _ ua A1 B1 c1 d1 (HF.on E).here.1.2 hl true g1) E fun w3 E=>(jY ?_);refine zd 11 (.bool true) rfl (by simp[h0]) (zz ?_);exact ⟨by unfold zzz;rw[g1,if_pos rfl,if_pos h0];rfl,(LW.step E ak).toBelow⟩
theorem ph2 (g1:ua.good=true) (h0:¬ua.k=0) (h3:ua.k=3):Calls prog 25 #[bK ua A1 c1 B1 d1] w (aI w (.int .i64 (zzz ua))):=by
 have _:=hx;have _:=hl;have _:=ha;refine zc func25 rfl ntmps25 rfl ?_;obtain ⟨HF,LW,ak,E⟩:=bg w;replace HF:=HF.and (Per.aH hx);refine zi ?_;intro aG w2 aA aK aP;obtain ⟨HF,LW,E⟩:=bD HF LW E ak aA aK;refine zp ?_;refine zh rfl uZ rfl (jw _ ua A1 B1 c1 d1 (HF.on E).here.1.2 hl true g1) E fun w3 E=>(l8 ?_);refine zd 13 (.bool true) rfl (by simp[h3]) (zu ?_);refine zh rfl aN6 rfl (UF _ ua.bits ha) E fun w4 E=>(zp ?_);exact ⟨by unfold zzz;rw[g1,if_pos rfl,if_neg h0,if_pos h3];rfl,(LW.step E ak).toBelow⟩
theorem ph4 (g1:ua.good=true) (h0:¬ua.k=0) (h3:¬ua.k=3) (h4:¬ua.k=4):Calls prog 25 #[bK ua A1 c1 B1 d1] w (aI w (.int .i64 (zzz ua))):=by
 have _:=hx;have _:=hl;have _:=ha;have hcl:=PV.iy hl;refine zc func25 rfl ntmps25 rfl ?_;obtain ⟨HF,LW,ak,E⟩:=bg w;replace HF:=HF.and (Per.aH hx);refine zi ?_;intro aG w2 aA aK aP;obtain ⟨HF,LW,E⟩:=bD HF LW E ak aA aK;refine zp ?_;refine zh rfl uZ rfl (jw _ ua A1 B1 c1 d1 (HF.on E).here.1.2 hl true g1) E fun w3 E=>(l8 ?_);refine zd 13 (.bool false) rfl (by simp[h3]) (zp ?_);refine zd 18 (.bool false) rfl (by simp[h4]) (zp ?_);refine qdz ?_;rintro e w4 ⟨A3,c3,rfl,hN,hb⟩;refine ⟨_,rfl,?_⟩;replace E:=bT E hb;have hN3:aC w4 A3 ua.cx:=hN.elim (fun h=>by rw[h.1,h.2];exact (HF.on E).here.1.2) (fun h=>h.nums);refine zh rfl aN7 rfl (Cm ua.cn A3 c3 ua.cx _ hN3 hcl) E fun w5 E=>(zu ?_);exact ⟨by unfold zzz;rw[g1,if_pos rfl,if_neg h0,if_neg h3,if_neg h4];rfl,(LW.step E ak).toBelow⟩
theorem ph3 (g1:ua.good=true) (h0:¬ua.k=0) (h3:¬ua.k=3) (h4:ua.k=4) (hsl:ua.s.size≤20000):Calls prog 25 #[bK ua A1 c1 B1 d1] w (aI w (.int .i64 (zzz ua))):=by
 have _:=ha;have hsn:ua.s.data.toList.length=ua.s.size:=by rw[Array.length_toList];rfl
 have hbx:∀x:UInt8,x.toNat<256:=fun x=>x.toNat_lt;refine zc func25 rfl ntmps25 rfl (zi ?_);rintro gv wA BX E1 G1;refine zl ?_;refine za rfl (ymk (cs:=#[.int .i64 ua.k,.bool ua.yes,.bool ua.neg,.slice A1 ua.xs.length c1,.int .u64 (ua.bits:Int),.string ua.s,.slice B1 ua.ni d1]) u28 rfl ku rfl rfl (fun j v hj↦by have h:=(BX.cell j).trans hj;rw[Nat.zero_add];exact h) (za rfl (zb uZ rfl ((jw _ ua A1 B1 c1 d1 (Per.aH hx _ E1) hl true g1).mono ?_))));rintro e w1 ⟨rfl,hb⟩;refine ⟨_,rfl,?_⟩;have E2:=E1.trans (Ext.of_below hb No);have BX2:=BX.ext (Ext.of_below hb No) (fun h=>h.elim);refine l8 ?_;refine zd 13 (.bool false) rfl (by simp[h3]) (zp ?_);refine zd 18 (.bool true) rfl (by simp[h4]) (zu ?_);refine zy ?_;refine yi ?_;refine za rfl (vbq u9 u46 u5 rfl rfl rfl ?_);rintro gx cx wC RX E5 GX;have E6:=E2.trans E5;refine zu ?_;refine yw (ι:=Nat) (fun i=>[(3,.int .i64 (((ua.s.data.toList.take i).foldl zrz ua.s.size:Nat):Int)),(25,.slice (some ⟨gx,0,none⟩) ua.s.size cx),(26,.int .i64 (ua.s.size:Int)),(27,.int .i64 ((i:Nat):Int))]) (fun i w'=>i≤ua.s.size∧Ext No wC w') (fun i=>ua.s.size-i) 0 ⟨rfl,rfl,rfl,rfl,trivial⟩ (⟨Nat.zero_le _,Ext.refl _ _⟩) ?_;rintro i w3 ⟨hin,XI⟩;refine zl ?_;refine zg rfl (fun hic=>?_) (fun hic=>?_)
 ·
  have hic:=of_decide_eq_true hic;have hil:i<ua.s.size:=om;obtain ⟨x,hxl⟩:∃x,ua.s.data.toList[i]? =some x:=⟨_,List.getElem?_eq_getElem om⟩;have hxb:=hbx x;obtain ⟨m,hm⟩:∃m,m=(ua.s.data.toList.take i).foldl zrz ua.s.size:=⟨_,rfl⟩;have hml:m<2147483647:=by rw[hm];exact ab8 _ _ om
  have hcell:∀z,Ext No wC z→z.cell? ⟨gx,0+i,none⟩=some (.int .u8 (x.toNat:Int)):=fun z hz=>by
   rw[Nat.zero_add];exact Per.aL9 RX z hz i (.int .u8 (x.toNat:Int)) (by rw[List.getElem?_map,hxl];rfl)
  rw[←hm];refine zd 3 (.int .i64 ((m:Nat):Int)) rfl (rfl) (Cb ?_);refine zu ?_;refine qck ?_;refine aN ?_;refine qfz ?_;refine yo ?_;refine za rfl (LU rfl rfl de (av3 m x.toNat) (je ?_));exact zo (i+1) (by show ua.s.size-(i+1)<ua.s.size-i;omega) ⟨by rw[Oj hxl,←hm];rfl,rfl,rfl,rfl,trivial⟩ (⟨om,XI⟩)
 ·
  have hic:=of_decide_eq_false hic;obtain rfl:i=ua.s.size:=om;refine kz ?_;exact ⟨by unfold zzz al4;rw[g1,if_pos rfl,if_neg h0,if_neg h3,if_pos h4,hsn,List.take_of_length_le om];rfl,(E6.trans XI).toBelow⟩
theorem ab9:Calls prog 25 #[bK ua A1 c1 B1 d1] w (aI w (.int .i64 (zzz ua))):=by
 cases g1:ua.good
 · exact ph0 w ua A1 B1 c1 d1 hx hl ha g1
 by_cases h0:ua.k=0
 · exact ph1 w ua A1 B1 c1 d1 hx hl ha g1 h0
 by_cases h3:ua.k=3
 · exact ph2 w ua A1 B1 c1 d1 hx hl ha g1 h0 h3
 by_cases h4:ua.k=4
 · exact ph3 w ua A1 B1 c1 d1 hx hl ha g1 h0 h3 h4 (PV.Cg g1 h4)
 · exact ph4 w ua A1 B1 c1 d1 hx hl ha g1 h0 h3 h4
end
end Go.Proofs.YtmnmebdmpigddaaGreatDoor
namespace Go.Proofs.YtmnmebdmpigddaaGreatDoor
open Go.RowKit Proofs.Tryz
theorem Cn {P Q:Prop} (k:Q) (h:(Unit→Q)→P:=by
 intro zK;refine zn ?_;refine gr (rs:=[.cell 2 28]) (vs:=[_]) rfl ⟨⟨_,rfl,ycv u28 rfl ku H9 rfl⟩,trivial⟩ ?_;exact zK ()):P:=h fun _=>k
theorem Co {P Q:Prop} (k:Q) (h:(Unit→Q)→P:=by
 intro zK;refine zl ?_;refine zf 43 (.int .i64 0) rfl (by kernel_rfl:(.int .i64 (0:Nat):Value)=_) (zn ?_);refine zf 46 (.int .i64 0) rfl (by kernel_rfl:(.int .i64 (0:Nat):Value)=_) (jm ?_);exact zK ()):P:=h fun _=>k
theorem UN {P:Prop} (h:P:=by
 refine qq ?_;intro vs X wq K;refine qN rfl (zb Rl rfl ((abq _).mono ?_));exact Qg):P:=h
theorem al5 {P:Prop} (h:P:=by
 refine zk (zw ku rfl rfl BY rfl rfl rfl ?_);rintro wC H9 E4;refine zn ?_;refine gr (rs:=[.cell 2 28]) (vs:=[_]) rfl ⟨⟨_,rfl,ycv u28 rfl ku H9 rfl⟩,trivial⟩ ?_;exact ⟨rfl,(E2.step E4 (fun q hq=>Or.inr (by have:=pV hq;omega))).toBelow⟩):P:=h
attribute [local irreducible] OW RS CW EW
theorem aI4:(2:Int)=eH (zr false [1]&&zr false [1]) (num false [1]+num false [1]):=by
 have h:=vb (i:=1) de;rw[ymx] at h;have h:zr false [1]=true:=h;rw[h,Uw];exact (zux de).symm
theorem aI5:(0:Int)=dV (zr false [1]&&zr false [1]) (num false [1]+num false [1]):=by
 have h:=vb (i:=1) de;rw[ymx] at h;have h:zr false [1]=true:=h;rw[h,Uw];exact (zuz de).symm
theorem lV.own {w:World} {A1 A:Option Addr} {xs ys:List Nat} (h:lV w A1 A xs ys) (hne:ys≠xs):aC w A ys:=h.resolve_left (fun e=>hne e.2)
def pvT:PV:=⟨1,true,false,[],0,⟨#[]⟩,0⟩
def pvO:PV:=⟨2,false,false,[1],0,⟨#[]⟩,0⟩
theorem l9 (n:Bool) (xs:List Nat):Yc n xs n xs=true:=by unfold Yc;simp
theorem UO:PV.good pvT=true:=by unfold PV.good pvT;simp
theorem UQ:PV.good pvO=true:=by
 have h:=vb (i:=1) de;rw[ymx] at h;have h:zr false [1]=true:=h;unfold PV.good pvO;simp[h]
theorem UR {X:Nat→Prop} {w:World} {lo base c:Nat} {A:Option Addr} {xs:List Nat} (h:Own w base A c xs) (hX:∀k,X k→k<base) (hb:lo≤base):Per X w (fun b=>Own b lo A c xs):=fun b E=>⟨quz (xz h.1 E (fun q hq hx=>by have:=uE h.1 q hq;have:=hX q hx;omega)) hb,h.2⟩
section
variable (w:World)
theorem UU (ua:PV) (A1 B1:Option Addr) (c1 d1:Nat) (n:Bool) (xs:List Nat) (hn:ua.cn=n) (hc:ua.cx=xs):Calls prog 33 #[bK ua A1 c1 B1 d1] w (Uj w A1 n ua.xs xs):=by
 subst hn hc;exact ymz w ua A1 B1 c1 d1
theorem UW (b:Bool):Calls prog 20 #[.bool b] w (aI w (.agg #[.int .i64 1,.bool b,.bool false,.slice none 0 0,.int .u64 0,.string ⟨#[]⟩,.slice none 0 0])):=by
 refine zc func20 rfl ntmps20 rfl (zm ?_);refine zv ?_;rintro gR wB BY E2 G2;refine zu ?_;refine za rfl (qn (cs:=#[.int .i64 1,.bool b,.bool false,.slice none 0 0,.int .u64 0,.string ⟨#[]⟩,.slice none 0 0]) EX EU rfl rfl ?_);exact al5
theorem K3 (s:ByteArray):Calls prog 24 #[.string s] w (aI w (.agg #[.int .i64 4,.bool false,.bool false,.slice none 0 0,.int .u64 0,.string s,.slice none 0 0])):=by
 refine zc func24 rfl ntmps24 rfl (zm ?_);refine zv ?_;rintro gR wB BY E2 G2;refine zu ?_;refine za rfl (qn (cs:=#[.int .i64 4,.bool false,.bool false,.slice none 0 0,.int .u64 0,.string s,.slice none 0 0]) EX EU rfl rfl ?_);exact al5
def aI6 (W:World) (i:Int) (e:Ending) (w':World):Prop:=∃A c,e= .returned (.agg #[.int .i64 2,.bool false,.bool (decide (i<0)),.slice A (limbs i).length c,.int .u64 0,.string ⟨#[]⟩,.slice none 0 0])∧Own w' W.heap.size A c (limbs i)∧Below W.heap.size W w'
theorem yrz (A:Option Addr) (c:Nat) (i:Int) (hx:aL w A (av i)) (hl:(av i).length≤1048576):Calls prog 21 #[.agg #[.bool (decide (i<0)),.slice A (av i).length c]] w (aI6 w i):=by
 refine zc func21 rfl ntmps21 rfl (zi ?_);rintro gA wA BX E1 G1;refine zv ?_;rintro gR wB BY E2 G2;have KW:=BX.ext E2 (fun h=>h.elim);have fH:=E1.trans E2;have hs:=fH.size;refine zu ?_;refine za rfl (zb ar0 rfl ((vK A c i _ (Per.GU hx _ fH) hl).mono ?_));rintro e w1 ⟨A3,c3,rfl,hO,hb⟩;refine ⟨_,rfl,?_⟩;have E3:=Ext.of_below hb No;have N9:=BY.ext E3 (fun h=>h.elim);refine za rfl (qn (cs:=#[.int .i64 2,.bool false,.bool (decide (i<0)),.slice A3 (limbs i).length c3,.int .u64 0,.string ⟨#[]⟩,.slice none 0 0]) EX EU rfl rfl (zk (zw ku rfl rfl N9 rfl rfl rfl ?_)));rintro wC H9 E4;refine Cn ?_;exact ⟨A3,c3,rfl,zyq hO E4 BY.lt hs,((fH.trans E3).step E4 (fun q hq=>Or.inr (by have:=pV hq;have:=E1.size;omega))).toBelow⟩
theorem qjz (A:Option Addr) (c:Nat) (n:Bool) (xs:List Nat):Calls prog 45 #[.agg #[.bool n,.slice A xs.length c]] w (aI w (.agg #[.int .i64 2,.bool false,.bool n,.slice A xs.length c,.int .u64 0,.string ⟨#[]⟩,.slice none 0 0])):=by
 refine zc func45 rfl ntmps45 rfl (zi ?_);rintro gA wA BX E1 G1;refine zv ?_;rintro gR wB BY E2 G2;have KW:=BX.ext E2 (fun h=>h.elim);have fH:=E1.trans E2;have hs:=fH.size;refine zu ?_;refine za rfl (qn (cs:=#[.int .i64 2,.bool false,.bool n,.slice A xs.length c,.int .u64 0,.string ⟨#[]⟩,.slice none 0 0]) EX EU rfl rfl (zk (zw ku rfl rfl BY rfl rfl rfl ?_)));rintro wC H9 E4;refine Cn ?_;exact ⟨rfl,(fH.step E4 (fun q hq=>Or.inr (by have:=pV hq;have:=E1.size;omega))).toBelow⟩
theorem abz (A B:Option Addr) (c d:Nat) (xs ys:List Nat) (n1 n2:Bool) (v f:Int) (hv:v=eH (zr n1 xs&&zr n2 ys) (num n1 xs+num n2 ys)) (hf:f=dV (zr n1 xs&&zr n2 ys) (num n1 xs+num n2 ys)) (hx:aC w A xs) (hy:aC w B ys) (hl:xs.length≤9223372036854775807) (hl':ys.length≤9223372036854775807) :
 Calls prog 67 #[.int .i64 1,.agg #[.bool n1,.slice A xs.length c],.agg #[.bool n2,.slice B ys.length d]] w (yd w v f):=by
 refine zc func67 rfl ntmps67 rfl (zi ?_);rintro gA wA BX E1 G1;refine za rfl (jz rfl ?_);rintro gC wC BZ E2 G2;refine yq ?_;rintro gR wB BY E3 G3;have KW:=(BX.ext E2 (fun h=>h.elim)).ext E3 (fun h=>h.elim);have BZb:=BZ.ext E3 (fun h=>h.elim);have fH:=(E1.trans E2).trans E3;have hs:=fH.size;refine Ka ?_;have hadd:=Zp A B c d xs ys wB n1 n2 (Per.aH hx _ fH) (Per.aH hy _ fH) hl hl';rw[←hv,←hf] at hadd;refine za rfl (zb aB4 rfl ((hadd).mono ?_));rintro e w1 ⟨A3,c3,rfl,hO,hb⟩;refine ⟨_,rfl,?_⟩;have E4:=Ext.of_below hb No;have N9:=BY.ext E4 (fun h=>h.elim);refine zm ?_;refine zk (zw kw rfl rfl N9 rfl rfl rfl ?_);rintro wD H9 E5;refine zp ?_;exact ⟨A3,c3,rfl,zyq hO E5 BY.lt hs,((fH.trans E4).step E5 (fun q hq=>Or.inr (by have:=pV hq;have:=E1.size;have:=E2.size;omega))).toBelow⟩
theorem Oo (A:Option Addr) (c:Nat) (hx:aC w A [1]):Calls prog 30 #[.int .i64 1,.agg #[.int .i64 1,.bool true,.bool false,.slice none 0 0,.int .u64 0,.string ⟨#[]⟩,.slice none 0 0],.agg #[.int .i64 2,.bool false,.bool false,.slice A 1 c,.int .u64 0,.string ⟨#[]⟩,.slice none 0 0]] w fun e w'=>∃A4 c4,e= .returned (.tuple #[.agg #[.int .i64 2,.bool false,.bool (decide (2<0)),.slice A4 (limbs 2).length c4,.int .u64 0,.string ⟨#[]⟩,.slice none 0 0],.int .i64 0])∧Own w' w.heap.size A4 c4 (limbs 2)∧Below w.heap.size w w':=by
 refine zc func30 rfl ntmps30 rfl (zi ?_);rintro gA wA BX E1 G1;refine za rfl (jz rfl ?_);rintro gC wC BZ E2 G2;refine zv ?_;rintro gR wB BY E3 G3;have KW:=(BX.ext E2 (fun h=>h.elim)).ext E3 (fun h=>h.elim);have BZb:=BZ.ext E3 (fun h=>h.elim);have fH:=(E1.trans E2).trans E3;have hs:=fH.size;refine aE0 ?_;refine zm ?_;refine qm (No) aj.none_ [⟨9,10,24,#[.bool false,.slice none 0 0]⟩] [] (fQ [Fx.of (.int .i64 1),
  Fx.of (.agg #[.int .i64 1,.bool true,.bool false,.slice none 0 0,.int .u64 0,.string ⟨#[]⟩,.slice none 0 0]),
  ⟨(Option Addr×Nat),fun (A5,c5)=>.agg #[.bool false,.slice A5 1 c5],fun (A5,c5) b=>(lV b none A5 [] [1])⟩,
  Fx.of (.agg #[.int .i64 2,.bool false,.bool false,.slice A 1 c,.int .u64 0,.string ⟨#[]⟩,.slice none 0 0]),
  ⟨(Option Addr×Nat),fun (A6,c6)=>.agg #[.bool false,.slice A6 1 c6],fun (A6,c6) b=>(lV b A A6 [1] [1])⟩,
  ⟨(Option Addr×Nat),fun (A7,c7)=>.tuple #[.agg #[.bool (decide ((2:Int)<0)),.slice A7 (limbs 2).length c7],.int .i64 0],fun (A7,c7) b=>(Own b wB.heap.size A7 c7 (limbs 2))⟩,
  ⟨(Option Addr×Nat),fun (A7,c7)=>.tuple #[.agg #[.bool (decide ((2:Int)<0)),.slice A7 (limbs 2).length c7],.int .i64 0],fun (A7,c7) b=>(Own b wB.heap.size A7 c7 (limbs 2))⟩,
  ⟨(Option Addr×Nat),fun (A7,c7)=>.agg #[.bool (decide ((2:Int)<0)),.slice A7 (limbs 2).length c7],fun (A7,c7) b=>(Own b wB.heap.size A7 c7 (limbs 2))⟩,
  Fx.of (.int .i64 0),
  Fx.of undef,
  Fx.of undef,
  Fx.of (.int .i64 0)]) mixed rfl trivial (fun _ h=>by cases h) ?_ ?_
 · refine ⟨arm,?_,?_,?_,?_,?_,?_,?_,?_,?_,?_,arm,trivial⟩
   · intro vs X wq K;have LE:=K.1;exact qjk u28 rfl ku rfl (KW.ext ((Ext.refl No _).drew.trans LE) (fun h↦h.elim)) rfl ⟨Below.refl _ _,Left.of rfl⟩
   · refine qq ?_;intro vs X wq K;have XN:=K.2.1;refine zb Mj rfl ((UU _ pvT none none 0 0 false [1] rfl rfl).mono ?_);rintro e w2 ⟨A5,c5,rfl,hN,hb⟩;exact ⟨_,rfl,hb,⟨(A5,c5),rfl,ztv hN XN⟩⟩
   · intro vs X wq K;have LE:=K.1;exact qjk u28 rfl ku rfl (BZb.ext ((Ext.refl No _).drew.trans LE) (fun h↦h.elim)) rfl ⟨Below.refl _ _,Left.of rfl⟩
   · refine qq ?_;intro vs X wq K;have XN:=K.2.1;refine zb Mj rfl ((UU _ pvO A none c 0 false [1] rfl rfl).mono ?_);rintro e w2 ⟨A6,c6,rfl,hN,hb⟩;exact ⟨_,rfl,hb,⟨(A6,c6),rfl,ztv hN XN⟩⟩
   · refine qq ?_;intro vs X wq K;have LE:=K.1;have XN:=K.2.1;obtain ⟨⟨A5,c5⟩,e2,k2⟩:=K.dep 2 rfl rfl rfl;refine gm 38 _ rfl e2 ?_;obtain ⟨⟨A6,c6⟩,e4,k4⟩:=K.dep 4 rfl rfl rfl;refine gm 40 _ rfl e4 (zb aN9 rfl ((abz _ A5 A6 c5 c6 [1] [1] false false 2 0 aI4 aI5 ((k2.here).own de) ((k4.here).nums (Per.aH hx _ (fH.trans ((Ext.refl No _).drew.trans LE)))) de de).mono ?_));rintro e w2 ⟨A7,c7,rfl,hO,hb⟩;exact ⟨_,rfl,hb,⟨(A7,c7),rfl,UR hO XN LE.size⟩⟩
   · intro vs X wq K;obtain ⟨⟨A7,c7⟩,e5,k5⟩:=K.dep 5 rfl rfl rfl;refine gm 41 _ rfl e5 ?_;exact qjq rfl ⟨Below.refl _ _,⟨⟨A7,c7⟩,rfl,(k5.map (fun _ h=>h))⟩⟩
   · intro vs X wq K;obtain ⟨⟨A7,c7⟩,e6,k6⟩:=K.dep 6 rfl rfl rfl;refine gm 35 _ rfl e6 ?_;exact zax rfl rfl ⟨Below.refl _ _,⟨⟨A7,c7⟩,rfl,(k6.map (fun _ h=>h))⟩⟩
   · intro vs X wq K;obtain ⟨⟨A7,c7⟩,e6,k6⟩:=K.dep 6 rfl rfl rfl;refine gm 35 _ rfl e6 ?_;exact zax rfl rfl ⟨Below.refl _ _,Left.of rfl⟩
   · exact vY
   · refine ⟨_,_,_,_,_,rfl,rfl,rfl,kw,fun vs X wq K=>?_⟩;obtain ⟨⟨A7,c7⟩,e0,_⟩:=K.dep 7 rfl rfl rfl;exact ⟨vs 7,rfl,by rw[e0];rfl,by rw[e0];rfl⟩
 intro vs w1 LE AO AL AF AA;have hbd:Below (wB).heap.size (wB) w1:=(((Ext.refl No (wB)).drew).trans LE).toBelow;obtain ⟨⟨A7,c7⟩,e7,k7⟩:=AL.2.2.2.2.2.2.2.1;obtain ⟨_,e11,k11⟩:=AL.2.2.2.2.2.2.2.2.2.2.2.1;have Wc5:=k7.here;obtain ⟨gX0,v0,y0,qX0,GX0,BX0,ey,Yb⟩:=AF.1;cases ey
 obtain rfl:vs 7=v0:=Option.some.inj Yb;rw[e7] at BX0;have BX0:aB w1 gX0 24 #[.bool (decide ((2:Int)<0)),.slice A7 (limbs 2).length c7]:=BX0;have e9:=qX0;refine ja (τ:=[(0,_),(4,_),(5,_),(6,_),(7,_),(8,_),(9,.pointer (some ⟨gX0,0,none⟩)),(10,.int .i64 0)]) ⟨rfl,rfl,rfl,rfl,rfl,rfl,congrArg some e9,congrArg some e11,trivial⟩ ?_;clear AL AF AA AO;have E5:=Ext.of_below hbd No;have N9:=BY.ext E5 (fun h=>h.elim);refine jm ?_;refine za rfl (zb YO rfl ((qjz _ A7 c7 (decide ((2:Int)<0)) (limbs 2)).mono ?_));rintro e w2 ⟨rfl,hb⟩;refine ⟨_,rfl,?_⟩;have E6:=Ext.of_below hb No;have H9:=N9.ext E6 (fun h=>h.elim);have hN7:Own w2 wB.heap.size A7 c7 (limbs 2):=⟨xz Wc5.1 E6 (fun _ _ h=>h.elim),Wc5.2⟩;refine zk (zw ku rfl rfl H9 rfl rfl rfl ?_);rintro wD BYe E7;refine zl ?_;exact ⟨A7,c7,rfl,zyq hN7 E7 BY.lt hs,(((fH.trans E5).trans E6).step E7 (fun q hq=>Or.inr (by have:=pV hq;have:=E1.size;have:=E2.size;omega))).toBelow⟩
theorem Oq (A:Option Addr) (c:Nat) (hx:aC w A [1]):Calls prog 7 #[.int .i64 1,.agg #[.int .i64 1,.bool true,.bool false,.slice none 0 0,.int .u64 0,.string ⟨#[]⟩,.slice none 0 0],.agg #[.int .i64 2,.bool false,.bool false,.slice A 1 c,.int .u64 0,.string ⟨#[]⟩,.slice none 0 0]] w fun e w'=>∃A4 c4,e= .returned (.tuple #[.agg #[.int .i64 2,.bool false,.bool (decide (2<0)),.slice A4 (limbs 2).length c4,.int .u64 0,.string ⟨#[]⟩,.slice none 0 0],.int .i64 0])∧Own w' w.heap.size A4 c4 (limbs 2)∧Below w.heap.size w w':=by
 refine zc func7 rfl ntmps7 rfl (zi ?_);rintro gA wA BX E1 G1;refine za rfl (jz rfl ?_);rintro gC wC BZ E2 G2;refine zv ?_;rintro gR wB BY E3 G3;have KW:=(BX.ext E2 (fun h=>h.elim)).ext E3 (fun h=>h.elim);have BZb:=BZ.ext E3 (fun h=>h.elim);have fH:=(E1.trans E2).trans E3;have hs:=fH.size;refine zp ?_;refine za rfl (zb uZ rfl ((jw _ pvT none none 0 0 xt de true UO).mono ?_));rintro e w1 ⟨rfl,hb⟩;refine ⟨_,rfl,?_⟩;have F1:=Ext.of_below hb No;have E13:=fH.trans F1;have BX1:=KW.ext F1 (fun h=>h.elim);have BZ1:=BZb.ext F1 (fun h=>h.elim);have BY1:=BY.ext F1 (fun h=>h.elim);refine zn ?_;refine bO rfl (zb uZ rfl ((jw _ pvO A none c 0 (Per.aH hx _ E13) de true UQ).mono ?_));rintro e w2 ⟨rfl,hb⟩;refine ⟨_,rfl,?_⟩;have F2:=Ext.of_below hb No;have E14:=E13.trans F2;have BX2:=BX1.ext F2 (fun h=>h.elim);have BZ2:=BZ1.ext F2 (fun h=>h.elim);have BY2:=BY1.ext F2 (fun h=>h.elim);refine Kc ?_;refine za rfl (zb jW rfl ((Uq _ pvT none none 0 0 true rfl).mono ?_));rintro e w3 ⟨rfl,hb⟩;refine ⟨_,rfl,?_⟩;have F3:=Ext.of_below hb No;have E15:=E14.trans F3;have BX3:=BX2.ext F3 (fun h=>h.elim);have BZ3:=BZ2.ext F3 (fun h=>h.elim);have BY3:=BY2.ext F3 (fun h=>h.elim);refine zm ?_;refine bO rfl (zb jW rfl ((Uq _ pvO A none c 0 true rfl).mono ?_));rintro e w4 ⟨rfl,hb⟩;refine ⟨_,rfl,?_⟩;have F4:=Ext.of_below hb No;have E16:=E15.trans F4;have BX4:=BX3.ext F4 (fun h=>h.elim);have BZ4:=BZ3.ext F4 (fun h=>h.elim);have BY4:=BY3.ext F4 (fun h=>h.elim);refine zz ?_;refine za rfl (zb aM9 rfl ((Oo _ A c (Per.aH hx _ E16)).mono ?_));rintro e w5 ⟨A4,c4,rfl,hO,hb⟩;refine ⟨_,rfl,?_⟩;have F5:=Ext.of_below hb No;have BY5:=BY4.ext F5 (fun h=>h.elim);refine zm ?_;refine zk (zw ku rfl rfl BY5 rfl rfl rfl ?_);rintro wD BYe E7;refine zp ?_;exact ⟨A4,c4,rfl,zyq hO E7 BY4.lt E16.size,((E16.trans F5).step E7 (fun q hq=>Or.inr (by have:=pV hq;have:=E1.size;have:=E2.size;omega))).toBelow⟩
theorem aI7 (A B:Option Addr) (c d:Nat) (n:Bool) (xs:List Nat) (hx:aC w A xs) (hy:aC w B xs) (hl:xs.length≤1048576):Calls prog 14 #[.agg #[.int .i64 2,.bool false,.bool n,.slice A xs.length c,.int .u64 0,.string ⟨#[]⟩,.slice none 0 0],.agg #[.int .i64 2,.bool false,.bool n,.slice B xs.length d,.int .u64 0,.string ⟨#[]⟩,.slice none 0 0]] w (aI w (.bool true)):=by
 refine zc func14 rfl ntmps14 rfl (zi ?_);rintro gA wA BX E1 G1;refine za rfl (jz rfl ?_);rintro gC wC BZ E2 G2;have KW:=BX.ext E2 (fun h=>h.elim);have fH:=E1.trans E2;have hs:=fH.size
 refine oh ?_;refine bO rfl (JW u4 rfl rfl (jt ?_));refine bO rfl (ydx rfl rfl (zf 30 (.bool false) rfl (by simp only[ygz];rfl:(.bool (!((⟨#[]⟩:ByteArray).toList==(⟨#[]⟩:ByteArray).toList)):Value)=_) (zn ?_)));refine bO rfl (ymk (cs:=#[.bool n,.slice A xs.length c]) u24 rfl kw rfl rfl (qrx (KW.cell 2) (KW.cell 3)) (aN ?_));refine bO rfl (ymk (cs:=#[.bool n,.slice B xs.length d]) u24 rfl kw rfl rfl (qrx (BZ.cell 2) (BZ.cell 3)) (bO rfl (zb aA6 rfl ((l9 n xs▸rJ A B c d xs xs _ n n (Per.aH hx _ fH) (Per.aH hy _ fH) hl hl).mono ?_))));rintro e w1 ⟨rfl,hb⟩;refine ⟨_,rfl,?_⟩;have F1:=Ext.of_below hb No;have BX1:=KW.ext F1 (fun h=>h.elim);have BZ1:=BZ.ext F1 (fun h=>h.elim);refine Co ?_;refine yw (ι:=Unit) (fun _=>[(2,.pointer (some ⟨gA,0,none⟩)),(5,.int .i64 0)]) (fun _ z=>Ext No w z∧aB z gA 28 #[.int .i64 2,.bool false,.bool n,.slice A xs.length c,.int .u64 0,.string ⟨#[]⟩,.slice none 0 0]) (fun _=>0) () ⟨rfl,rfl,trivial⟩ (⟨fH.trans F1,BX1⟩) ?_;rintro _ w3 ⟨E13,BX3⟩;refine zp ?_;refine zf 52 (.int .i64 0) rfl (by kernel_rfl:(.int .i64 (0:Nat):Value)=_) (oh ?_);exact ⟨rfl,E13.toBelow⟩
theorem Ih (A:Option Addr) (c:Nat) (hx:aC w A (limbs 1)):Calls prog 7 #[.int .i64 1,.agg #[.int .i64 1,.bool true,.bool false,.slice none 0 0,.int .u64 0,.string ⟨#[]⟩,.slice none 0 0],.agg #[.int .i64 2,.bool false,.bool (decide (1<0)),.slice A (limbs 1).length c,.int .u64 0,.string ⟨#[]⟩,.slice none 0 0]] w fun e w'=>∃A4 c4,e= .returned (.tuple #[.agg #[.int .i64 2,.bool false,.bool (decide (2<0)),.slice A4 (limbs 2).length c4,.int .u64 0,.string ⟨#[]⟩,.slice none 0 0],.int .i64 0])∧Own w' w.heap.size A4 c4 (limbs 2)∧Below w.heap.size w w':=by
 rw[ymx] at hx ⊢;exact Oq w A c hx
theorem abx:Calls prog 23 #[.agg #[.int .i64 4,.bool false,.bool false,.slice none 0 0,.int .u64 0,.string ⟨#[97,39,10,200]⟩,.slice none 0 0]] w fun e w'=>e= .returned (.string ⟨#[39,97,92,39,92,110,92,120,99,56,39]⟩)∧Below w.heap.size w w':=
 Uu w ⟨4,false,false,[],0,⟨#[97,39,10,200]⟩,0⟩ none none 0 0 xt de (by unfold PV.good;simp;decide) rfl de
theorem av4:Calls prog 25 #[.agg #[.int .i64 4,.bool false,.bool false,.slice none 0 0,.int .u64 0,.string ⟨#[97]⟩,.slice none 0 0]] w (aI w (.int .i64 129)):=by
 have h:=ab9 w ⟨4,false,false,[],0,⟨#[97]⟩,0⟩ none none 0 0 xt de de;have e:zzz ⟨4,false,false,[],0,⟨#[97]⟩,0⟩=129:=by
  have hg:PV.good ⟨4,false,false,[],0,⟨#[97]⟩,0⟩=true:=by unfold PV.good;simp;decide
  unfold zzz;rw[hg,if_pos rfl,if_neg de,if_neg de,if_pos rfl];rfl
 rw[e] at h;exact h
theorem aI8:yy 9221120237041090560=9221120237041090560:=de
theorem abq:Calls prog 27 #[.int .u64 9221120237041090560] w (aI w (.agg #[.int .i64 3,.bool false,.bool false,.slice none 0 0,.int .u64 9221120237041090560,.string ⟨#[]⟩,.slice none 0 0])):=by
 have h:=zpz w 9221120237041090560 de;rw[aI8] at h;exact h
theorem abj:Calls prog 26 #[.agg #[.int .i64 3,.bool false,.bool false,.slice none 0 0,.int .u64 9221120237041090560,.string ⟨#[]⟩,.slice none 0 0],.agg #[.int .i64 3,.bool false,.bool false,.slice none 0 0,.int .u64 9221120237041090560,.string ⟨#[]⟩,.slice none 0 0]] w (aI w (.bool false)):=by
 have h:=Us w ⟨3,false,false,[],9221120237041090560,⟨#[]⟩,0⟩ ⟨3,false,false,[],9221120237041090560,⟨#[]⟩,0⟩ none none none none 0 0 0 0 xt de de xt de de;have e:NZ ⟨3,false,false,[],9221120237041090560,⟨#[]⟩,0⟩ ⟨3,false,false,[],9221120237041090560,⟨#[]⟩,0⟩=false:=by
  have hg:PV.good ⟨3,false,false,[],9221120237041090560,⟨#[]⟩,0⟩=true:=by unfold PV.good;simp
  have ho:wL ⟨3,false,false,[],9221120237041090560,⟨#[]⟩,0⟩ ⟨3,false,false,[],9221120237041090560,⟨#[]⟩,0⟩=false:=de;unfold NZ;rw[hg,ho];rfl
 rw[e] at h;exact h
theorem Cq:Calls prog 6 #[] w (aI w (.bool true)):=by
 have ht:∀i:Int,i.natAbs<au^30→(av i).length≤1048576:=fun i h=>by have:=(ot i).2 h;omega
 have hlb:(limbs 2).length≤1048576:=by have:=ve (i:=2) de;omega
 refine zc func6 rfl ntmps6 rfl (zp ?_);refine za rfl (zb aM5 rfl ((UW _ true).mono ?_));rintro e w1 ⟨rfl,hb⟩;refine ⟨_,rfl,?_⟩;have E1:=Ext.of_below hb No;refine za rfl (zb FU rfl ((zpx 1 _ de de).mono ?_));rintro e w2 ⟨A1,c1,rfl,hO1,hb⟩;refine ⟨_,rfl,?_⟩;have E2:=E1.trans (Ext.of_below hb No);refine za rfl (zb Mi rfl ((yrz _ A1 c1 1 hO1.nums (ht 1 de)).mono ?_));rintro e w3 ⟨A2,c2,rfl,hO2,hb⟩;refine ⟨_,rfl,?_⟩;have E3:=E2.trans (Ext.of_below hb No);refine za rfl (zb en7 rfl ((Ih _ A2 c2 hO2.nums).mono ?_));rintro e w4 ⟨A4,c4,rfl,hO4,hb⟩;refine ⟨_,rfl,?_⟩;have E4:=E3.trans (Ext.of_below hb No);refine zn ?_;refine zv ?_;rintro gR wB BY E5 G2;refine zk (zw ku rfl rfl BY rfl rfl rfl ?_);rintro wC BZ E6;have hO5:Own wC _ A4 c4 (limbs 2):=⟨xz (xz hO4.1 E5 (fun _ _ h=>h.elim)) E6 (fun q hq hm=>by have:=pV hm;have:=jx hO4.1 q hq;omega),hO4.2⟩;have hN4:=hO5.nums;have E7:Ext No w wC:=(E4.trans E5).step E6 (fun q hq=>Or.inr (by have:=pV hq;have:=E4.size;omega));refine zx ?_;refine qm (No) aj.none_ [] [] (fQ [Fx.of (.int .i64 0),
  Fx.of (.bool true),
  Fx.of (.bool true),
  Fx.of (.agg #[.int .i64 2,.bool false,.bool (decide (2<0)),.slice A4 (limbs 2).length c4,.int .u64 0,.string ⟨#[]⟩,.slice none 0 0]),
  ⟨(Option Addr×Nat),fun (A5,c5)=>.agg #[.bool (decide ((2:Int)<0)),.slice A5 (av 2).length c5],fun (A5,c5) b=>(aL b A5 (av 2))⟩,
  ⟨(Option Addr×Nat),fun (A6,c6)=>.agg #[.int .i64 2,.bool false,.bool (decide (2<0)),.slice A6 (limbs 2).length c6,.int .u64 0,.string ⟨#[]⟩,.slice none 0 0],fun (A6,c6) b=>(aC b A6 (limbs 2))⟩,
  Fx.of (.bool true),
  Fx.of (.bool true),
  Fx.of (.bool true),
  Fx.of (.agg #[.int .i64 4,.bool false,.bool false,.slice none 0 0,.int .u64 0,.string ⟨#[97,39,10,200]⟩,.slice none 0 0]),
  Fx.of (.string ⟨#[39,97,92,39,92,110,92,120,99,56,39]⟩),
  Fx.of (.bool true),
  Fx.of (.bool true),
  Fx.of (.bool true),
  Fx.of (.agg #[.int .i64 4,.bool false,.bool false,.slice none 0 0,.int .u64 0,.string ⟨#[97]⟩,.slice none 0 0]),
  Fx.of (.int .i64 129),
  Fx.of (.bool true),
  Fx.of (.bool true),
  Fx.of (.bool true),
  Fx.of (.agg #[.int .i64 3,.bool false,.bool false,.slice none 0 0,.int .u64 9221120237041090560,.string ⟨#[]⟩,.slice none 0 0]),
  Fx.of (.agg #[.int .i64 3,.bool false,.bool false,.slice none 0 0,.int .u64 9221120237041090560,.string ⟨#[]⟩,.slice none 0 0]),
  Fx.of (.bool false),
  Fx.of (.bool true),
  Fx.of (.bool true),
  Fx.of (.bool true)]) mixed rfl trivial (fun _ h=>by cases h) ?_ ?_
 · refine ⟨arm,arm,arm,?_,?_,?_,?_,arm,arm,?_,?_,?_,arm,arm,?_,?_,arm,arm,arm,?_,?_,?_,arm,arm,arm,trivial⟩
   · refine qq ?_;intro vs X wq K;have LE:=K.1;exact qN rfl (qjk u28 rfl ku rfl (BZ.ext ((Ext.refl No _).drew.trans LE) (fun h↦h.elim)) rfl ⟨Below.refl _ _,Left.of rfl⟩)
   · refine qq ?_;intro vs X wq K;have XN:=K.2.1;refine qN rfl (zb FU rfl ((zpx 2 _ de de).mono ?_));rintro e w2 ⟨A5,c5,rfl,hO,hb⟩;exact ⟨_,rfl,hb,⟨(A5,c5),rfl,Per.eO hO XN⟩⟩
   · intro vs X wq K;have XN:=K.2.1;obtain ⟨⟨A5,c5⟩,e4,k4⟩:=K.dep 4 rfl rfl rfl;refine gm 14 _ rfl e4 ?_;obtain ⟨_,e2,k2⟩:=K.dep 2 rfl rfl rfl;refine gm 12 _ rfl e2 (qN rfl (zb Mi rfl ((yrz _ A5 c5 2 (k4.here) (ht 2 de)).mono ?_)));rintro e w2 ⟨A6,c6,rfl,hO,hb⟩;exact ⟨_,rfl,hb,⟨(A6,c6),rfl,Per.own hO XN⟩⟩
   · intro vs X wq K;have LE:=K.1;obtain ⟨_,e3,k3⟩:=K.dep 3 rfl rfl rfl;refine gm 13 _ rfl e3 ?_;obtain ⟨⟨A6,c6⟩,e5,k5⟩:=K.dep 5 rfl rfl rfl;refine gm 15 _ rfl e5 ?_;obtain ⟨_,e2,k2⟩:=K.dep 2 rfl rfl rfl;refine gm 12 _ rfl e2 (qN rfl (zb aA1 rfl ((aI7 _ A4 A6 c4 c6 (decide ((2:Int)<0)) (limbs 2) (Per.aH hN4 _ ((Ext.refl No _).drew.trans LE)) (k5.here) hlb).mono ?_)));exact Qg
   · refine qq ?_;intro vs X wq K;refine qN rfl (zb aA3 rfl ((K3 _ ⟨#[97,39,10,200]⟩).mono ?_));exact Qg
   · refine qq ?_;intro vs X wq K;refine qN rfl (zb aM6 rfl ((abx _).mono ?_));exact Qg
   · refine qq ?_;intro vs X wq K;exact qN rfl (JX rfl rfl ⟨Below.refl _ _,Left.of (by simp only[ygz];rfl:(.bool ((⟨#[39,97,92,39,92,110,92,120,99,56,39]⟩:ByteArray).toList==(⟨#[39,97,92,39,92,110,92,120,99,56,39]⟩:ByteArray).toList):Value)=_)⟩)
   · refine qq ?_;intro vs X wq K;refine qN rfl (zb aA3 rfl ((K3 _ ⟨#[97]⟩).mono ?_));exact Qg
   · refine qq ?_;intro vs X wq K;refine qN rfl (zb aM7 rfl ((av4 _).mono ?_));exact Qg
   · exact UN
   · exact UN
   · refine qq ?_;intro vs X wq K;refine qN rfl (zb aM8 rfl ((abj _).mono ?_));exact Qg
 intro vs w5 LE AO AL AF AA;have hbd:Below (wC).heap.size (wC) w5:=(((Ext.refl No (wC)).drew).trans LE).toBelow;obtain ⟨_,e24,k24⟩:=AL.2.2.2.2.2.2.2.2.2.2.2.2.2.2.2.2.2.2.2.2.2.2.2.2.1;refine ja (τ:=[(0,.bool true)]) ⟨congrArg some e24,trivial⟩ ?_;clear AL AF AA AO;refine zn ?_;exact ⟨rfl,(E7.trans (Ext.of_below hbd No)).toBelow⟩
end
end Go.Proofs.YtmnmebdmpigddaaGreatDoor
namespace Go.Proofs.YtmnmebdmpigddaaGreatDoor
open Go.RowKit Proofs.Tryz
theorem DI {P:Program} {w:World} {T U:TypeId} {v:Value} {ms:Array (String×TypeId)} (hd:P.underlying T=some (.interface ms)):(Op.equal T (.iface U v) .nilIface).run P w= .ok false w:=by
 have e:Op.maxDepth=9999+1:=rfl;have key:∀d:Nat,(Op.equalIn (d+1) T (.iface U v) .nilIface).run P w= .ok false w:=by
  exact Fp
 unfold Op.equal;rw[e];exact key 9999
theorem ae2 {P:Program} {N:Nat} {ops:Array Oper} {Q:Exit→Act→World→Prop} {σ:Env} {w:World} {ty:TypeId} {pos:String} {af:Array Edge} {dst:Option Nat} {Post:Value→World→Prop} {T U D:TypeId} {v:Value} {x:Operand} {ms:Array (String×TypeId)} (hd:P.underlying T=some (.interface ms)) (hx:ev σ x=some (.iface D v)) (k:Post (.bool true) w):OW P N ops Q ⟨dst,.binOp .neq T x (.const .nilIface) U,ty,pos,af,none⟩ σ w Post:=
 yf (fun ρ ha=>by
  have e:=DI (P:=P) (w:=w) (U:=D) (v:=v) hd;have hc:ρ (.const .nilIface)= .nilIface:=ha rfl;simp only[execOp,ha hx,hc,eqGuard,binOp]
  simp only[Bool.not_true,Bool.false_eq_true,if_false,Sem.run_bind,e,Result.andThen_ok,Sem.run_pure]
  rfl) k
theorem O8 (fn s:ByteArray) (base bits:Int) (w:World) (hl:s.size<100000) (hv:∃te pe,w.cell? ⟨4,0,none⟩=some (.iface te pe)) :
 Calls prog 152 #[.string fn,.string s,.int .i64 base,.int .i64 bits,dZ] w fun e w'=>(∃er,e= .returned er)∧Below w.heap.size w w':=by
 obtain ⟨te,pe,hv⟩:=hv;refine (AnyPu.strconv_toError_range (ρ:=Tryz.laysPu14_ren) { Tryz.laysPu14 with } fn s base bits (.iface te pe) w om hv (.inr ⟨te,pe,rfl⟩)).mono ?_;rintro e w' ⟨N,rfl,_,_,hb⟩;exact ⟨⟨_,rfl⟩,hb⟩
theorem aK3:oq prog 229 (.agg (yj (xE false))):=by
 unfold yj wW;exact (by kernel_rfl:(prog.info? 229).map (·.zero)=some (some (.agg ((xE false).d.map (fun b=>(.int .u8 ((b:Nat):Int):Value))++([.int .i64 (((xE false).nd:Nat):Int),.int .i64 (xE false).dp,.bool (xE false).neg,.bool (xE false).tr]:List Value)).toArray)))
theorem vv {s:ByteArray} {k i:Nat}:aJ (s.extract k s.size) i=aJ s (k+i):=by
 unfold aJ;rw[ByteArray.data_extract,Array.getElem?_extract];by_cases h:i<s.size-k
 · rw[if_pos (by show i<min s.size s.data.size-k;rw[show s.data.size=s.size from rfl,Nat.min_self];exact h)]
 · rw[if_neg (by show ¬i<min s.size s.data.size-k;rw[show s.data.size=s.size from rfl,Nat.min_self];exact h)];have:s.data[k+i]? =none:=Array.getElem?_eq_none (by show s.size≤k+i;omega);rw[this]
theorem vck (s:ByteArray):s.extract 0 s.size=s:=by
 apply ByteArray.ext
 rw[ByteArray.data_extract];exact Array.extract_eq_self_of_le (Nat.le_refl _)
theorem yt {s:ByteArray} {k:Nat}:(s.extract k s.size).size=s.size-k:=by
 rw[ByteArray.size_extract,Nat.min_self]
theorem ae3 {s:ByteArray} {f p Z q:Nat} (neg:Bool) (hs:Nm s f p Z q) (hl:s.size<100000):-20000000≤(fO s f neg).dp∧(fO s f neg).dp≤20000000:=by
 obtain ⟨h,hi⟩:=mR neg hs;have h1:=h.hp;have h2:=h.dec.hn;have h3:=h.iE;have h4:=hs.hE;have h5:=qnq hs;rw[←hi] at h5;unfold fO;show -20000000≤(if (stA s f neg).dot=true then (stA s f neg).t.dp else (((stA s f neg).t.nd:Nat):Int))+pG s (stA s f neg).i∧(if (stA s f neg).dot=true then (stA s f neg).t.dp else (((stA s f neg).t.nd:Nat):Int))+pG s (stA s f neg).i≤20000000
 split<;>omega
end Go.Proofs.YtmnmebdmpigddaaGreatDoor
namespace Go.Proofs.YtmnmebdmpigddaaGreatDoor
open Go.RowKit
theorem WE {P:Prop} (h:P:=by
 exact ⟨om,fun h=>by have:=h2 h;omega,om,fun h=>by have:=h4 h;omega⟩):P:=h
theorem WG {s:ByteArray} {f i:Nat}:xb (s.extract f s.size) i=xb s (f+i):=by
 unfold xb;rw[vv,yt];congr 1
 exact decide_eq_decide.2 om
theorem zyx {s:ByteArray} {f a:Nat} (h:f+a≤s.size):gY s (f+a)=f+gY (s.extract f s.size) a:=by
 obtain ⟨h1,h2⟩:=km (s:=s.extract f s.size) (a:=a) (by rw[yt];omega);have h3:=h1.lo;have h4:=h1.hi;rw[yt] at h4;refine ad6 ⟨om,om,fun j hj hk=>?_⟩ (by rw[←WG];exact h2);have:=h1.bR (j-f) om om;rw[vv,show f+(j-f)=j from om] at this;exact this
theorem DJ {s:ByteArray} {f b:Nat}:nQ s (f+b)=f+nQ (s.extract f s.size) b:=by
 unfold nQ;rw[vv,show f+(b+1)=f+b+1 from om];split<;>omega
theorem WH {s:ByteArray} {f a:Nat}:nB s (f+a)=f+nB (s.extract f s.size) a:=by
 unfold nB;rw[vv];split
 · rename_i h
   have:=oo (s:=s) (i:=f+a) om;rw[show f+a+1=f+(a+1) from om,zyx om]
 · rfl
theorem WI {s:ByteArray} {f b:Nat}:nC s (f+b)=f+nC (s.extract f s.size) b:=by
 unfold nC;rw[vv];split
 · rename_i h
   have:=oo (s:=s) (i:=f+b) om;have h1:=Dl (s:=s) (b:=f+b) this;rw[DJ] at h1 ⊢;exact zyx h1
 · rfl
theorem tT {s:ByteArray} {f:Nat} (hf:f≤s.size):xG (s.extract f s.size) 0↔xG s f:=by
 have e:=zyx (s:=s) (f:=f) (a:=0) om;unfold xG aJ4 aJ3;rw[Nat.add_zero] at e;rw[e,WH,WI,DJ,vv,vv,yt];constructor
 · rintro ⟨h1,h2,h3,h4⟩;exact WE
 · rintro ⟨h1,h2,h3,h4⟩;exact WE
theorem IW {s:ByteArray} {f:Nat} (hf:f≤s.size):iP (s.extract f s.size) 0=iP s f:=by
 by_cases h:xG s f
 · rw[vfq h,vfq ((tT hf).2 h)]
 · rw[ow h,ow (fun e=>h ((tT hf).1 e))]
theorem extract_extract {s:ByteArray} {f k:Nat}:(s.extract f s.size).extract k (s.extract f s.size).size=s.extract (f+k) s.size:=by
 rw[yt];apply ByteArray.ext
 rw[ByteArray.data_extract,ByteArray.data_extract,ByteArray.data_extract,Array.extract_extract];congr 1
 show min (f+(s.size-f)) s.size=s.size
 omega
theorem tV (s:ByteArray):s.toList.length=s.size:=by rw[ByteArray.toList_eq];rfl
theorem vcq {s:ByteArray} {k:Nat}:(s.extract k s.size).toList= []↔s.size≤k:=by
 have h:=tV (s.extract k s.size);rw[yt] at h;constructor
 · intro e;rw[e] at h;have h:0=s.size-k:=h;omega
 · intro e;exact List.eq_nil_of_length_eq_zero om
theorem WJ (s:ByteArray) (i:Nat):(s.toList[i]?).map (·.toNat)=(s.data[i]?).map (·.toNat):=by
 rw[ByteArray.toList_eq,Array.getElem?_toList]
theorem WK {s:ByteArray} {c:UInt8} (h0:0<s.size):((s.extract 0 1).toList== [c])=decide (aJ s 0=c.toNat):=by
 have hl:=tV (s.extract 0 1);rw[ByteArray.size_extract,Nat.sub_zero,Nat.min_eq_left om] at hl;obtain ⟨d,hd⟩:=List.length_eq_one_iff.1 hl;have h1:=WJ (s.extract 0 1) 0;rw[hd] at h1;have h2:(s.extract 0 1).data[0]? =s.data[0]? :=by
  rw[ByteArray.data_extract,Array.getElem?_extract,if_pos (by show 0<min 1 s.size-0;omega),Nat.zero_add]
 rw[h2,qh h0] at h1;have h1:d.toNat=aJ s 0:=Option.some.inj h1;rw[hd,←h1];by_cases h:d=c
 · subst h;simp
 · rw[decide_eq_false (fun e=>h (UInt8.toNat_inj.1 e))];simp[h]
theorem byte_of (r:Nat) (h:r<10):48≤(UInt8.ofNat (48+r)).toNat∧(UInt8.ofNat (48+r)).toNat≤57:=by
 have e:(UInt8.ofNat (48+r)).toNat=(48+r)%256:=rfl;rw[e];omega
theorem LC:∀n:Nat,∀c∈Lib.decDigits n,48≤c.toNat∧c.toNat≤57:=by
 intro n;induction n using Nat.strongRecOn with
 | _ n ih=>
  by_cases h:10≤n
  · rw[yak h];intro c hc;rcases List.mem_append.1 hc with h1 | h1
    · exact ih (n/10) om c h1
    · obtain rfl:=List.mem_singleton.1 h1;exact byte_of _ om
  · rw[yfv om];intro c hc;obtain rfl:=List.mem_singleton.1 hc;exact byte_of _ om
theorem LD (n:Nat):0<(Lib.decDigits n).length:=by
 by_cases h:10≤n
 · rw[yak h,List.length_append];show 0<_+1;omega
 · rw[yfv om];exact Nat.one_pos
theorem xO:∀(k n:Nat),n<10^(k+1)→(Lib.decDigits n).length≤k+1
 | 0,n,h=>by rw[yfv (by simpa using h)];exact Nat.le_refl _
 | k+1,n,h=>by
  by_cases h1:10≤n
  · rw[yak h1,List.length_append];have:=xO k (n/10) ((Nat.div_lt_iff_lt_mul de).2 (by rwa [Nat.pow_succ] at h));show _+1≤_;omega
  · rw[yfv om];show 1≤_;omega
def Ja (i:Int):ByteArray:=⟨(Lib.itoa i).toArray⟩
def Pk (i:Int):Nat:=if i<0 then 1 else 0
theorem Jb (i:Int) (j:Nat):aJ (Ja i) j=(((Lib.itoa i)[j]?).map (·.toNat)).getD 0:=by
 unfold aJ Ja;rw[List.getElem?_toArray]
theorem D9 (i:Int):(Ja i).size=(Lib.itoa i).length:=by
 show (Lib.itoa i).toArray.size=_
 rw[List.size_toArray]
theorem xP {i:Int} (h:i<0):Lib.itoa i=45::Lib.decDigits i.natAbs:=by rw[Lib.itoa,if_pos h]
theorem Jc {i:Int} (h:¬i<0):Lib.itoa i=Lib.decDigits i.toNat:=by rw[Lib.itoa,if_neg h]
theorem WW (i:Int):eu (Ja i) (Pk i) (decide (i<0)):=by
 by_cases h:i<0
 · refine .inr ⟨decide_eq_true h,by unfold Pk;rw[if_pos h],?_⟩;rw[Jb,xP h];rfl
 · exact .inl ⟨decide_eq_false h,by unfold Pk;rw[if_neg h]⟩
theorem WX (i:Int):Nm (Ja i) (Pk i) (Ja i).size (Ja i).size 0:=by
 have key:Pk i<(Ja i).size∧ ∀j,Pk i≤j→j<(Ja i).size→48≤aJ (Ja i) j∧aJ (Ja i) j≤57:=by
  rw[D9];by_cases h:i<0
  · have hf:Pk i=1:=by unfold Pk;rw[if_pos h]
    have hp:=LD i.natAbs;rw[hf,xP h];refine ⟨by show 1<_+1;omega,fun j hj hl=>?_⟩;have hl:j<(Lib.decDigits i.natAbs).length+1:=hl;rw[Jb,xP h];obtain ⟨k,rfl⟩:∃k,j=k+1:=⟨j-1,om⟩;rw[List.getElem?_cons_succ,List.getElem?_eq_getElem om];exact LC _ _ (List.getElem_mem _)
  · have hf:Pk i=0:=by unfold Pk;rw[if_neg h]
    have hp:=LD i.toNat;rw[hf,Jc h];refine ⟨hp,fun j hj hl=>?_⟩;rw[Jb,Jc h,List.getElem?_eq_getElem hl];exact LC _ _ (List.getElem_mem _)
 refine ⟨key.1,Nat.le_refl _,Nat.le_refl _,key.2,fun h=>absurd h (Nat.lt_irrefl _),fun j h1 h2=>absurd h1 (Nat.not_lt.2 (Nat.le_of_lt h2)),fun h=>absurd h (Nat.lt_irrefl _)⟩
theorem LG {i:Int} (h:i.natAbs<au^30):(Ja i).size<100000:=by
 have e:au^30=10^(539+1):=by unfold au;decide +kernel
 rw[e] at h;rw[D9];by_cases h0:i<0
 · rw[xP h0];have:=xO 539 i.natAbs h;show _+1<100000
   omega
 · rw[Jc h0];have:=xO 539 i.toNat (by rw[show i.toNat=i.natAbs from om];exact h);omega
noncomputable def ofN (i:Int):Nat:=iD (Ja i) (Pk i) (decide (i<0))
noncomputable def Yo (i:Int):Nat:=if rg (ofN i)=9218868437227405312 then 0 else ofN i
noncomputable def ofE (i:Int):Int:=if rg (ofN i)=9218868437227405312 then 7 else 0
theorem vfz (i:Int):fV (decide (i<0)) (ofN i):=viv _ (WX i)
theorem WY (i:Int):yy (ofN i)=ofN i:=by unfold yy;rw[(vfz i).num,if_neg de]
def vZ:PV:=⟨0,false,false,[],0,⟨#[]⟩,0⟩
def vI (i:Int):PV:=⟨2,false,decide (i<0),limbs i,0,⟨#[]⟩,0⟩
def WZ (b:Nat):PV:=⟨3,false,false,[],b,⟨#[]⟩,0⟩
def vT (s:ByteArray):PV:=⟨4,false,false,[],0,s,0⟩
def vf (w:World) (p:PV×Int) (e:Ending) (w':World):Prop:=∃A c,e= .returned (.tuple #[.agg #[.int .i64 p.1.k,.bool p.1.yes,.bool p.1.neg,.slice A p.1.xs.length c,.int .u64 (p.1.bits:Int),.string p.1.s,.slice none 0 0],.int .i64 p.2])∧Own w' w.heap.size A c p.1.xs∧Below w.heap.size w w'
noncomputable def nU (v:PV):Int:=num v.cn v.cx
noncomputable def gV (v:PV):Nat×Int:=if v.k=3 then (v.bits,0) else (Yo (nU v),ofE (nU v))
theorem vhq {v:PV} (hb:v.bits<18446744073709551616):(gV v).1<18446744073709551616:=by
 unfold gV;split
 · exact hb
 · show Yo _<_
   unfold Yo;split
   · decide
   · exact (vfz _).lt
theorem xQ {i:Int} (h:i.natAbs<au^30):(vI i).xs.length≤1048576:=by
 have:=ve h;show (limbs i).length≤_
 omega
theorem LH {v:PV} (hg:v.good=true) (hk:v.k=1∨v.k=2):(nU v).natAbs<au^30:=(PV.canon hg hk).2.2
theorem PV.W9 {v:PV} (h:v.good=true) (hk:v.k=1∨v.k=2):zr v.cn v.cx=true:=by
 obtain ⟨h1,h2,h3⟩:=PV.canon h hk;have h4:=vb h3;rw[←h1,←h2] at h4;exact h4
theorem nV (b:Nat):yy (yy b)=yy b:=by
 unfold yy;by_cases h:bI b=true
 · rw[if_pos h,if_pos de]
 · rw[if_neg h,if_neg h]
end Go.Proofs.YtmnmebdmpigddaaGreatDoor
namespace Go.Proofs.YtmnmebdmpigddaaGreatDoor
open Go.RowKit Proofs.Tryz
theorem Eb {P Q:Prop} (k:Q) (h:(Unit→Q)→P:=by
 intro zK;refine zn ?_;refine za rfl (qO rfl rfl (kg (n:=0) (xI neg) de) (za rfl (va (b:=dw neg ||| 0) jZ rfl (qd ?_))));refine zoq ?_;exact zK ()):P:=h fun _=>k
theorem zoq {P Q:Prop} (k:Q) (h:(Unit→Q)→P:=by
 intro zK;refine gr (rs:=[.tmp 2,.tmp 3,.tmp 4]) (vs:=[_,_,_]) rfl ⟨rfl,rfl,rfl,trivial⟩ ?_;exact zK ()):P:=h fun _=>k
attribute [local irreducible] OW RS CW EW
theorem aK6 (neg:Bool):IntKind.u64.wrap (((Qh neg:Nat):Int)*2^(min (63:Int).toNat IntKind.u64.bits))=((dw neg:Nat):Int):=by
 cases neg<;>decide +kernel
section
variable (w:World) {bp op cp bf of cf bl ol cl:Nat}
theorem xR (s:ByteArray) (h:48≤aJ s 0∧aJ s 0≤57):Calls prog 249 #[.string s,.string ⟨#[105,110,102,105,110,105,116,121]⟩] w (aI w (.int .i64 0)):=by
 have hs:0<s.size:=oo om;refine zc func249 rfl ntmps249 rfl ?_;have LW:=aD (No) w;have ak:=aS (No) w;have E:=aD (No) w;refine yi ?_;refine zy ?_;refine aN ?_;refine zy ?_;refine za rfl (QY rfl rfl (zz ?_));refine zcx (yi ?_);refine zd 15 (.bool true) rfl ((by rw[decide_eq_true (by split<;>omega)]:(.bool (decide (0<(if (s.size:Int)<8 then (s.size:Int) else 8))):Value)=_)) (qd ?_);refine za rfl (yn (j:=0) (b:=aJ s 0) u9 rfl rfl rfl (qh hs) (qd ?_));refine zf 23 (.bool false) rfl (by rw[decide_eq_false om]<;>rfl) (jt ?_);refine za rfl (yn (j:=0) (b:=105) u9 rfl rfl rfl kr (zn ?_));refine zd 33 (.bool true) rfl (by rw[bne_iff_ne.2 om]<;>rfl) (jm ?_);exact xj
theorem Ed (s:ByteArray) (h45:aJ s 0=45) (h:48≤aJ s 1∧aJ s 1≤57):Calls prog 215 #[.string s] w (aI w (.tuple #[.float .f64 0,.int .i64 0,.bool false])):=by
 have hs:1<s.size:=oo om;refine zc func215 rfl ntmps215 rfl ?_;have LW:=aD (No) w;have ak:=aS (No) w;have E:=aD (No) w;refine yu ?_;refine zy ?_;refine zn ?_;refine zd 10 (.bool false) rfl (by rw[vm om]<;>rfl) (Mq ?_);refine qfx ?_;refine zf 12 (.int .u8 45) rfl (by rw[h45];rfl) (aDz ?_);refine qfx ?_;refine zf 23 (.int .u8 45) rfl (by rw[h45];rfl) (kz ?_);refine za rfl (vu (l:=1) (h:=s.size) u9 rfl ⟨_,rfl⟩ rfl om om (yi ?_));refine zh rfl aCz rfl (xR _ (s.extract 1 s.size) (by rw[vv];exact h)) E fun w1 E=>(aDq ?_);exact Vp
theorem Ee (s:ByteArray) (f:Nat) (neg:Bool) (hsg:eu s f neg) (h:48≤aJ s f∧aJ s f≤57):Calls prog 215 #[.string s] w (aI w (.tuple #[.float .f64 0,.int .i64 0,.bool false])):=by
 rcases hsg with ⟨_,rfl⟩ | ⟨_,rfl,h45⟩
 · exact qG w s (aJ s 0) (qh (oo om)) h
 · exact Ed w s h45 h
theorem Xa (s:ByteArray) (f:Nat) (neg:Bool) {p Z q:Nat} (hsg:eu s f neg) (hs:Nm s f p Z q) (hl:s.size<100000) (hT:dB bp op cp bf of cf bl ol cl w):Calls prog 201 #[.string s] w (aI w (.tuple #[.float .f64 (iD s f neg),.int .i64 (s.size:Int),mV s f neg])):=by
 have hfd:=hs.first;have hmm:=VI hs;refine zc func201 rfl ntmps201 rfl ?_;obtain ⟨HF,LW,ak,E⟩:=bg w;replace HF:=HF.and (Per.tabs hT (fun _ h=>h.elim));refine yu ?_;refine zh rfl aC5 rfl (Ee _ s f neg hsg hfd) E fun w1 E=>(jY ?_);refine zh rfl aC6 rfl (OZ _ s f neg hsg hs hl) E fun w2 E=>(aDj ?_);refine za rfl (vq u4 rfl rfl (HF.on E).here.2.opt (zl ?_));refine zh rfl Rw rfl (Ij _ neg) E fun w3 E=>(za rfl (gq rfl rfl de (aK6 neg) (zz ?_)));refine zd 69 (.bool (decide (iQ s f=0))) rfl (by rw[IL]<;>rfl) (zg rfl (fun h1=>?_) (fun h1=>?_))
 ·
  have h1:=of_decide_eq_true h1;refine Eb ?_;exact ⟨by rw[show iD s f neg=dw neg ||| 0 by unfold iD;rw[if_pos h1],show mV s f neg= .nilIface by unfold mV;rw[if_pos h1]];rfl,(LW.step E ak).toBelow⟩
 ·
  have h1:=of_decide_eq_false h1;refine qd ?_;refine zg rfl (fun h2=>?_) (fun h2=>?_)
  ·
   have h2:=of_decide_eq_true h2;refine zn ?_;refine za rfl (qO rfl rfl (kg (n:=9218868437227405312) (xI neg) de) (za rfl (va (b:=dw neg ||| 9218868437227405312) jZ rfl (aN ?_))));refine za rfl (FL kr rfl (yi ?_));refine zoq ?_;exact ⟨by rw[show iD s f neg=dw neg ||| 9218868437227405312 by unfold iD;rw[if_neg h1,if_pos h2],show mV s f neg=dZ by unfold mV;rw[if_neg h1,if_pos h2]];rfl,(LW.step E ak).toBelow⟩
  ·
   have h2:=of_decide_eq_false h2;refine qd ?_;refine zg rfl (fun h3=>?_) (fun h3=>?_)
   ·
    have h3:=of_decide_eq_true h3;refine Eb ?_;exact ⟨by rw[show iD s f neg=dw neg ||| 0 by unfold iD;rw[if_neg h1,if_neg h2,if_pos h3],show mV s f neg= .nilIface by unfold mV;rw[if_neg h1,if_neg h2,if_pos h3]];rfl,(LW.step E ak).toBelow⟩
   ·
    have h3:=of_decide_eq_false h3;refine qd ?_;replace HF:=HF.on E;replace LW:=LW.step E ak;replace E:=aD (No) w3;refine yh (ι:=Unit) (fun _=>[(0,.string s),(3,.int .i64 (s.size:Int)),(4,.nilIface),(8,.int .u64 ((iQ s f:Nat):Int)),(9,.int .i64 (Di s f)),(11,.bool (OX s f)),(16,.int .u64 ((dw neg:Nat):Int))]) (fun _ w'=>Ext (No) w3 w'∧(¬(OX s f=false∧(xA (iQ s f) (Di s f) neg).2=true))) ?_ ?_
    ·
     have M4:=aD (No) w3;have He:=aS (No) w3;refine zg rfl (fun h5=>?_) (fun h5=>?_)
     ·
      have h5:OX s f=false:=by simpa using h5
      refine zu ?_;refine zh rfl aC9 rfl (OO _ (iQ s f) (Di s f) neg om (HF.on E).here.2) E fun w6 E=>(vp ?_);refine zg rfl (fun h6=>?_) (fun h6=>?_)
      ·
       refine vp ?_;refine zoq ?_;exact ⟨by rw[show iD s f neg=(xA (iQ s f) (Di s f) neg).1 by unfold iD;rw[if_neg h1,if_neg h2,if_neg h3,if_pos ⟨h5,h6⟩],show mV s f neg= .nilIface by unfold mV;rw[if_neg h1,if_neg h2,if_neg h3,if_pos ⟨h5,h6⟩]];rfl,(LW.step E ak).toBelow⟩
      ·
       refine aN ?_;exact zt () ⟨rfl,rfl,rfl,rfl,rfl,rfl,rfl,trivial⟩ ⟨M4.step E He,fun h=>absurd h.2 (by rw[h6];decide)⟩
     ·
      refine aN ?_;exact zt () ⟨rfl,rfl,rfl,rfl,rfl,rfl,rfl,trivial⟩ ⟨M4.step E He,fun h=>absurd h5 (by rw[h.1];decide)⟩
    ·
     rintro _ w5 ⟨M4,h4⟩;replace E:=E.trans M4;replace HF:=HF.on E;replace LW:=LW.step E ak;replace E:=aD (No) w5;have hj:3≤Dn s f∧Dn s f≤658:=by unfold Dn;omega
     refine zu ?_;refine zf 101 (.int .i64 (((Dn s f:Nat):Int)-348)) rfl (by congr 1;unfold Dn;omega) (zh rfl aiz rfl (Cz _ (iQ s f) (Dn s f) (dw neg) om hj (xI neg) (HF.on E).here.2.pow) E fun w7 E=>(jm ?_));refine zg rfl (fun h5=>?_) (fun h5=>?_)
     ·
      have h5:OX s f=false:=by simpa using h5
      refine jt ?_;refine zoq ?_;exact ⟨by rw[show iD s f neg=qmv (iQ s f) (Dn s f) (dw neg) by unfold iD;rw[if_neg h1,if_neg h2,if_neg h3,if_neg h4,if_pos (.inl h5)];try rfl,show mV s f neg=qnx (iQ s f) (Dn s f) (dw neg) by unfold mV;rw[if_neg h1,if_neg h2,if_neg h3,if_neg h4,if_pos (.inl h5)];try rfl];rfl,(LW.step E ak).toBelow⟩
     ·
      have h5:¬OX s f=false:=fun e=>absurd h5 (by rw[e];decide);refine zu ?_;refine kl ?_;refine zm ?_;refine zf 113 (.int .u64 ((iQ s f+1:Nat):Int)) rfl (rfl) (zf 114 (.int .i64 (((Dn s f:Nat):Int)-348)) rfl (by congr 1;unfold Dn;omega) (za rfl (zb aiz rfl ((Cz _ (iQ s f+1) (Dn s f) (dw neg) om hj (xI neg) (HF.on E).here.2.pow).mono ?_))));rintro e w8 ⟨rfl,hb⟩;refine ⟨_,rfl,?_⟩;have Ec:=Ext.of_below hb No;replace E:=E.trans Ec.no;refine yu ?_;refine za rfl (uO rfl rfl (zm ?_));refine zg rfl (fun h6=>?_) (fun h6=>?_)
      ·
       have h6:atL s f neg=true:=h6;refine vp ?_;refine zoq ?_;exact ⟨by rw[show iD s f neg=qmv (iQ s f) (Dn s f) (dw neg) by unfold iD;rw[if_neg h1,if_neg h2,if_neg h3,if_neg h4,if_pos (.inr h6)];try rfl,show mV s f neg=qnx (iQ s f) (Dn s f) (dw neg) by unfold mV;rw[if_neg h1,if_neg h2,if_neg h3,if_neg h4,if_pos (.inr h6)];try rfl];rfl,(LW.step E ak).toBelow⟩
      ·
       have h6:¬(OX s f=false∨atL s f neg=true):=fun h=>h.elim h5 (fun h=>by rw[show atL s f neg=false from h6] at h;cases h);have hdec:=ad5 neg hs;have aS4:=ae3 neg hs hl;refine zx ?_;refine za rfl (zbx aK3 ?_);intro gc w9 Bc Ec Gc;replace Bc:aB w9 gc 229 (yj (xE false)):=Bc;have Gc:_≤gc:=Nat.le_trans E.size Gc;have GLc:=Nat.le_trans LW.size Gc;replace E:=E.trans Ec.no;replace HF:=HF.cons (ym Gc);replace E:=E.cons (some gc);replace ak:=aj.grow ak (fun k e=>Or.inr (Nat.le_trans LW.size ((ym Gc) k e)));have hg:=hT.below.le GLc;refine zp ?_;refine za rfl (vu (l:=0) (h:=s.size) u9 rfl rfl ⟨_,rfl⟩ (Nat.zero_le _) (Nat.le_refl _) (zf 127 (.string s) rfl (by rw[vck]<;>rfl) (za rfl (zb aC7 rfl ((ae1 _ gc s f neg hsg hs hl Bc).mono ?_)))));rintro e dH ⟨rfl,hB,hE⟩;refine ⟨_,rfl,?_⟩;replace Bc:=hB;clear hB;replace E:=E.step1 hE aj.head;clear hE;refine yi ?_;refine za rfl (zb aC8 rfl ((Wx _ gc (fO s f neg) hdec aS4 Bc (HF.on E).here.2 hg).mono ?_));rintro e dQ ⟨rfl,⟨t9,hB⟩,hE⟩;refine ⟨_,rfl,?_⟩;replace Bc:=hB;clear hB;replace E:=E.step1 hE aj.head;clear hE;refine zz ?_;refine za rfl (va (b:=Lg (fO s f neg)) jZ rfl (qd ?_));refine zg rfl (fun h7=>?_) (fun h7=>?_)
       ·
        refine aN ?_;refine za rfl (FL kr rfl (jm ?_));refine zoq ?_;exact ⟨by rw[show iD s f neg=Lg (fO s f neg) by unfold iD;rw[if_neg h1,if_neg h2,if_neg h3,if_neg h4,if_neg h6],show mV s f neg=dZ by unfold mV;rw[if_neg h1,if_neg h2,if_neg h3,if_neg h4,if_neg h6,if_pos h7]];rfl,(LW.step E ak).toBelow⟩
       ·
        refine jt ?_;refine zoq ?_;exact ⟨by rw[show iD s f neg=Lg (fO s f neg) by unfold iD;rw[if_neg h1,if_neg h2,if_neg h3,if_neg h4,if_neg h6],show mV s f neg= .nilIface by unfold mV;rw[if_neg h1,if_neg h2,if_neg h3,if_neg h4,if_neg h6,if_neg (by rw[h7];decide)]];rfl,(LW.step E ak).toBelow⟩
theorem xS (s:ByteArray) (f:Nat) (neg:Bool) {p Z q:Nat} (hsg:eu s f neg) (hs:Nm s f p Z q) (hl:s.size<100000) (hT:dB bp op cp bf of cf bl ol cl w):Calls prog 186 #[.string s,.int .i64 64] w (aI w (.tuple #[.float .f64 (iD s f neg),.int .i64 (s.size:Int),mV s f neg])):=by
 refine zc func186 rfl ntmps186 rfl ?_;have LW:=aD (No) w;have ak:=aS (No) w;have E:=aD (No) w;refine jY ?_;refine zh rfl aC1 rfl (Xa _ s f neg hsg hs hl hT) E fun w1 E=>(qd ?_);refine gr (rs:=[.tmp 4,.tmp 5,.tmp 6]) (vs:=[_,_,_]) rfl ⟨rfl,rfl,rfl,trivial⟩ ?_;exact xj
theorem Pm (s:ByteArray) (f:Nat) (neg:Bool) {p Z q:Nat} (hsg:eu s f neg) (hs:Nm s f p Z q) (hl:s.size<100000) (hT:dB bp op cp bf of cf bl ol cl w):Calls prog 155 #[.string s,.int .i64 64] w (aI w (.tuple #[.float .f64 (iD s f neg),mV s f neg])):=by
 refine zc func155 rfl ntmps155 rfl ?_;have LW:=aD (No) w;have ak:=aS (No) w;have E:=aD (No) w;refine zz ?_;refine zh rfl aBj rfl (xS _ s f neg hsg hs hl hT) E fun w1 E=>(jm ?_);refine zy ?_;refine zn ?_;refine zd 19 (.bool false) rfl (by simp) (jt ?_);exact xj
theorem qax (s:ByteArray) (f:Nat) (neg:Bool) {p Z q:Nat} (hsg:eu s f neg) (hs:Nm s f p Z q) (hl:s.size<100000) (hT:dB bp op cp bf of cf bl ol cl w) (hE:∃te pe,w.cell? ⟨4,0,none⟩=some (.iface te pe)):Calls prog 102 #[.string s,.int .i64 64] w fun e w'=>(∃er,e= .returned (.tuple #[.float .f64 (iD s f neg),er]))∧Below w.heap.size w w':=by
 obtain ⟨te,pe,hE⟩:=hE;have hor:=aw9 s f neg;obtain ⟨er,her⟩:∃er,er=mV s f neg:=⟨_,rfl⟩;rw[←her] at hor;refine zc func102 rfl ntmps102 rfl ?_;obtain ⟨HF,LW,ak,E⟩:=bg w;replace HF:=HF.and (Per.dA hE (fun _ h=>h.elim));refine zz ?_;refine zh rfl aB7 rfl (Pm _ s f neg hsg hs hl hT) E fun w1 E=>?_;rw[←her];by_cases hn:er= .nilIface
 ·
  subst hn;refine yu ?_;refine za rfl (YD u83 rfl (jm ?_));exact ⟨⟨_,rfl⟩,(LW.step E ak).toBelow⟩
 ·
  obtain rfl:er=dZ:=hor.resolve_left hn;refine yu ?_;refine za rfl (ae2 u83 rfl (qd ?_));refine za rfl (zb aB5 rfl ((O8 _ s 0 64 _ hl ⟨te,pe,(HF.on E).here.2⟩).mono ?_));rintro e w2 ⟨⟨er2,rfl⟩,hb⟩;refine ⟨_,rfl,?_⟩;replace E:=bT E hb;refine zp ?_;exact ⟨⟨_,rfl⟩,(LW.step E ak).toBelow⟩
theorem Pn (s:ByteArray) {p Z q:Nat} (hs:Nm s 0 p Z q) (hl:s.size<100000) (hT:dB bp op cp bf of cf bl ol cl w) (hE:∃te pe,w.cell? ⟨4,0,none⟩=some (.iface te pe)):Calls prog 102 #[.string s,.int .i64 64] w fun e w'=>(∃er,e= .returned (.tuple #[.float .f64 (iD s 0 false),er]))∧Below w.heap.size w w':=qax w s 0 false (.inl ⟨rfl,rfl⟩) hs hl hT hE
end
end Go.Proofs.YtmnmebdmpigddaaGreatDoor
namespace Go.Proofs.YtmnmebdmpigddaaGreatDoor
open Go.RowKit Proofs.Tryz
attribute [local irreducible] OW RS CW EW
theorem Jd (w:World) (g off:Nat) (dk:Array UInt8) (n:Nat):Ext (aj [some g]) w ((Sort.putRow (fun (b:UInt8)=>Value.int .u8 (b.toNat:Int)) w g off dk).drewN n):=by
 refine ⟨rfl,rfl,rfl,?_,?_⟩
 · simp[Sort.putRow,Sort.mapBlock,World.drewN]
 · intro i hi hx;have hne:g≠i:=fun e=>hx (Or.inl (congrArg some e.symm));simp[Sort.putRow,Sort.mapBlock,World.drewN,Array.getElem?_modify,hne]
theorem Ef (i:Nat) (h:i<100) (w:World):Calls prog 202 #[.int .i64 i] w fun e w'=>e= .returned (.string ⟨(Lib.decDigits i).toArray⟩)∧Below w.heap.size w w':=
 (Tryz.internal_strconv_small i h w).mono fun _ _ ⟨a,b⟩=>⟨a,b▸Below.refl _ _⟩
theorem Po (u:Nat) (hu:u<100) (w:World):Calls prog 187 #[.int .u64 u,.int .i64 10] w (aI w (.string ⟨(Lib.decDigits u).toArray⟩)):=by
 have hd:decide (((u:Nat):Int)<100)=true:=decide_eq_true om;refine zc func187 rfl ntmps187 rfl ?_;have LW:=aD (No) w;have ak:=aS (No) w;have E:=aD (No) w;refine jY ?_;refine zd 12 (.bool true) rfl (by rw[hd]<;>rfl) (zx ?_);refine ZF ?_;refine zh rfl aC2 rfl (Ef u hu _) E fun w1 E=>(zp ?_);exact xj
theorem xU (u:Nat) (h1:1≤u) (h2:u<18446744073709551616) (w:World) (htab:Lib.TabIs prog w "internal/strconv.uint64pow10" .u64 Lib.pow10Tab):Calls prog 203 #[.int .u64 u] w fun e w'=>e= .returned (.int .i64 ((Lib.nDigits u:Nat):Int))∧Below w.heap.size w w':=
 (Tryz.internal_strconv_numDigits u h1 h2 w htab).mono fun _ _ ⟨a,b⟩=>⟨a,b▸Below.refl _ _⟩
theorem ae8 (u:Nat) (hu:100≤u) (hu64:u<18446744073709551616) (w:World) (g:Nat) (hB0:aB w g 201 (Array.replicate 24 (.int .u8 0))) :
 Calls prog 204 #[.slice (some ⟨g,0,none⟩) (Lib.nDigits u) 24,.int .u64 u] w fun e w'=>e= .returned (.tuple #[])∧ ∃cs,aB w' g 201 cs∧Ext (aj [some g]) w w'∧ ∀j (hj:j<(Lib.decDigits u).length),w'.cell? ⟨g,0+j,none⟩=some (.int .u8 ((Lib.decDigits u)[j].toNat:Int)):=by
 have aS5:Lib.nDigits u≤20:=by have:=Lib.numDigits_eq u om hu64;split at this<;>omega
 have hsz:(Array.replicate (Lib.nDigits u) (0:UInt8)).size=Lib.nDigits u:=by simp
 have hH:Sort.Holds (fun (b:UInt8)=>Value.int .u8 (b.toNat:Int)) w g 0 (Array.replicate (Lib.nDigits u) 0):=by
  intro j hj;rw[hsz] at hj;have aS6:j<24:=om;refine ⟨?_,?_⟩
  · rw[hB0.cell];simp[hj,aS6]
  · unfold World.frozen?;simp[show w.heap[g]? =some (.cells (Array.replicate 24 (.int .u8 0)) 201 (0,0)) from hB0]
 have h:=Tryz.internal_strconv_formatBase10 g 0 24 u (Array.replicate (Lib.nDigits u) 0) w hH (by rw[hsz];exact Lib.lt_pow_nDigits u) hu64 (by rw[hsz];omega);rw[hsz] at h;refine h.mono fun e w' ⟨he,n,v',dk,hw,hF⟩=>⟨he,?_⟩;have hdk:dk.size=Lib.nDigits u:=hF.size;subst hw;refine ⟨Sort.putCells (fun (b:UInt8)=>Value.int .u8 (b.toNat:Int)) 0 dk (Array.replicate 24 (.int .u8 0)),?_,Jd w g 0 dk n,fun j hj=>?_⟩
 · show (Array.modify w.heap g _)[g]? =_
   rw[Array.getElem?_modify,if_pos rfl,show w.heap[g]? =some (.cells (Array.replicate 24 (.int .u8 0)) 201 (0,0)) from hB0];rfl
 · have hjn:j<Lib.nDigits u:=by rw[Lib.decDigits_length] at hj;exact hj
   rw[Lib.row_is_numeral hF j hj,World.cell?_drewN];exact Sort.cell?_putRow (fun (b:UInt8)=>Value.int .u8 (b.toNat:Int)) w g 0 _ dk hH (by rw[hdk,hsz]) j (by rw[hdk];exact hjn)
theorem ae9 (u:Nat) (hu:100≤u) (hu64:u<18446744073709551616) (w:World) (htab:∀b,Below w.heap.size w b→Lib.TabIs prog b "internal/strconv.uint64pow10" .u64 Lib.pow10Tab):Calls prog 187 #[.int .u64 u,.int .i64 10] w (aI w (.string ⟨(Lib.decDigits u).toArray⟩)):=by
 have hd:decide (((u:Nat):Int)<100)=false:=decide_eq_false om;refine zc func187 rfl ntmps187 rfl ?_;have LW:=aD (No) w;have ak:=aS (No) w;have E:=aD (No) w;refine jY ?_;refine zd 12 (.bool false) rfl (by rw[hd]<;>rfl) (zu ?_);refine za rfl (zbx az9 ?_);intro aG w2 aA aK aP;have aP:_≤aG:=Nat.le_trans E.size aP;have Ho:=Nat.le_trans LW.size aP;replace E:=E.trans aK.no;replace E:=E.cons (some aG);replace ak:=aj.grow ak (fun k e=>Or.inr (Nat.le_trans LW.size ((ym aP) k e)));refine zu ?_;refine za rfl (zb aC3 rfl ((xU u om hu64 _ (htab _ (LW.step E ak).toBelow)).mono ?_));rintro e w3 ⟨rfl,hb⟩;refine ⟨_,rfl,?_⟩;have Ec:=Ext.of_below hb No;replace aA:=aA.ay Ec ah.nil;replace E:=E.trans Ec.no;refine zl ?_;have aS5:Lib.nDigits u≤20:=by have:=Lib.numDigits_eq u om hu64;split at this<;>omega
 refine za rfl (qY underlying201 iL rfl rfl om (aN ?_));refine za rfl (zb aC4 rfl ((ae8 u hu hu64 _ aG aA).mono ?_));rintro e w4 ⟨rfl,cs1,hB,hE,hcs⟩;refine ⟨_,rfl,?_⟩;replace aA:=hB;clear hB;replace E:=E.step1 hE aj.head;clear hE;refine zu ?_;refine za rfl (qY underlying201 iL rfl rfl om ?_);have hlen:(Lib.decDigits u).length=Lib.nDigits u:=Lib.decDigits_length u;refine za rfl (ymv (l:=Lib.decDigits u) (A:=some ⟨aG,0,none⟩) (c:=24) u46 u5 u9 (by rw[hlen];rfl) (fun _↦⟨aG,0,rfl,hcs⟩) (zl ?_));exact ⟨rfl,(LW.step E ak).toBelow⟩
theorem aez (u:Nat) (hu64:u<18446744073709551616) (w:World) (htab:∀b,Below w.heap.size w b→Lib.TabIs prog b "internal/strconv.uint64pow10" .u64 Lib.pow10Tab):Calls prog 187 #[.int .u64 u,.int .i64 10] w (aI w (.string ⟨(Lib.decDigits u).toArray⟩)):=by
 rcases Nat.lt_or_ge u 100 with h | h
 · exact Po u h w
 · exact ae9 u h hu64 w htab
end Go.Proofs.YtmnmebdmpigddaaGreatDoor
namespace Go.Proofs.YtmnmebdmpigddaaGreatDoor
open Go.RowKit Proofs.Tryz
theorem Xb {P:Prop} (h:P:=by
 rintro e w1 ⟨rfl,hb⟩;refine ⟨_,rfl,?_⟩;replace E:=bT E hb;clear hb;exact ZB):P:=h
theorem aK7 {P:Prop} (h:P:=by
 refine zd 4 (.int .i64 (((limbs i).length:Int)-1-((0:Nat):Int))) rfl (by simp) ?_;replace HF:=HF.on E;replace LW:=LW.step E ak;replace E:=aD (No) w3;refine yw (ι:=Nat) (fun k=>[(1,.pointer (some ⟨aG,0,none⟩)),(3,.string ⟨(kk i k).toArray⟩),(4,.int .i64 (((limbs i).length:Int)-1-(k:Int)))]) (fun k w'=>Ext (No) w3 w'∧(k≤(limbs i).length)) (fun k=>(limbs i).length-k) 0 ⟨rfl,rfl,rfl,trivial⟩ ⟨Ext.refl _ _,Nat.zero_le _⟩ ?_;rintro k w5 ⟨M4,hk⟩;have He:=aS (No) w3;replace E:=E.trans M4;replace HF:=HF.on E;replace LW:=LW.step E ak;replace E:=aD (No) w5;refine zp ?_;refine zg rfl (fun q=>?_) (fun q=>?_)
 ·
  have q:=of_decide_eq_true q;obtain ⟨m,hm⟩:∃m,m=i.natAbs/au^((limbs i).length-1-k)%au:=⟨_,rfl⟩;have hm18:m<au:=by rw[hm];exact Nat.mod_lt _ (by unfold au;omega)
  have Zk:m<18446744073709551616:=by unfold au at hm18;omega
  have hnd:=nR hm18;have hlt:=I7 (i:=i) hk hl2;have hdl:=Lib.decDigits_length m;refine qd ?_;refine za rfl (kd (j:=(limbs i).length-1-k) u22 zD rfl rfl om om ?_);obtain ⟨b9,o9,hA9,_,hc9⟩:=((HF.on E).here.1.2).2 hpos;obtain ⟨rfl,rfl⟩:b9=bx∧o9=ox:=by simpa using hA9.symm
  have hc8:=hc9 ((limbs i).length-1-k) om;rw[WU,←hm] at hc8;refine za rfl (vq u25 rfl rfl hc8 (za rfl (zb aBq rfl ((aS7 m Zk _ (ht.below (LW.step E ak).toBelow)).mono ?_))));rintro e w6 ⟨rfl,hb⟩;refine ⟨_,rfl,?_⟩;replace E:=bT E hb;clear hb;refine zz ?_;refine za rfl (jg rfl rfl (yx om) (zn ?_));refine zg rfl (fun h2=>?_) (fun h2=>?_)
  ·
   have h2:=of_decide_eq_true h2;have hk0:0<k:=om;refine zm ?_;refine za rfl (qjv u9 rfl (zf 36 (.int .i64 ((Lib.nDigits m:Nat):Int)) rfl (by rw[jq,hdl]) (za rfl (vu (l:=Lib.nDigits m) (h:=18) u9 rfl ⟨_,rfl⟩ rfl hnd (Nat.le_refl _) (zf 37 (.string ⟨(List.replicate (18-Lib.nDigits m) (48:UInt8)).toArray⟩) rfl (by rw[Eh]<;>rfl) (aN ?_))))));refine za rfl (uK rfl rfl (by rw[jq,jq,List.length_replicate,hdl];omega) (zf 39 (.string ⟨(List.replicate (18-Lib.nDigits m) (48:UInt8)++Lib.decDigits m).toArray⟩) rfl (by rw[Je]<;>rfl) (zl ?_)));refine za rfl (uK rfl rfl (by rw[jq,jq,List.length_append,List.length_replicate,hdl];omega) (zf 42 (.string ⟨(kk i (k+1)).toArray⟩) rfl (by rw[Je,hm,qzk hk0 om]<;>rfl) (zl ?_)));refine za rfl (jg rfl rfl (yx om) (zm ?_));refine zq 4 (.int .i64 (((limbs i).length:Int)-1-((k+1:Nat):Int))) rfl ((by rw[show ((limbs i).length:Int)-1-(k:Int)-1=((limbs i).length:Int)-1-((k+1:Nat):Int) from om]:(.int .i64 ((((limbs i).length:Int)-1-(k:Int))-1):Value)=_)) ?_;exact zo (k+1) (by show (limbs i).length-(k+1)<(limbs i).length-k;omega) ⟨rfl,rfl,rfl,trivial⟩ ⟨M4.step E He,(by omega:k+1≤(limbs i).length)⟩
  ·
   have h2:=of_decide_eq_false h2;have hk0:k=0:=om;have hone:kk i k++Lib.decDigits m=kk i (k+1):=by rw[hm,hk0];exact nS hpos
   refine zu ?_;refine za rfl (uK rfl rfl (by rw[jq,jq,hdl];omega) (zf 42 (.string ⟨(kk i (k+1)).toArray⟩) rfl (by rw[Je,hone]<;>rfl) (zl ?_)));refine za rfl (jg rfl rfl (yx om) (zm ?_));refine zq 4 (.int .i64 (((limbs i).length:Int)-1-((k+1:Nat):Int))) rfl ((by rw[show ((limbs i).length:Int)-1-(k:Int)-1=((limbs i).length:Int)-1-((k+1:Nat):Int) from om]:(.int .i64 ((((limbs i).length:Int)-1-(k:Int))-1):Value)=_)) ?_;exact zo (k+1) (by show (limbs i).length-(k+1)<(limbs i).length-k;omega) ⟨rfl,rfl,rfl,trivial⟩ ⟨M4.step E He,(by omega:k+1≤(limbs i).length)⟩
 ·
  have q:=of_decide_eq_false q;obtain rfl:k=(limbs i).length:=om;refine jt ?_;exact ⟨by rw[I6 hpos];rfl,(LW.step E ak).toBelow⟩):P:=h
attribute [local irreducible] OW RS CW EW
def Tab (w:World):Prop:=∀b,Below w.heap.size w b→Lib.TabIs prog b "internal/strconv.uint64pow10" .u64 Lib.pow10Tab
theorem Tab.below {w w':World} (h:Tab w) (hb:Below w.heap.size w w'):Tab w':=fun b hb'=>h b (hb.trans (hb'.mono hb.size))
theorem jq (l:List UInt8):(⟨l.toArray⟩:ByteArray).size=l.length:=by simp[ByteArray.size]
theorem Je (a b:List UInt8):(⟨a.toArray⟩:ByteArray)++ ⟨b.toArray⟩= ⟨(a++b).toArray⟩:=by
 apply ByteArray.ext
 rw[ByteArray.data_append];simp
theorem xV (a:List UInt8) (l h:Nat):(⟨a.toArray⟩:ByteArray).extract l h= ⟨((a.take h).drop l).toArray⟩:=by
 apply ByteArray.ext
 rw[ByteArray.data_extract];apply Array.ext'
 simp[List.extract,List.drop_take]
theorem Eh {n:Nat}:(⟨#[48,48,48,48,48,48,48,48,48,48,48,48,48,48,48,48,48,48]⟩:ByteArray).extract n 18= ⟨(List.replicate (18-n) (48:UInt8)).toArray⟩:=by
 have h:=xV (List.replicate 18 48) n 18;rw[List.take_of_length_le (by simp),List.drop_replicate] at h;exact h
theorem aS7 (u:Nat) (hu64:u<18446744073709551616) (w:World) (ht:Tab w):Calls prog 160 #[.int .u64 u,.int .i64 10] w (aI w (.string ⟨(Lib.decDigits u).toArray⟩)):=by
 refine zc func160 rfl ntmps160 rfl ?_;have LW:=aD (No) w;have ak:=aS (No) w;have E:=aD (No) w;refine qd ?_;refine za rfl (zb aC0 rfl ((aez u hu64 _ (ht.below (LW.step E ak).toBelow)).mono ?_));exact Xb
section
variable (i:Int) (A:Option Addr) (c:Nat) (w:World) (hi:i.natAbs<au^30) (hx:aC w A (limbs i)) (ht:Tab w)
include hi hx ht
theorem Pp (h0:i=0):Calls prog 110 #[.agg #[.bool (decide (i<0)),.slice A (limbs i).length c]] w (aI w (.string ⟨(Lib.itoa i).toArray⟩)):=by
 have _:=ht;have hl:((limbs i).length:Int)=0:=by rw[h0,vi];rfl
 refine zc func110 rfl ntmps110 rfl ?_;obtain ⟨HF,LW,ak,E⟩:=bg w;replace HF:=HF.and (Per.aH hx);refine zi ?_;intro aG w2 aA aK aP;obtain ⟨HF,LW,E⟩:=bD HF LW E ak aA aK;refine zp ?_;refine za rfl (zb zH rfl ((Qc A c _ hi (HF.on E).here.1.2).mono ?_));rintro e w3 ⟨rfl,hb⟩;refine ⟨_,rfl,?_⟩;replace E:=bT E hb;clear hb;refine kz ?_;refine zd 12 (.bool true) rfl (by rw[hl];rfl) ?_;exact WR
theorem Xc (hn:i<0):Calls prog 110 #[.agg #[.bool (decide (i<0)),.slice A (limbs i).length c]] w (aI w (.string ⟨(Lib.itoa i).toArray⟩)):=by
 have hpos:=qlq (j:=i) om;have hl:((limbs i).length:Int)≠0:=om;have hl2:=ve hi;have hdi:decide (i<0)=true:=decide_eq_true hn;obtain ⟨bx,ox,rfl,hbx,hcx⟩:=hx.2 hpos;refine zc func110 rfl ntmps110 rfl ?_;obtain ⟨HF,LW,ak,E⟩:=bg w;replace HF:=HF.and (Per.aH hx);refine zi ?_;intro aG w2 aA aK aP;obtain ⟨HF,LW,E⟩:=bD HF LW E ak aA aK;refine zp ?_;refine za rfl (zb zH rfl ((Qc _ c _ hi (HF.on E).here.1.2).mono ?_));rintro e w3 ⟨rfl,hb⟩;refine ⟨_,rfl,?_⟩;replace E:=bT E hb;clear hb;refine kz ?_;refine zd 12 (.bool false) rfl (by rw[beq_eq_false_iff_ne.2 hl]<;>rfl) (kz ?_);refine zd 14 (.bool true) rfl (by rw[hdi]<;>rfl) (yu ?_);refine yl ?_;refine zx ?_;refine zd 3 (.string ⟨(kk i 0).toArray⟩) rfl (by rw[yjk,if_pos hn]<;>rfl) ?_;exact aK7
theorem Xd (hn:0<i):Calls prog 110 #[.agg #[.bool (decide (i<0)),.slice A (limbs i).length c]] w (aI w (.string ⟨(Lib.itoa i).toArray⟩)):=by
 have hpos:=qlq (j:=i) om;have hl:((limbs i).length:Int)≠0:=om;have hl2:=ve hi;have hdi:decide (i<0)=false:=decide_eq_false om;obtain ⟨bx,ox,rfl,hbx,hcx⟩:=hx.2 hpos;refine zc func110 rfl ntmps110 rfl ?_;obtain ⟨HF,LW,ak,E⟩:=bg w;replace HF:=HF.and (Per.aH hx);refine zi ?_;intro aG w2 aA aK aP;obtain ⟨HF,LW,E⟩:=bD HF LW E ak aA aK;refine zp ?_;refine za rfl (zb zH rfl ((Qc _ c _ hi (HF.on E).here.1.2).mono ?_));rintro e w3 ⟨rfl,hb⟩;refine ⟨_,rfl,?_⟩;replace E:=bT E hb;clear hb;refine kz ?_;refine zd 12 (.bool false) rfl (by rw[beq_eq_false_iff_ne.2 hl]<;>rfl) (kz ?_);refine zd 14 (.bool false) rfl (by rw[hdi]<;>rfl) (qd ?_);refine yl ?_;refine zx ?_;refine zd 3 (.string ⟨(kk i 0).toArray⟩) rfl (by rw[yjk,if_neg om]<;>rfl) ?_;exact aK7
theorem aK8:Calls prog 110 #[.agg #[.bool (decide (i<0)),.slice A (limbs i).length c]] w (aI w (.string ⟨(Lib.itoa i).toArray⟩)):=by
 rcases Int.lt_trichotomy i 0 with h | h | h
 · exact Xc i A c w hi hx ht h
 · exact Pp i A c w hi hx ht h
 · exact Xd i A c w hi hx ht h
end
end Go.Proofs.YtmnmebdmpigddaaGreatDoor
namespace Go.Proofs.YtmnmebdmpigddaaGreatDoor
open Go.RowKit Proofs.Tryz
theorem Xe {P:Prop} (h:P:=by
 have h:=of_decide_eq_true h;refine qd ?_;exact ⟨by unfold Yo ofE;rw[if_pos h,if_pos h];rfl,(LW.step E ak).toBelow⟩):P:=h
attribute [local irreducible] OW RS CW EW
section
variable (w:World) {bp op cp bf of cf bl ol cl:Nat}
theorem axz (n1:Bool) (A:Option Addr) (c:Nat) (xs:List Nat) (hl:xs.length≤9223372036854775807) (hx:aC w A xs) (hg:zr n1 xs=false):Calls prog 98 #[.agg #[.bool n1,.slice A xs.length c]] w (aI w (.tuple #[.int .u64 0,.int .i64 3])):=by
 refine zc func98 rfl ntmps98 rfl ?_;obtain ⟨HF,LW,ak,E⟩:=bg w;replace HF:=HF.and (Per.aH hx);refine zi ?_;intro aG w2 aA aK aP;obtain ⟨HF,LW,E⟩:=bD HF LW E ak aA aK;refine yi ?_;refine za rfl (zb zH rfl ((yr _ c _ A xs hl (HF.on E).here.1.2).mono ?_));rintro e w3 ⟨rfl,hb⟩;refine ⟨_,rfl,?_⟩;replace E:=bT E hb;clear hb;refine zf 7 (.bool false) rfl (by rw[hg]<;>rfl) (jt ?_);exact xj
theorem aex (i:Int) (A:Option Addr) (c:Nat) (hi:i.natAbs<au^30) (hx:aC w A (limbs i)) (hD:∀b,Below w.heap.size w b→xW b) (hT:dB bp op cp bf of cf bl ol cl w) (hE:∃te pe,w.cell? ⟨4,0,none⟩=some (.iface te pe)):Calls prog 98 #[.agg #[.bool (decide (i<0)),.slice A (limbs i).length c]] w (aI w (.tuple #[.int .u64 ((Yo i:Nat):Int),.int .i64 (ofE i)])):=by
 obtain ⟨te,pe,hE⟩:=hE;refine zc func98 rfl ntmps98 rfl ?_;obtain ⟨HF,LW,ak,E⟩:=bg w;replace HF:=HF.and (Per.aH hx);replace HF:=HF.and (Per.tabs hT (fun _ h=>h.elim));replace HF:=HF.and (Per.dA hE (fun _ h=>h.elim));refine zi ?_;intro aG w2 aA aK aP;obtain ⟨HF,LW,E⟩:=bD HF LW E ak aA aK;refine yi ?_;refine za rfl (zb zH rfl ((Qc _ c _ hi (HF.on E).here.1.1.1.2).mono ?_));rintro e w3 ⟨rfl,hb⟩;refine ⟨_,rfl,?_⟩;replace E:=bT E hb;clear hb;refine qd ?_;refine za rfl (zb aB3 rfl ((aK8 i A c _ hi (HF.on E).here.1.1.1.2 (later hD (LW.step E ak).toBelow)).mono ?_));rintro e w4 ⟨rfl,hb⟩;refine ⟨_,rfl,?_⟩;replace E:=bT E hb;clear hb;refine za rfl (zb Rp rfl ((qax _ (Ja i) (Pk i) (decide (i<0)) (WW i) (WX i) (LG hi) (HF.on E).here.1.1.2 ⟨te,pe,(HF.on E).here.1.2⟩).mono ?_));rintro e w5 ⟨⟨er,rfl⟩,hb⟩;refine ⟨_,rfl,?_⟩;replace E:=bT E hb;clear hb;refine yu ?_;refine za rfl (zb ig rfl ((jj _ (ofN i) (vfz i).lt).mono ?_));rintro e w6 ⟨rfl,hb⟩;refine ⟨_,rfl,?_⟩;replace E:=bT E hb;clear hb;refine zm ?_;refine zg rfl (fun h=>?_) (fun h=>?_)
 ·
  exact Xe
 ·
  have h:=of_decide_eq_false h;refine zu ?_;refine za rfl (zb Rm rfl ((ypk _ (ofN i)).mono ?_));rintro e w7 ⟨rfl,hb⟩;refine ⟨_,rfl,?_⟩;replace E:=bT E hb;clear hb;refine zl ?_;exact ⟨by unfold Yo ofE;rw[if_neg h,if_neg h,WY];rfl,(LW.step E ak).toBelow⟩
theorem Xf (n1:Bool) (A:Option Addr) (c:Nat) (xs:List Nat) (hl:xs.length≤9223372036854775807) (hx:aC w A xs) (hg:zr n1 xs=false):Calls prog 107 #[.agg #[.bool n1,.slice A xs.length c]] w (aI w (.tuple #[.int .u64 0,.int .i64 3])):=by
 refine zc func107 rfl ntmps107 rfl ?_;obtain ⟨HF,LW,ak,E⟩:=bg w;replace HF:=HF.and (Per.aH hx);refine zi ?_;intro aG w2 aA aK aP;obtain ⟨HF,LW,E⟩:=bD HF LW E ak aA aK;refine yi ?_;refine za rfl (zb aqz rfl ((qtx _ c _ A xs hl (HF.on E).here.1.2).mono ?_));rintro e w3 ⟨rfl,hb⟩;refine ⟨_,rfl,?_⟩;replace E:=bT E hb;clear hb;refine zf 8 (.bool false) rfl (by rw[hg]<;>rfl) (jt ?_);exact xj
theorem Pq (i:Int) (A:Option Addr) (c:Nat) (hi:i.natAbs<au^30) (hx:aC w A (limbs i)) (hT:dB bp op cp bf of cf bl ol cl w) (hE:∃te pe,w.cell? ⟨4,0,none⟩=some (.iface te pe)):Calls prog 107 #[.agg #[.bool (decide (i<0)),.slice A (limbs i).length c]] w (aI w (.tuple #[.int .u64 ((Yo i:Nat):Int),.int .i64 (ofE i)])):=by
 obtain ⟨te,pe,hE⟩:=hE;refine zc func107 rfl ntmps107 rfl ?_;obtain ⟨HF,LW,ak,E⟩:=bg w;replace HF:=HF.and (Per.aH hx);replace HF:=HF.and (Per.tabs hT (fun _ h=>h.elim));replace HF:=HF.and (Per.dA hE (fun _ h=>h.elim));refine zi ?_;intro aG w2 aA aK aP;obtain ⟨HF,LW,E⟩:=bD HF LW E ak aA aK;refine yi ?_;refine za rfl (zb aqz rfl ((atz _ c _ hi (HF.on E).here.1.1.1.2).mono ?_));rintro e w3 ⟨rfl,hb⟩;refine ⟨_,rfl,?_⟩;replace E:=bT E hb;clear hb;refine qd ?_;refine za rfl (zb aA7 rfl ((aQ0 _ c _ hi (HF.on E).here.1.1.1.2).mono ?_));rintro e w4 ⟨A2,c2,rfl,o2,hb⟩;refine ⟨_,rfl,?_⟩;have XC:∀q9,(No) q9→q9<w3.heap.size:=aj.none_;replace E:=bT E hb;clear hb;obtain ⟨HF,LW,E⟩:=cO HF LW E ak (Per.eO o2 XC);refine za rfl (zb aB9 rfl ((Pf i A2 c2 _ hi (HF.on E).here.2).mono ?_));rintro e w5 ⟨rfl,hb⟩;refine ⟨_,rfl,?_⟩;replace E:=bT E hb;clear hb;refine za rfl (zb Rp rfl ((qax _ (Ja i) (Pk i) (decide (i<0)) (WW i) (WX i) (LG hi) (HF.on E).here.1.1.1.2 ⟨te,pe,(HF.on E).here.1.1.2⟩).mono ?_));rintro e w6 ⟨⟨er,rfl⟩,hb⟩;refine ⟨_,rfl,?_⟩;replace E:=bT E hb;clear hb;refine zz ?_;refine ZA ?_;refine zp ?_;refine za rfl (zb ahj rfl ((rQ _ (ofN i) (vfz i).lt).mono ?_));rintro e w7 ⟨rfl,hb⟩;refine ⟨_,rfl,?_⟩;replace E:=bT E hb;clear hb;refine zm ?_;refine zg rfl (fun h=>?_) (fun h=>?_)
 ·
  exact Xe
 ·
  have h:=of_decide_eq_false h;refine yu ?_;exact ⟨by unfold Yo ofE;rw[if_neg h,if_neg h];rfl,(LW.step E ak).toBelow⟩
noncomputable def wV (a:Nat):Int:=if bI a then 0 else if rg a=9218868437227405312 then 0 else vw a
noncomputable def wE (a:Nat):Int:=if bI a then 1 else if rg a=9218868437227405312 then 7 else 0
theorem aK9 (a:Nat):(wV a).natAbs<au^30:=by
 have h0:(0:Int).natAbs<au^30:=by show 0<au^30;exact Nat.pow_pos (by unfold au;decide)
 unfold wV;split
 · exact h0
 · rename_i h
   split
   · exact h0
   · rename_i h2
     have h3:=of_decide_eq_false (Bool.eq_false_iff.2 h);exact zmv om
theorem qbq {W w':World} {f:Int} (hb:Below W.heap.size W w'):yd W 0 f (.returned (.tuple #[.agg #[.bool false,.slice none 0 0],.int .i64 f])) w':=
 ⟨none,0,by rw[vi];rfl,by rw[vi];exact Own.nil _ _,hb⟩
theorem Pt (a:Nat) (ha:a<18446744073709551616):Calls prog 43 #[.int .u64 ((a:Nat):Int)] w (yd w (wV a) (wE a)):=by
 by_cases hn:bI a=true
 · unfold wV wE;rw[if_pos hn,if_pos hn];exact (NS w a ha hn).mono (fun e w' ⟨he,hb⟩=>he▸qbq hb)
 · unfold wV wE;rw[if_neg hn,if_neg hn];by_cases hi:rg a=9218868437227405312
   · rw[if_pos hi,if_pos hi];exact (NT w a ha hi).mono (fun e w' ⟨he,hb⟩=>he▸qbq hb)
   · rw[if_neg hi,if_neg hi];have h3:=of_decide_eq_false (Bool.eq_false_iff.2 hn);exact sw w a ha om
theorem Ei (a:Nat) (ha:a<18446744073709551616):Calls prog 53 #[.int .u64 ((a:Nat):Int)] w (yd w (wV a) (wE a)):=by
 refine zc func53 rfl ntmps53 rfl ?_;obtain ⟨HF,LW,ak,E⟩:=bg w;refine zm ?_;refine yq ?_;intro aG w2 aA aK aP;obtain ⟨aP,HF,E,ak⟩:=bJ HF LW E ak aK aP;refine zp ?_;refine za rfl (zb ar1 rfl ((qvv _ a ha).mono ?_));rintro e w3 ⟨rfl,hb⟩;refine ⟨_,rfl,?_⟩;have Ec:=Ext.of_below hb No;replace aA:=aA.ay Ec ah.nil;replace E:=E.trans Ec.no;refine zm ?_;refine zg rfl (fun hn=>?_) (fun hn=>?_)
 ·
  refine zm ?_;refine zxq ?_;refine zkx ?_;intro w4 Bx aK;replace aA:=Bx;replace E:=E.step1 aK aj.head;refine zl ?_;exact by unfold wV wE;rw[if_pos hn,if_pos hn];exact qbq (LW.step E ak).toBelow
 ·
  have hn':¬bI a=true:=by rw[hn];decide
  refine zl ?_;refine za rfl (zb ahj rfl ((rQ _ a ha).mono ?_));rintro e w5 ⟨rfl,hb⟩;refine ⟨_,rfl,?_⟩;have Ec:=Ext.of_below hb No;replace aA:=aA.ay Ec ah.nil;replace E:=E.trans Ec.no;refine zm ?_;refine zg rfl (fun hi=>?_) (fun hi=>?_)
  ·
   have hi:=of_decide_eq_true hi;refine zm ?_;refine zxq ?_;refine zkx ?_;intro w6 Bx aK;replace aA:=Bx;replace E:=E.step1 aK aj.head;refine zl ?_;exact by unfold wV wE;rw[if_neg hn',if_neg hn',if_pos hi,if_pos hi];exact qbq (LW.step E ak).toBelow
  ·
   have hi:=of_decide_eq_false hi;have h3:=of_decide_eq_false hn;have hf:rg a<9218868437227405312:=om;have e1:wV a=vw a:=by unfold wV;rw[if_neg hn',if_neg hi]
   have e2:wE a=0:=by unfold wE;rw[if_neg hn',if_neg hi]
   refine zu ?_;refine za rfl (zb aB0 rfl ((Z8 _ a ha hf).mono ?_));rintro e w7 ⟨A1,c1_,rfl,n1_,g1_,hb⟩;refine ⟨_,rfl,?_⟩;have XC:∀q9,(aj [(some aG)]) q9→q9<w5.heap.size:=(aj.grow aj.none_ (ze aA.lt));have Ec:=Ext.of_below hb No;replace aA:=aA.ay Ec ah.nil;replace E:=E.trans Ec.no;obtain ⟨HF,LW,E⟩:=cO HF LW E ak (Per.vR n1_ (fun q hq h=>by have h1:=XC _ h;have h2:=g1_ q hq;omega));refine zn ?_;refine gj ?_;intro dO w9 bS iN su;have eP:Apart (some dO) (some aG):=Apart.of_lt (ze aA.lt) su;have fK:=eP.symm;replace aA:=aA.ay iN ah.nil;obtain ⟨su,HF,E,ak⟩:=bJ HF LW E ak iN su;refine zk (yb pX rfl rfl bS rfl rfl (Nat.le_of_ble_eq_true rfl) ?_);intro dH Bx iN;replace bS:=Bx;replace aA:=aA.ay iN (ah.cons fK ah.nil);replace E:=E.step1 iN aj.head;obtain ⟨HF,LW,ak,E⟩:=dx HF LW E ak (Y:=aj [(some aG)]) (aj.skip (aj.keep aj.aU)) (Per.aW bS (ah.cons eP ah.nil));refine zl ?_;refine za rfl (zb ar0 rfl ((vK A1 c1_ (vw a) _ (HF.on E).here.1.2 (Nat.le_trans (zsv (zmv hf)) de)).mono ?_));rintro e dQ ⟨A2,c2,rfl,o2,hb⟩;refine ⟨_,rfl,?_⟩;have XC:∀q9,(aj [(some aG)]) q9→q9<dH.heap.size:=(aj.grow aj.none_ (ze aA.lt));have SC:=Nat.le_trans LW.size E.size;have Ec:=Ext.of_below hb No;replace aA:=aA.ay Ec ah.nil;replace E:=E.trans Ec.no;have hS:=SC;obtain ⟨HF,LW,E⟩:=cO HF LW E ak (Per.dD o2 XC);refine zkx ?_;intro eG Bx aK;replace aA:=Bx;replace E:=E.step1 aK aj.head;obtain ⟨HF,LW,ak,E⟩:=dx HF LW E ak (Y:=No) (aj.skip aj.aU) (Per.aW aA ah.nil);refine zu ?_;exact ⟨A2,c2,by rw[e1,e2];rfl,by rw[e1];exact ((HF.on E).here.1.2).mono hS,(LW.step E ak).toBelow⟩
theorem aej (n1:Bool) (A:Option Addr) (c:Nat) (xs:List Nat) (hl:xs.length≤9223372036854775807) (hx:aC w A xs) (V:Nat) (F:Int) (hV:V=(if zr n1 xs then Yo (num n1 xs) else 0)) (hF:F=(if zr n1 xs then ofE (num n1 xs) else 3)) (hD:∀b,Below w.heap.size w b→xW b) (hT:dB bp op cp bf of cf bl ol cl w) (hE:∃te pe,w.cell? ⟨4,0,none⟩=some (.iface te pe)):Calls prog 98 #[.agg #[.bool n1,.slice A xs.length c]] w (aI w (.tuple #[.int .u64 ((V:Nat):Int),.int .i64 F])):=by
 subst hV;subst hF;cases hg:zr n1 xs with
 | false=>exact axz w n1 A c xs hl hx hg
 | true=>
  obtain ⟨i,rfl,rfl,hi⟩:=qlv hg;rw[if_pos rfl,if_pos rfl,ji];exact aex w i A c hi hx hD hT hE
theorem Pv (n1:Bool) (A:Option Addr) (c:Nat) (xs:List Nat) (hl:xs.length≤9223372036854775807) (hx:aC w A xs) (V:Nat) (F:Int) (hV:V=(if zr n1 xs then Yo (num n1 xs) else 0)) (hF:F=(if zr n1 xs then ofE (num n1 xs) else 3)) (hT:dB bp op cp bf of cf bl ol cl w) (hE:∃te pe,w.cell? ⟨4,0,none⟩=some (.iface te pe)):Calls prog 107 #[.agg #[.bool n1,.slice A xs.length c]] w (aI w (.tuple #[.int .u64 ((V:Nat):Int),.int .i64 F])):=by
 subst hV;subst hF;cases hg:zr n1 xs with
 | false=>exact Xf w n1 A c xs hl hx hg
 | true=>
  obtain ⟨i,rfl,rfl,hi⟩:=qlv hg;rw[if_pos rfl,if_pos rfl,ji];exact Pq w i A c hi hx hT hE
end
end Go.Proofs.YtmnmebdmpigddaaGreatDoor
namespace Go.Proofs.YtmnmebdmpigddaaGreatDoor
open Go.RowKit Proofs.Tryz
theorem Ej {P Q:Prop} (k:Q) (h:(Unit→Q)→P:=by
 intro zK;refine zm ?_;refine bO rfl (yn (j:=b+1) (b:=aJ s (b+1)) u9 rfl rfl rfl (qh om) ?_);exact zK ()):P:=h fun _=>k
theorem El {P Q:Prop} (k:Q) (h:(Unit→Q)→P:=by
 intro zK;refine aN ?_;refine bO rfl (yn (j:=0) (b:=aJ (s.extract (b+1) s.size) 0) u9 rfl rfl rfl (qh (by rw[yt];omega)) ?_);exact zK ()):P:=h fun _=>k
theorem ylx {P Q:Prop} (k:Q) (h:(Unit→Q)→P:=by
 intro zK;refine zm ?_;refine bO rfl (yn (j:=n) (b:=aJ s (n)) u9 rfl rfl rfl (qh om) ?_);exact zK ()):P:=h fun _=>k
theorem Xg {P:Prop} (h:P:=by
 exact zt false ⟨rfl,rfl,trivial⟩ ⟨M9.step E Qq,(decide_eq_false om).symm⟩):P:=h
theorem Xh {P:Prop} (h:P:=by
 exact zt false ⟨rfl,rfl,rfl,trivial⟩ ⟨M11.step E Px,(decide_eq_false om).symm⟩):P:=h
theorem Jf {P:Prop} (h:P:=by
 exact zt () ⟨rfl,rfl,rfl,trivial⟩ ⟨M7.step E bV,trivial⟩):P:=h
theorem Jg {P:Prop} (h:P:=by
 exact zt () ⟨rfl,rfl,rfl,rfl,trivial⟩ ⟨M2.step E XM2,trivial⟩):P:=h
theorem an7 {P:Prop} (h:P:=by
 have h1:¬n<s.size:=by have h1:=of_decide_eq_false h1;omega
 have hdone:xb s n=true:=by
  cases hd:xb s n with
  | true=>rfl
  | false=>exact absurd (Dk hd).1 h1
 rw[yp hdone] at hu;refine aD8 ?_;exact ⟨by rw[←hu];rfl,(LW.step E ak).toBelow⟩):P:=h
theorem an8 {P:Prop} (h:P:=by
 have h2:¬48≤aJ s n:=by have h2:=of_decide_eq_false h2;omega
 have hdone:xb s n=true:=by
  cases hd:xb s n with
  | true=>rfl
  | false=>exact absurd (Dk hd).2.1 h2
 rw[yp hdone] at hu;refine Ka ?_;exact ⟨by rw[←hu];rfl,(LW.step E ak).toBelow⟩):P:=h
theorem an9 {P:Prop} (h:P:=by
 have h3:¬aJ s n≤57:=by have h3:=of_decide_eq_false h3;omega
 have hdone:xb s n=true:=by
  cases hd:xb s n with
  | true=>rfl
  | false=>exact absurd (Dk hd).2.2 h3
 rw[yp hdone] at hu;refine jt ?_;exact ⟨by rw[←hu];rfl,(LW.step E ak).toBelow⟩):P:=h
attribute [local irreducible] OW RS CW EW
theorem eq_nil (s:ByteArray) (k:Nat):((s.extract k s.size).toList==(⟨#[]⟩:ByteArray).toList)=decide (s.size≤k):=by
 rw[ygz #[]];by_cases h:s.size≤k
 · rw[decide_eq_true h,vcq.2 h];rfl
 · rw[decide_eq_false h];exact beq_eq_false_iff_ne.2 (fun e=>h (vcq.1 e))
theorem ne_nil (s:ByteArray) (k:Nat):(!((s.extract k s.size).toList==(⟨#[]⟩:ByteArray).toList))=decide (k<s.size):=by
 rw[eq_nil];by_cases h:k<s.size
 · rw[decide_eq_true h,decide_eq_false om];rfl
 · rw[decide_eq_false h,decide_eq_true om];rfl
theorem qnz {s:ByteArray} {f k z m:Nat} (hz:z=s.size-f) (hm:f+k=m):(s.extract f s.size).extract k z=s.extract m s.size:=by
 subst hz;subst hm;rw[←extract_extract,yt]
theorem Xi {s:ByteArray} {a:Nat} (h:aJ s a=46):nB s a=gY s (a+1):=by unfold nB;rw[if_pos h]
theorem anq {s:ByteArray} {a:Nat} (h:¬aJ s a=46):nB s a=a:=by unfold nB;rw[if_neg h]
theorem axx {s:ByteArray} {a:Nat} (h:aJ s a=101):nC s a=gY s (nQ s a):=by unfold nC;rw[if_pos h]
theorem Xj {s:ByteArray} {a:Nat} (h:¬aJ s a=101):nC s a=a:=by unfold nC;rw[if_neg h]
theorem anz {s:ByteArray} {b:Nat} (hb:b≤s.size):nC s b≤s.size:=by
 by_cases h:aJ s b=101
 · rw[axx h];exact (km (Dl (oo om))).1.hi
 · rw[Xj h];exact hb
theorem af0 {x:Nat} (h:x≤9218868437227405312) (neg:Bool):dw neg ||| x=dw neg+x:=by
 cases neg with
 | false=>rw[show dw false=0 from rfl,Nat.zero_or,Nat.zero_add]
 | true=>
  have h2:=Nat.two_pow_add_eq_or_of_lt (show x<2^63 by show x<9223372036854775808;omega) 1;exact h2.symm
section
variable (w:World)
theorem qbz (s:ByteArray) (hl:s.size<100000):Calls prog 154 #[.string s] w (aI w (.int .i64 ((gY s 0:Nat):Int))):=by
 have hle:=Nat.zero_le s.size;refine zc func154 rfl ntmps154 rfl ?_;have LW:=aD (No) w;have ak:=aS (No) w;have E:=aD (No) w;refine vp ?_;replace LW:=LW.step E ak;replace E:=aD (No) w;refine yw (ι:=Nat) (fun n=>[(0,.string s),(3,.int .i64 ((n:Nat):Int))]) (fun n w'=>Ext (No) w w'∧(RuI s 0 n∧qk (xb s) (fun i=>i+1) n=gY s 0)) (fun n=>s.size-n) 0 ⟨rfl,rfl,trivial⟩ ⟨Ext.refl _ _,⟨Nat.le_refl _,hle,fun j h1 h2=>absurd h1 (Nat.not_le.2 h2)⟩,rfl⟩ ?_;rintro n w2 ⟨M1,⟨hI,hu⟩⟩;have dz:=aS (No) w;replace E:=E.trans M1;replace LW:=LW.step E ak;replace E:=aD (No) w2;have hlo:=hI.lo;have hhi:=hI.hi;refine zjq ?_;refine zj 8 rfl (fun h1=>?_) (fun h1=>?_)
 ·
  have h1:n<s.size:=by have h1:=of_decide_eq_true h1;omega
  refine ylx ?_;refine zn ?_;refine zj 14 rfl (fun h2=>?_) (fun h2=>?_)
  ·
   have h2:48≤aJ s n:=by have h2:=of_decide_eq_true h2;omega
   refine ylx ?_;refine zx ?_;refine zg rfl (fun h3=>?_) (fun h3=>?_)
   ·
    have h3:aJ s n≤57:=by have h3:=of_decide_eq_true h3;omega
    have hdone:=Lj h1 ⟨h2,h3⟩;have hk:=mU hI hdone;rw[qp hdone] at hu;refine ykx ?_;exact zo (n+1) om ⟨rfl,rfl,trivial⟩ ⟨M1.step E dz,hk,hu⟩
   ·
    exact an9
  ·
   exact an8
 ·
  exact an7
theorem xX (s:ByteArray) (a:Nat) (hle:a≤s.size) (hl:s.size<100000):Calls prog 159 #[.string s,.int .i64 ((a:Nat):Int)] w (aI w (.int .i64 ((gY s a:Nat):Int))):=by
 refine zc func159 rfl ntmps159 rfl ?_;have LW:=aD (No) w;have ak:=aS (No) w;have E:=aD (No) w;refine zp ?_;replace LW:=LW.step E ak;replace E:=aD (No) w;refine yw (ι:=Nat) (fun n=>[(0,.string s),(1,.int .i64 ((n:Nat):Int))]) (fun n w'=>Ext (No) w w'∧(RuI s a n∧qk (xb s) (fun i=>i+1) n=gY s a)) (fun n=>s.size-n) a ⟨rfl,rfl,trivial⟩ ⟨Ext.refl _ _,⟨Nat.le_refl _,hle,fun j h1 h2=>absurd h1 (Nat.not_le.2 h2)⟩,rfl⟩ ?_;rintro n w2 ⟨M1,⟨hI,hu⟩⟩;have dz:=aS (No) w;replace E:=E.trans M1;replace LW:=LW.step E ak;replace E:=aD (No) w2;have hlo:=hI.lo;have hhi:=hI.hi;refine zjq ?_;refine zj 9 rfl (fun h1=>?_) (fun h1=>?_)
 ·
  have h1:n<s.size:=by have h1:=of_decide_eq_true h1;omega
  refine ylx ?_;refine zn ?_;refine zj 15 rfl (fun h2=>?_) (fun h2=>?_)
  ·
   have h2:48≤aJ s n:=by have h2:=of_decide_eq_true h2;omega
   refine ylx ?_;refine zx ?_;refine zg rfl (fun h3=>?_) (fun h3=>?_)
   ·
    have h3:aJ s n≤57:=by have h3:=of_decide_eq_true h3;omega
    have hdone:=Lj h1 ⟨h2,h3⟩;have hk:=mU hI hdone;rw[qp hdone] at hu;refine ykx ?_;exact zo (n+1) om ⟨rfl,rfl,trivial⟩ ⟨M1.step E dz,hk,hu⟩
   ·
    exact an9
  ·
   exact an8
 ·
  exact an7
theorem nW (s:ByteArray) (c:UInt8) (hc:c.toNat≠0):Calls prog 168 #[.string s,.string ⟨#[c]⟩] w (aI w (.bool (decide (aJ s 0=c.toNat)))):=by
 have h1s:((⟨#[c]⟩:ByteArray).size:Nat)=1:=rfl;refine zc func168 rfl ntmps168 rfl ?_;have LW:=aD (No) w;have ak:=aS (No) w;have E:=aD (No) w;refine yi ?_;refine zy ?_;refine aN ?_;refine zy ?_;refine zm ?_;refine zj 10 rfl (fun h1=>?_) (fun h1=>?_)
 ·
  have h1:0<s.size:=by have h1:=of_decide_eq_true h1;rw[h1s] at h1;omega
  refine lW ?_;refine bO rfl (vu (l:=0) (h:=1) u9 rfl rfl ⟨_,rfl⟩ de om (zp ?_));refine zq 4 (.bool (decide (aJ s 0=c.toNat))) rfl (by rw[ygz #[c],WK h1]) (aN ?_);exact xj
 ·
  have h1:¬0<s.size:=by have h1:=of_decide_eq_false h1;rw[h1s] at h1;omega
  refine vp ?_;exact ⟨by rw[decide_eq_false (by rw[ygk om];omega)];rfl,(LW.step E ak).toBelow⟩
theorem vav (s:ByteArray) (c:UInt8) (hc:c.toNat≠0):Calls prog 128 #[.string s,.string ⟨#[c]⟩] w (aI w (.bool (decide (aJ s 0=c.toNat)))):=by
 refine zc func128 rfl ntmps128 rfl ?_;have LW:=aD (No) w;have ak:=aS (No) w;have E:=aD (No) w;refine qd ?_;refine za rfl (zb ai9 rfl ((nW _ s c hc).mono ?_));exact Xb
def signed (s:ByteArray):Bool:=decide (aJ s 0=45)
def Fe (s:ByteArray):Nat:=if aJ s 0=45 then 1 else 0
theorem axj (s:ByteArray):Calls prog 153 #[.string s,.string ⟨#[45]⟩] w (aI w (.tuple #[.string (s.extract (Fe s) s.size),.bool (signed s)])):=by
 refine zc func153 rfl ntmps153 rfl ?_;have LW:=aD (No) w;have ak:=aS (No) w;have E:=aD (No) w;refine yu ?_;refine za rfl (zb ai9 rfl ((nW _ s 45 de).mono ?_));rintro e w1 ⟨rfl,hb⟩;refine ⟨_,rfl,?_⟩;replace E:=bT E hb;clear hb;refine zf 8 (.bool (signed s)) rfl (rfl) (zn ?_);by_cases h:aJ s 0=45
 ·
  have e1:signed s=true:=decide_eq_true h;have e2:Fe s=1:=by unfold Fe;rw[if_pos h]
  have hs:=oo (s:=s) (i:=0) om;refine zd 9 (.bool false) rfl (by rw[e1];rfl) (zp ?_);refine zy ?_;refine za rfl (vu (l:=1) (h:=s.size) u9 rfl ⟨_,rfl⟩ rfl om om (zl ?_));exact ⟨by rw[e1,e2];rfl,(LW.step E ak).toBelow⟩
 ·
  have e1:signed s=false:=decide_eq_false h;have e2:Fe s=0:=by unfold Fe;rw[if_neg h]
  refine zd 9 (.bool true) rfl (by rw[e1];rfl) (yu ?_);exact ⟨by rw[e1,e2,vck];rfl,(LW.step E ak).toBelow⟩
theorem Xk (s:ByteArray):Calls prog 99 #[.string s,.string ⟨#[45]⟩] w (aI w (.tuple #[.string (s.extract (Fe s) s.size),.bool (signed s)])):=by
 refine zc func99 rfl ntmps99 rfl ?_;have LW:=aD (No) w;have ak:=aS (No) w;have E:=aD (No) w;refine zz ?_;refine za rfl (zb aB6 rfl ((axj _ s).mono ?_));rintro e w1 ⟨rfl,hb⟩;refine ⟨_,rfl,?_⟩;replace E:=bT E hb;clear hb;refine yi ?_;exact xj
theorem Em (s:ByteArray) (hl:s.size<100000):Calls prog 101 #[.string s] w (aI w (.bool (iP s 0))):=by
 obtain ⟨n,hn⟩:∃n,n=gY s 0:=⟨_,rfl⟩;have hnI:=(km (s:=s) (Nat.zero_le _)).1;rw[←hn] at hnI;have hns:=hnI.hi;obtain ⟨b,hbq⟩:∃b,b=nB s n:=⟨_,rfl⟩;have hbs:=Vx (s:=s) hns;rw[←hbq] at hbs;refine zc func101 rfl ntmps101 rfl ?_;have LW:=aD (No) w;have ak:=aS (No) w;have E:=aD (No) w;refine yi ?_;refine za rfl (zb Rs rfl ((qbz _ s hl).mono ?_));rintro e w1 ⟨rfl,hb⟩;refine ⟨_,rfl,?_⟩;replace E:=bT E hb;clear hb;refine zf 5 (.int .i64 ((n:Nat):Int)) rfl (by rw[hn]<;>rfl) (zz ?_);refine zg rfl (fun h1=>?_) (fun h1=>?_)
 ·
  have h1:n=0:=by have h1:=eq_of_beq h1;omega
  have e:iP s 0=false:=ow (fun h=>by have:=h.1;rw[←hn] at this;omega);refine yi ?_;exact Dq
 ·
  have h1:n≠0:=fun e=>absurd h1 (by rw[e];decide);refine zl ?_;refine za rfl (vu (l:=n) (h:=s.size) u9 rfl ⟨_,rfl⟩ rfl om om (zp ?_));refine za rfl (zb ai4 rfl ((vav _ (s.extract n s.size) 46 de).mono ?_));rintro e w2 ⟨rfl,hb⟩;refine ⟨_,rfl,?_⟩;replace E:=bT E hb;clear hb;refine zf 12 (.bool (decide (aJ s n=46))) rfl (by rw[vv,Nat.add_zero];rfl) (zm ?_);replace LW:=LW.step E ak;replace E:=aD (No) w2;refine yh (ι:=Unit) (fun _=>[(0,.string (s.extract b s.size))]) (fun _ w'=>Ext (No) w2 w'∧((aJ s n=46→n+1<b))) ?_ ?_
  ·
   have M3:=aD (No) w2;have aV:=aS (No) w2;refine zg rfl (fun h3=>?_) (fun h3=>?_)
   ·
    have h3:=of_decide_eq_true h3;have hin:=oo (s:=s) (i:=n) om;obtain ⟨r,hr⟩:∃r,r=gY (s.extract (n+1) s.size) 0:=⟨_,rfl⟩;have e1:b=n+1+r:=by rw[hbq,Xi h3,hr];exact zyx (f:=n+1) (a:=0) om
    refine zx ?_;refine za rfl (vu (l:=1) (h:=s.size-n) u9 rfl ⟨_,rfl⟩ (yt).symm om (by rw[yt];omega) (zf 14 (.string (s.extract (n+1) s.size)) rfl (by rw[qnz rfl rfl]<;>rfl) (za rfl (zb Rs rfl ((qbz _ (s.extract (n+1) s.size) (by rw[yt];omega)).mono ?_)))));rintro e w5 ⟨rfl,hb⟩;refine ⟨_,rfl,?_⟩;replace E:=bT E hb;clear hb;refine zf 15 (.int .i64 ((r:Nat):Int)) rfl (by rw[hr]<;>rfl) (qd ?_);refine zg rfl (fun h4=>?_) (fun h4=>?_)
    ·
     have h4:r=0:=by have h4:=eq_of_beq h4;omega
     have e:iP s 0=false:=ow (fun h=>by have:=h.2.1;rw[←hn,←hbq] at this;have:=this h3;omega);refine qd ?_;exact Dq
    ·
     have h4:r≠0:=fun e=>absurd h4 (by rw[e];decide);refine zu ?_;refine yo ?_;refine zf 20 (.int .i64 ((r+1:Nat):Int)) rfl (rfl) (za rfl (vu (l:=r+1) (h:=s.size-n) u9 rfl ⟨_,rfl⟩ (yt).symm om (by rw[yt];omega) (zm ?_)));refine zq 0 (.string (s.extract b s.size)) rfl ((by rw[qnz (m:=b) rfl om]:(.string ((s.extract n s.size).extract (r+1) (s.size-n)):Value)=_)) ?_;exact zt () ⟨rfl,trivial⟩ ⟨M3.step E aV,fun _=>om⟩
   ·
    have h3:=of_decide_eq_false h3;have e1:b=n:=by rw[hbq,anq h3]
    refine aN ?_;refine zq 0 (.string (s.extract b s.size)) rfl ((by rw[e1]:(.string (s.extract n s.size):Value)=_)) ?_;exact zt () ⟨rfl,trivial⟩ ⟨M3.step E aV,fun h=>absurd h h3⟩
  ·
   rintro _ w4 ⟨M3,h2⟩;replace E:=E.trans M3;replace LW:=LW.step E ak;replace E:=aD (No) w4;have hcs:=anz (s:=s) hbs.2;refine zx ?_;refine za rfl (zb ai4 rfl ((vav _ (s.extract b s.size) 101 de).mono ?_));rintro e w6 ⟨rfl,hb⟩;refine ⟨_,rfl,?_⟩;replace E:=bT E hb;clear hb;refine zf 23 (.bool (decide (aJ s b=101))) rfl (by rw[vv,Nat.add_zero];rfl) (zm ?_);replace LW:=LW.step E ak;replace E:=aD (No) w6;refine yh (ι:=Unit) (fun _=>[(0,.string (s.extract (nC s b) s.size))]) (fun _ w'=>Ext (No) w6 w'∧((aJ s b=101→nQ s b<nC s b))) ?_ ?_
   ·
    have M7:=aD (No) w6;have bV:=aS (No) w6;refine zg rfl (fun h3=>?_) (fun h3=>?_)
    ·
     have h3:=of_decide_eq_true h3;have hin:=oo (s:=s) (i:=b) om;have SG:=Dl hin;refine zn ?_;refine za rfl (vu (l:=1) (h:=s.size-b) u9 rfl ⟨_,rfl⟩ (yt).symm om (by rw[yt];omega) (zf 25 (.string (s.extract (b+1) s.size)) rfl (by rw[qnz rfl rfl]<;>rfl) (zu ?_)));replace LW:=LW.step E ak;replace M7:=M7.step E bV;replace E:=aD (No) w6;refine yh (ι:=Bool) (fun g=>[(0,.string (s.extract (b+1) s.size)),(37,.bool g)]) (fun g w'=>Ext (No) w6 w'∧(g=decide (aJ s (b+1)=43∨aJ s (b+1)=45))) ?_ ?_
     ·
      have M9:=aD (No) w6;have Qq:=aS (No) w6;refine zm ?_;refine za rfl (ydx rfl rfl (aN ?_));refine zf 28 (.bool (decide (b+1<s.size))) rfl (by rw[ne_nil]) (zj 28 rfl (fun h6=>?_) (fun h6=>?_))
      ·
       have h6:=of_decide_eq_true h6;refine El ?_;refine zf 30 (.int .u8 ((aJ s (b+1):Nat):Int)) rfl (by rw[vv]<;>rfl) (zm ?_);refine zj 32 rfl (fun h7=>?_) (fun h7=>?_)
       ·
        have h7:aJ s (b+1)=43:=by have h7:=eq_of_beq h7;omega
        refine zl ?_;exact zt true ⟨rfl,rfl,trivial⟩ ⟨M9.step E Qq,(decide_eq_true (.inl h7)).symm⟩
       ·
        have h7:¬aJ s (b+1)=43:=fun e=>absurd h7 (by rw[e];decide);refine El ?_;refine zf 34 (.int .u8 ((aJ s (b+1):Nat):Int)) rfl (by rw[vv]<;>rfl) (zx ?_);by_cases h8:aJ s (b+1)=45
        ·
         refine zq 37 (.bool true) rfl ((by rw[h8];rfl:(.bool (((aJ s (b+1):Nat):Int)==45):Value)=_)) ?_;exact zt true ⟨rfl,rfl,trivial⟩ ⟨M9.step E Qq,(decide_eq_true (.inr h8)).symm⟩
        ·
         refine zq 37 (.bool false) rfl ((by rw[vm om]:(.bool (((aJ s (b+1):Nat):Int)==45):Value)=_)) ?_;exact Xg
      ·
       have h6:=of_decide_eq_false h6;have h0:=ygk (s:=s) (i:=b+1) om;refine zz ?_;exact Xg
     ·
      rintro g dH ⟨M9,hg⟩;replace E:=E.trans M9;replace LW:=LW.step E ak;replace M7:=M7.step E bV;replace E:=aD (No) dH;replace LW:=LW.step E ak;replace M7:=M7.step E bV;replace E:=aD (No) dH;refine yh (ι:=Unit) (fun _=>[(0,.string (s.extract (nQ s b) s.size))]) (fun _ w'=>Ext (No) dH w'∧(True)) ?_ ?_
      ·
       have M11:=aD (No) dH;have Px:=aS (No) dH;refine zg rfl (fun h6=>?_) (fun h6=>?_)
       ·
        rw[hg] at h6;have h6:=of_decide_eq_true h6;have e1:nQ s b=b+2:=by unfold nQ;rw[if_pos h6]
        have hin2:=oo (s:=s) (i:=b+1) om;refine zm ?_;refine za rfl (vu (l:=1) (h:=s.size-(b+1)) u9 rfl ⟨_,rfl⟩ (yt).symm om (by rw[yt];omega) (zm ?_));refine zq 0 (.string (s.extract (nQ s b) s.size)) rfl ((by rw[qnz (f:=b+1) (k:=1) (m:=nQ s b) rfl om]:(.string ((s.extract (b+1) s.size).extract 1 (s.size-(b+1))):Value)=_)) ?_;exact zt () ⟨rfl,trivial⟩ ⟨M11.step E Px,trivial⟩
       ·
        rw[hg] at h6;have h6:=of_decide_eq_false h6;have e1:nQ s b=b+1:=by unfold nQ;rw[if_neg h6]
        refine aN ?_;refine zq 0 (.string (s.extract (nQ s b) s.size)) rfl ((by rw[e1]:(.string (s.extract (b+1) s.size):Value)=_)) ?_;exact zt () ⟨rfl,trivial⟩ ⟨M11.step E Px,trivial⟩
      ·
       rintro _ eG ⟨M11,_⟩;replace E:=E.trans M11;replace LW:=LW.step E ak;replace M7:=M7.step E bV;replace E:=aD (No) eG;obtain ⟨r,hr⟩:∃r,r=gY (s.extract (nQ s b) s.size) 0:=⟨_,rfl⟩;have e1:nC s b=nQ s b+r:=by rw[axx h3,hr];exact zyx (f:=nQ s b) (a:=0) om
       refine zx ?_;refine za rfl (zb Rs rfl ((qbz _ (s.extract (nQ s b) s.size) (by rw[yt];omega)).mono ?_));rintro e yD ⟨rfl,hb⟩;refine ⟨_,rfl,?_⟩;replace E:=bT E hb;clear hb;refine zf 41 (.int .i64 ((r:Nat):Int)) rfl (by rw[hr]<;>rfl) (qd ?_);refine zg rfl (fun h4=>?_) (fun h4=>?_)
       ·
        have h4:r=0:=by have h4:=eq_of_beq h4;omega
        have e:iP s 0=false:=ow (fun h=>by have:=h.2.2.2;rw[←hn,←hbq] at this;have:=this h3;omega);refine qd ?_;exact Dq
       ·
        have h4:r≠0:=fun e=>absurd h4 (by rw[e];decide);refine zu ?_;refine za rfl (vu (l:=r) (h:=s.size-nQ s b) u9 rfl ⟨_,rfl⟩ (yt).symm om (by rw[yt];omega) (zm ?_));refine zq 0 (.string (s.extract (nC s b) s.size)) rfl ((by rw[qnz rfl e1.symm]:(.string ((s.extract (nQ s b) s.size).extract r (s.size-nQ s b)):Value)=_)) ?_;exact zt () ⟨rfl,trivial⟩ ⟨M7.step E bV,fun _=>om⟩
    ·
     have h3:=of_decide_eq_false h3;refine aN ?_;refine zq 0 (.string (s.extract (nC s b) s.size)) rfl ((by rw[Xj h3]:(.string (s.extract b s.size):Value)=_)) ?_;exact zt () ⟨rfl,trivial⟩ ⟨M7.step E bV,fun h=>absurd h h3⟩
   ·
    rintro _ w8 ⟨M7,h5⟩;replace E:=E.trans M7;replace LW:=LW.step E ak;replace E:=aD (No) w8;refine yi ?_;refine zq 2 (.bool (decide (s.size≤nC s b))) rfl (by rw[eq_nil]) ?_;by_cases h6:s.size≤nC s b
    ·
     have e:iP s 0=true:=vfq ⟨by rw[←hn];omega,by rw[←hn,←hbq];exact h2,by rw[←hn,←hbq];omega,by rw[←hn,←hbq];exact h5⟩;refine aN ?_;exact ⟨by rw[e,decide_eq_true h6];rfl,(LW.step E ak).toBelow⟩
    ·
     have e:iP s 0=false:=ow (fun h=>by have:=h.2.2.1;rw[←hn,←hbq] at this;omega);refine aN ?_;exact ⟨by rw[e,decide_eq_false h6];rfl,(LW.step E ak).toBelow⟩
theorem qI (s:ByteArray) (f:Nat) (hf:f≤s.size) (hl:s.size<100000):Calls prog 108 #[.string s,.int .i64 ((f:Nat):Int)] w (aI w (.bool (iP s f))):=by
 obtain ⟨n,hn⟩:∃n,n=gY s f:=⟨_,rfl⟩;have hnI:=(km (s:=s) hf).1;rw[←hn] at hnI;have hns:=hnI.hi;have hnf:=hnI.lo;obtain ⟨b,hbq⟩:∃b,b=nB s n:=⟨_,rfl⟩;have hbs:=Vx (s:=s) hns;rw[←hbq] at hbs;refine zc func108 rfl ntmps108 rfl ?_;have LW:=aD (No) w;have ak:=aS (No) w;have E:=aD (No) w;refine qd ?_;refine za rfl (zb Rt rfl ((xX _ s f hf hl).mono ?_));rintro e w1 ⟨rfl,hb⟩;refine ⟨_,rfl,?_⟩;replace E:=bT E hb;clear hb;refine zf 10 (.int .i64 ((n:Nat):Int)) rfl (by rw[hn]<;>rfl) (yu ?_);refine zg rfl (fun h1=>?_) (fun h1=>?_)
 ·
  have h1:n=f:=by have h1:=eq_of_beq h1;omega
  have e:iP s f=false:=ow (fun h=>by have:=h.1;rw[←hn] at this;omega);refine yi ?_;exact Dq
 ·
  have h1:n≠f:=fun e=>absurd h1 (by rw[e];simp);refine zx ?_;replace LW:=LW.step E ak;replace E:=aD (No) w1;refine yh (ι:=Unit) (fun _=>[(0,.string s),(1,.int .i64 ((f:Nat):Int)),(5,.int .i64 ((n:Nat):Int)),(23,.bool (decide (aJ s n=46)))]) (fun _ w'=>Ext (No) w1 w'∧(True)) ?_ ?_
  ·
   have M2:=aD (No) w1;have XM2:=aS (No) w1;refine zn ?_;refine zy ?_;refine zm ?_;refine zj 18 rfl (fun h2=>?_) (fun h2=>?_)
   ·
    have h2:n<s.size:=by have h2:=of_decide_eq_true h2;omega
    refine ylx ?_;refine zn ?_;by_cases h3:aJ s n=46
    ·
     refine zq 23 (.bool (decide (aJ s n=46))) rfl ((by rw[h3];rfl:(.bool (((aJ s (n):Nat):Int)==46):Value)=_)) ?_;exact Jg
    ·
     refine zq 23 (.bool (decide (aJ s n=46))) rfl ((by rw[vm om,decide_eq_false h3]:(.bool (((aJ s (n):Nat):Int)==46):Value)=_)) ?_;exact Jg
   ·
    have h2:¬n<s.size:=by have h2:=of_decide_eq_false h2;omega
    have h0:=ygk (s:=s) (i:=n) om;refine zl ?_;refine zq 23 (.bool (decide (aJ s n=46))) rfl ((by rw[decide_eq_false om]:(.bool false:Value)=_)) ?_;exact Jg
  ·
   rintro _ w3 ⟨M2,_⟩;replace E:=E.trans M2;replace LW:=LW.step E ak;replace E:=aD (No) w3;replace LW:=LW.step E ak;replace E:=aD (No) w3;refine yh (ι:=Unit) (fun _=>[(0,.string s),(5,.int .i64 ((b:Nat):Int))]) (fun _ w'=>Ext (No) w3 w'∧((aJ s n=46→n+1<b))) ?_ ?_
   ·
    have M4:=aD (No) w3;have He:=aS (No) w3;refine zg rfl (fun h3=>?_) (fun h3=>?_)
    ·
     have h3:=of_decide_eq_true h3;have hin:=oo (s:=s) (i:=n) om;have e1:b=gY s (n+1):=by rw[hbq,Xi h3]
     have e2:=(km (s:=s) (a:=n+1) hin).1.lo;rw[←e1] at e2;refine zx ?_;refine yo ?_;refine zf 26 (.int .i64 ((n+1:Nat):Int)) rfl (rfl) (za rfl (zb Rt rfl ((xX _ s (n+1) hin hl).mono ?_)));rintro e w6 ⟨rfl,hb⟩;refine ⟨_,rfl,?_⟩;replace E:=bT E hb;clear hb;refine zf 27 (.int .i64 ((b:Nat):Int)) rfl (by rw[e1]<;>rfl) (yi ?_);refine yo ?_;refine zn ?_;refine zg rfl (fun h4=>?_) (fun h4=>?_)
     ·
      have h4:b=n+1:=by have h4:=eq_of_beq h4;omega
      have e:iP s f=false:=ow (fun h=>by have:=h.2.1;rw[←hn,←hbq] at this;have:=this h3;omega);refine qd ?_;exact Dq
     ·
      have h4:b≠n+1:=fun e=>absurd h4 (by rw[e];simp);refine zl ?_;exact zt () ⟨rfl,rfl,trivial⟩ ⟨M4.step E He,fun _=>om⟩
    ·
     have h3:=of_decide_eq_false h3;have e1:b=n:=by rw[hbq,anq h3]
     refine aN ?_;refine zq 5 (.int .i64 ((b:Nat):Int)) rfl ((by rw[e1]:(.int .i64 ((n:Nat):Int):Value)=_)) ?_;exact zt () ⟨rfl,rfl,trivial⟩ ⟨M4.step E He,fun h=>absurd h h3⟩
   ·
    rintro _ w5 ⟨M4,h2⟩;replace E:=E.trans M4;replace LW:=LW.step E ak;replace E:=aD (No) w5;have hcs:=anz (s:=s) hbs.2;refine zm ?_;replace LW:=LW.step E ak;replace E:=aD (No) w5;refine yh (ι:=Unit) (fun _=>[(0,.string s),(5,.int .i64 ((b:Nat):Int)),(42,.bool (decide (aJ s b=101)))]) (fun _ w'=>Ext (No) w5 w'∧(True)) ?_ ?_
    ·
     have M7:=aD (No) w5;have bV:=aS (No) w5;refine zn ?_;refine zy ?_;refine zm ?_;refine zj 37 rfl (fun h3=>?_) (fun h3=>?_)
     ·
      have h3:b<s.size:=by have h3:=of_decide_eq_true h3;omega
      refine zm ?_;refine bO rfl (yn (j:=b) (b:=aJ s (b)) u9 rfl rfl rfl (qh om) (zn ?_));by_cases h4:aJ s b=101
      ·
       refine zq 42 (.bool (decide (aJ s b=101))) rfl ((by rw[h4];rfl:(.bool (((aJ s (b):Nat):Int)==101):Value)=_)) ?_;exact Jf
      ·
       refine zq 42 (.bool (decide (aJ s b=101))) rfl ((by rw[vm om,decide_eq_false h4]:(.bool (((aJ s (b):Nat):Int)==101):Value)=_)) ?_;exact Jf
     ·
      have h3:¬b<s.size:=by have h3:=of_decide_eq_false h3;omega
      have h0:=ygk (s:=s) (i:=b) om;refine zl ?_;refine zq 42 (.bool (decide (aJ s b=101))) rfl ((by rw[decide_eq_false om]:(.bool false:Value)=_)) ?_;exact Jf
    ·
     rintro _ w8 ⟨M7,_⟩;replace E:=E.trans M7;replace LW:=LW.step E ak;replace E:=aD (No) w8;replace LW:=LW.step E ak;replace E:=aD (No) w8;refine yh (ι:=Unit) (fun _=>[(0,.string s),(5,.int .i64 ((nC s b:Nat):Int))]) (fun _ w'=>Ext (No) w8 w'∧((aJ s b=101→nQ s b<nC s b))) ?_ ?_
     ·
      have M9:=aD (No) w8;have Qq:=aS (No) w8;refine zg rfl (fun h3=>?_) (fun h3=>?_)
      ·
       have h3:=of_decide_eq_true h3;have hin:=oo (s:=s) (i:=b) om;have SG:=Dl hin;refine zn ?_;refine yo ?_;refine zu ?_;refine zd 5 (.int .i64 ((b+1:Nat):Int)) rfl (rfl) ?_;replace LW:=LW.step E ak;replace M9:=M9.step E Qq;replace E:=aD (No) w8;refine yh (ι:=Bool) (fun g=>[(0,.string s),(5,.int .i64 ((b+1:Nat):Int)),(60,.bool g)]) (fun g w'=>Ext (No) w8 w'∧(g=decide (aJ s (b+1)=43∨aJ s (b+1)=45))) ?_ ?_
       ·
        have M11:=aD (No) w8;have Px:=aS (No) w8;refine zn ?_;refine zy ?_;refine zm ?_;refine zj 49 rfl (fun h6=>?_) (fun h6=>?_)
        ·
         have h6:b+1<s.size:=by have h6:=of_decide_eq_true h6;omega
         refine Ej ?_;refine zm ?_;refine zj 54 rfl (fun h7=>?_) (fun h7=>?_)
         ·
          have h7:aJ s (b+1)=43:=by have h7:=eq_of_beq h7;omega
          refine zp ?_;exact zt true ⟨rfl,rfl,rfl,trivial⟩ ⟨M11.step E Px,(decide_eq_true (.inl h7)).symm⟩
         ·
          have h7:¬aJ s (b+1)=43:=fun e=>absurd h7 (by rw[e];decide);refine Ej ?_;refine zx ?_;by_cases h8:aJ s (b+1)=45
          ·
           refine zq 60 (.bool true) rfl ((by rw[h8];rfl:(.bool (((aJ s (b+1):Nat):Int)==45):Value)=_)) ?_;exact zt true ⟨rfl,rfl,rfl,trivial⟩ ⟨M11.step E Px,(decide_eq_true (.inr h8)).symm⟩
          ·
           refine zq 60 (.bool false) rfl ((by rw[vm om]:(.bool (((aJ s (b+1):Nat):Int)==45):Value)=_)) ?_;exact Xh
        ·
         have h6:¬b+1<s.size:=by have h6:=of_decide_eq_false h6;omega
         have h0:=ygk (s:=s) (i:=b+1) om;refine vp ?_;exact Xh
       ·
        rintro g eG ⟨M11,hg⟩;replace E:=E.trans M11;replace LW:=LW.step E ak;replace M9:=M9.step E Qq;replace E:=aD (No) eG;replace LW:=LW.step E ak;replace M9:=M9.step E Qq;replace E:=aD (No) eG;refine yh (ι:=Unit) (fun _=>[(0,.string s),(5,.int .i64 ((nQ s b:Nat):Int))]) (fun _ w'=>Ext (No) eG w'∧(True)) ?_ ?_
        ·
         have gK:=aD (No) eG;have fD:=aS (No) eG;refine zg rfl (fun h6=>?_) (fun h6=>?_)
         ·
          rw[hg] at h6;have h6:=of_decide_eq_true h6;have e1:nQ s b=b+2:=by unfold nQ;rw[if_pos h6]
          refine zm ?_;refine yo ?_;refine zm ?_;refine zq 5 (.int .i64 ((nQ s b:Nat):Int)) rfl ((by rw[e1];rfl:(.int .i64 (((b+1:Nat):Int)+1):Value)=_)) ?_;exact zt () ⟨rfl,rfl,trivial⟩ ⟨gK.step E fD,trivial⟩
         ·
          rw[hg] at h6;have h6:=of_decide_eq_false h6;have e1:nQ s b=b+1:=by unfold nQ;rw[if_neg h6]
          refine aN ?_;refine zq 5 (.int .i64 ((nQ s b:Nat):Int)) rfl ((by rw[e1]:(.int .i64 ((b+1:Nat):Int):Value)=_)) ?_;exact zt () ⟨rfl,rfl,trivial⟩ ⟨gK.step E fD,trivial⟩
        ·
         rintro _ dU ⟨gK,_⟩;replace E:=E.trans gK;replace LW:=LW.step E ak;replace M9:=M9.step E Qq;replace E:=aD (No) dU;have e1:nC s b=gY s (nQ s b):=axx h3;have e2:=(km (s:=s) (a:=nQ s b) SG).1.lo;rw[←e1] at e2;refine zx ?_;refine za rfl (zb Rt rfl ((xX _ s (nQ s b) SG hl).mono ?_));rintro e fG ⟨rfl,hb⟩;refine ⟨_,rfl,?_⟩;replace E:=bT E hb;clear hb;refine zf 65 (.int .i64 ((nC s b:Nat):Int)) rfl (by rw[e1]<;>rfl) (yu ?_);refine zg rfl (fun h4=>?_) (fun h4=>?_)
         ·
          have h4:nC s b=nQ s b:=by have h4:=eq_of_beq h4;omega
          have e:iP s f=false:=ow (fun h=>by have:=h.2.2.2;rw[←hn,←hbq] at this;have:=this h3;omega);refine qd ?_;exact Dq
         ·
          have h4:nC s b≠nQ s b:=fun e=>absurd h4 (by rw[e];simp);refine zl ?_;exact zt () ⟨rfl,rfl,trivial⟩ ⟨M9.step E Qq,fun _=>om⟩
      ·
       have h3:=of_decide_eq_false h3;refine aN ?_;refine zq 5 (.int .i64 ((nC s b:Nat):Int)) rfl ((by rw[Xj h3]:(.int .i64 ((b:Nat):Int):Value)=_)) ?_;exact zt () ⟨rfl,rfl,trivial⟩ ⟨M9.step E Qq,fun h=>absurd h h3⟩
     ·
      rintro _ dH ⟨M9,h5⟩;replace E:=E.trans M9;replace LW:=LW.step E ak;replace E:=aD (No) dH;refine zx ?_;refine zy ?_;refine zu ?_;by_cases h6:nC s b=s.size
      ·
       have e:iP s f=true:=vfq ⟨by rw[←hn];omega,by rw[←hn,←hbq];exact h2,by rw[←hn,←hbq];exact h6,by rw[←hn,←hbq];exact h5⟩;refine zq 4 (.bool true) rfl ((by rw[h6];simp:(.bool (((nC s b:Nat):Int)==(s.size:Int)):Value)=_)) (aN ?_);exact Dq
      ·
       have e:iP s f=false:=ow (fun h=>by have:=h.2.2.1;rw[←hn,←hbq] at this;omega);refine zq 4 (.bool false) rfl ((by rw[vm om]:(.bool (((nC s b:Nat):Int)==(s.size:Int)):Value)=_)) (aN ?_);exact Dq
end
end Go.Proofs.YtmnmebdmpigddaaGreatDoor
namespace Go.Proofs.YtmnmebdmpigddaaGreatDoor
open Go.RowKit Proofs.Tryz
theorem Eo {P Q:Prop} (k:Q) (h:(Unit→Q)→P:=by
 intro zK;refine za rfl (zb Rp rfl ((Pn _ (LJ s) hnm om (HF.on E).here.1.2 ⟨te,pe,(HF.on E).here.2⟩).mono ?_));exact zK ()):P:=h fun _=>k
theorem nX {P Q:Prop} (k:Q) (h:(Unit→Q)→P:=by
 intro zK;refine za rfl (vu (l:=Fe s) (h:=s.size) u9 rfl ⟨_,rfl⟩ rfl hcl (Nat.le_refl _) ?_);exact zK ()):P:=h fun _=>k
theorem Jh {P:Prop} (h:P:=by
 exact zt () ⟨rfl,rfl,rfl,rfl,trivial⟩ ⟨M1.step E dz,trivial⟩):P:=h
theorem Xl {P:Prop} (h:P:=by
 exact ⟨by unfold qJ qK;rw[if_neg h1,if_neg h1,if_neg h2,if_neg h2,if_neg h3,if_neg h3,if_neg h4,if_neg h4];rfl,(LW.step E ak).toBelow⟩):P:=h
theorem Xm {P:Prop} (h:P:=by
 have h1:1000<s.size:=by have h1:=of_decide_eq_true h1;omega
 refine qd ?_;exact ⟨by unfold qJ qK;rw[if_pos h1,if_pos h1];rfl,(LW.step E ak).toBelow⟩):P:=h
theorem Xn {P:Prop} (h:P:=by
 have h3:nY s=true:=h3;refine zz ?_;exact ⟨by unfold qJ qK;rw[if_neg h1,if_neg h1,if_neg h2,if_neg h2,if_pos h3,if_pos h3];rfl,(LW.step E ak).toBelow⟩):P:=h
attribute [local irreducible] OW RS CW EW
noncomputable def LJ (s:ByteArray):ByteArray:=s.extract (Fe s) s.size
noncomputable def vbx (s:ByteArray):Bool:=(LJ s).toList==(⟨#[105,110,102]⟩:ByteArray).toList
noncomputable def nY (s:ByteArray):Bool:=(LJ s).toList==(⟨#[110,97,110]⟩:ByteArray).toList
noncomputable def qJ (s:ByteArray):Nat:=
 if 1000<s.size then 0
 else if vbx s then dw (signed s)+9218868437227405312
 else if nY s then 9221120237041090560
 else if iP (LJ s) 0 then dw (signed s)+iD (LJ s) 0 false
 else 0
noncomputable def qK (s:ByteArray):Int:=
 if 1000<s.size then 2
 else if vbx s then 0
 else if nY s then 0
 else if iP (LJ s) 0 then 0
 else 4
theorem af2 (s:ByteArray):Fe s≤s.size:=by
 unfold Fe;split
 · rename_i h
   have:=oo (s:=s) (i:=0) om;omega
 · omega
theorem Ep (s:ByteArray):(LJ s).size≤s.size:=by unfold LJ;rw[yt];omega
theorem fV.le {v:Nat} (h:fV false v):v≤9218868437227405312:=h.OB
theorem vdq {v:Nat} (h:fV false v) (n:Bool):yy (dw n+v)=dw n+v:=by
 have h1:=ylq h.OB n;rw[af0 h.OB] at h1;unfold yy;rw[h1.num,if_neg de]
theorem Er {v:Nat} (h:fV false v):Ieee.double.word (ng 13830554455654793216) (rg v)=dw true+v:=by
 have h1:rg v=v:=by
  have:=h.OB;unfold rg;omega
 rw[h1,show ng 13830554455654793216=true by decide +kernel];unfold Ieee.Format.word;rw[c1,if_pos rfl];show _=9223372036854775808+v
 omega
theorem af3:fV false 9218868437227405312:=by
 have h:=ylq (Nat.le_refl 9218868437227405312) false;rw[show dw false=0 from rfl,Nat.zero_or] at h;exact h
theorem af4:Gives 100 #[.int .i64 1] (.float .f64 9218868437227405312):=by
 intro w;refine zc func100 rfl ntmps100 rfl ?_;have LW:=aD (No) w;have ak:=aS (No) w;have E:=aD (No) w;refine RG ?_;refine za rfl (va (b:=9218868437227405312) zQ rfl (zx ?_));refine gr (rs:=[.tmp 2]) (vs:=[.float .f64 9218868437227405312]) rfl ⟨rfl,trivial⟩ ?_;exact xj
section
variable (w:World) {bp op cp bf of cf bl ol cl:Nat}
theorem qL (s:ByteArray) (hT:dB bp op cp bf of cf bl ol cl w) (hE:∃te pe,w.cell? ⟨4,0,none⟩=some (.iface te pe)):Calls prog 50 #[.string s] w (aI w (.tuple #[.int .u64 ((qJ s:Nat):Int),.int .i64 (qK s)])):=by
 have hxs:=Ep s;obtain ⟨te,pe,hE⟩:=hE;refine zc func50 rfl ntmps50 rfl ?_;obtain ⟨HF,LW,ak,E⟩:=bg w;replace HF:=HF.and (Per.tabs hT (fun _ h=>h.elim));replace HF:=HF.and (Per.dA hE (fun _ h=>h.elim));refine zz ?_;refine zy ?_;refine zn ?_;refine zg rfl (fun h1=>?_) (fun h1=>?_)
 ·
  exact Xm
 ·
  have h1:¬1000<s.size:=by have h1:=of_decide_eq_false h1;omega
  refine zu ?_;refine zh rfl aO0 rfl (Xk _ s) E fun w1 E=>(jt ?_);replace HF:=HF.on E;replace LW:=LW.step E ak;replace E:=aD (No) w1;refine yh (ι:=Nat) (fun v=>[(5,.bool (signed s)),(6,.float .f64 v)]) (fun v w'=>Ext (No) w1 w'∧(fV false v∧dw (signed s)+v=qJ s∧qK s=0)) ?_ ?_
  ·
   have M2:=aD (No) w1;have XM2:=aS (No) w1;refine yi ?_;refine zg rfl (fun h2=>?_) (fun h2=>?_)
   ·
    have h2:vbx s=true:=h2;refine aN ?_;refine zh rfl aAx rfl (af4 _) E fun w4 E=>(zn ?_);exact zt 9218868437227405312 ⟨rfl,rfl,trivial⟩ ⟨M2.step E XM2,af3,by unfold qJ;rw[if_neg h1,if_pos h2],by unfold qK;rw[if_neg h1,if_pos h2]⟩
   ·
    have h2:¬vbx s=true:=by rw[show vbx s=false from h2];decide
    refine zp ?_;refine zg rfl (fun h3=>?_) (fun h3=>?_)
    ·
     exact Xn
    ·
     have h3:¬nY s=true:=by rw[show nY s=false from h3];decide
     refine zn ?_;refine zh rfl aAj rfl (Em _ (LJ s) om) E fun w5 E=>(zn ?_);refine zg rfl (fun h4=>?_) (fun h4=>?_)
     ·
      have hnm:=IE (Nat.zero_le _) (xH h4);refine zm ?_;refine Eo ?_;rintro e w6 ⟨⟨er,rfl⟩,hb⟩;refine ⟨_,rfl,?_⟩;replace E:=bT E hb;refine zl ?_;exact zt (iD (LJ s) 0 false) ⟨rfl,rfl,trivial⟩ ⟨M2.step E XM2,viv false hnm,by unfold qJ;rw[if_neg h1,if_neg h2,if_neg h3,if_pos h4],by unfold qK;rw[if_neg h1,if_neg h2,if_neg h3,if_pos h4]⟩
     ·
      have h4:¬iP (LJ s) 0=true:=by rw[h4];decide
      refine zz ?_;exact Xl
  ·
   rintro v w3 ⟨M2,⟨hv,hpv,hpe⟩⟩;replace E:=E.trans M2;replace LW:=LW.step E ak;replace E:=aD (No) w3;refine zl ?_;refine zg rfl (fun h5=>?_) (fun h5=>?_)
   ·
    refine zm ?_;refine zh rfl ahx rfl (qok _ v hv.lt 13830554455654793216 de) E fun w7 E=>(zf 32 (.float .f64 (dw true+v)) rfl (by rw[Er hv]<;>rfl) (zl ?_));refine zh rfl Rm rfl (ypk _ (dw true+v)) E fun w8 E=>(zl ?_);exact ⟨by rw[vdq hv,←hpv,hpe,h5];rfl,(LW.step E ak).toBelow⟩
   ·
    refine zu ?_;refine zh rfl Rm rfl (ypk _ v) E fun w9 E=>?_;have hb0:=vdq hv false;rw[show dw false=0 from rfl,Nat.zero_add] at hb0;refine zl ?_;exact ⟨by rw[hb0,←hpv,hpe,h5,show dw false=0 from rfl,Nat.zero_add];rfl,(LW.step E ak).toBelow⟩
theorem iR (s:ByteArray) (hT:dB bp op cp bf of cf bl ol cl w) (hE:∃te pe,w.cell? ⟨4,0,none⟩=some (.iface te pe)):Calls prog 56 #[.string s] w (aI w (.tuple #[.int .u64 ((qJ s:Nat):Int),.int .i64 (qK s)])):=by
 have hxs:=Ep s;have hcl:=af2 s;obtain ⟨te,pe,hE⟩:=hE;refine zc func56 rfl ntmps56 rfl ?_;obtain ⟨HF,LW,ak,E⟩:=bg w;replace HF:=HF.and (Per.tabs hT (fun _ h=>h.elim));replace HF:=HF.and (Per.dA hE (fun _ h=>h.elim));refine zz ?_;refine zy ?_;refine zn ?_;refine zg rfl (fun h1=>?_) (fun h1=>?_)
 ·
  exact Xm
 ·
  have h1:¬1000<s.size:=by have h1:=of_decide_eq_false h1;omega
  refine jm ?_;replace HF:=HF.on E;replace LW:=LW.step E ak;replace E:=aD (No) w;refine yh (ι:=Unit) (fun _=>[(0,.string s),(4,.int .i64 0),(5,.int .u64 0),(18,.bool (signed s))]) (fun _ w'=>Ext (No) w w'∧(True)) ?_ ?_
  ·
   have M1:=aD (No) w;have dz:=aS (No) w;refine zm ?_;refine zy ?_;refine zm ?_;refine zj 14 rfl (fun h2=>?_) (fun h2=>?_)
   ·
    have h2:0<s.size:=by have h2:=of_decide_eq_true h2;omega
    refine aN ?_;refine bO rfl (yn (j:=0) (b:=aJ s 0) u9 rfl rfl rfl (qh h2) (zn ?_));by_cases h3:aJ s 0=45
    ·
     refine zq 18 (.bool (signed s)) rfl ((by rw[show signed s=true from decide_eq_true h3,h3];rfl:(.bool (((aJ s 0:Nat):Int)==45):Value)=_)) ?_;exact Jh
    ·
     refine zq 18 (.bool (signed s)) rfl ((by rw[show signed s=false from decide_eq_false h3,vm om]:(.bool (((aJ s 0:Nat):Int)==45):Value)=_)) ?_;exact Jh
   ·
    have h2:¬0<s.size:=by have h2:=of_decide_eq_false h2;omega
    have h0:=ygk (s:=s) (i:=0) om;refine zu ?_;refine zq 18 (.bool (signed s)) rfl ((by rw[show signed s=false from decide_eq_false om]:(.bool false:Value)=_)) ?_;exact Jh
  ·
   rintro _ w2 ⟨M1,_⟩;replace E:=E.trans M1;replace HF:=HF.on E;replace LW:=LW.step E ak;replace E:=aD (No) w2;replace HF:=HF.on E;replace LW:=LW.step E ak;replace E:=aD (No) w2;refine yh (ι:=Unit) (fun _=>[(0,.string s),(4,.int .i64 ((Fe s:Nat):Int)),(5,.int .u64 ((dw (signed s):Nat):Int))]) (fun _ w'=>Ext (No) w2 w'∧(True)) ?_ ?_
   ·
    have M3:=aD (No) w2;have aV:=aS (No) w2;refine zg rfl (fun h2=>?_) (fun h2=>?_)
    ·
     have h3:aJ s 0=45:=of_decide_eq_true h2;refine yi ?_;refine zq 4 (.int .i64 ((Fe s:Nat):Int)) rfl ((by unfold Fe;rw[if_pos h3];rfl:(.int .i64 1:Value)=_)) (zq 5 (.int .u64 ((dw (signed s):Nat):Int)) rfl ((by rw[h2];rfl:(.int .u64 9223372036854775808:Value)=_)) ?_);exact zt () ⟨rfl,rfl,rfl,trivial⟩ ⟨M3.step E aV,trivial⟩
    ·
     have h3:¬aJ s 0=45:=of_decide_eq_false h2;refine aN ?_;refine zq 4 (.int .i64 ((Fe s:Nat):Int)) rfl ((by unfold Fe;rw[if_neg h3];rfl:(.int .i64 0:Value)=_)) (zq 5 (.int .u64 ((dw (signed s):Nat):Int)) rfl ((by rw[h2];rfl:(.int .u64 0:Value)=_)) ?_);exact zt () ⟨rfl,rfl,rfl,trivial⟩ ⟨M3.step E aV,trivial⟩
   ·
    rintro _ w4 ⟨M3,_⟩;replace E:=E.trans M3;replace HF:=HF.on E;replace LW:=LW.step E ak;replace E:=aD (No) w4;have hsg:dw (signed s)≤9223372036854775808:=by cases signed s<;>decide
    refine zl ?_;refine nX ?_;refine zx ?_;refine zg rfl (fun h2=>?_) (fun h2=>?_)
    ·
     have h2:vbx s=true:=h2;refine zn ?_;refine kl ?_;refine zp ?_;refine zq 2 (.int .u64 ((qJ s:Nat):Int)) rfl ((by unfold qJ;rw[if_neg h1,if_pos h2];congr 1;omega:(.int .u64 (9218868437227405312+((dw (signed s):Nat):Int)):Value)=_)) (aN ?_);exact ⟨by unfold qK;rw[if_neg h1,if_pos h2];rfl,(LW.step E ak).toBelow⟩
    ·
     have h2:¬vbx s=true:=by rw[show vbx s=false from h2];decide
     refine zx ?_;refine nX ?_;refine zx ?_;refine zg rfl (fun h3=>?_) (fun h3=>?_)
     ·
      exact Xn
     ·
      have h3:¬nY s=true:=by rw[show nY s=false from h3];decide
      refine zx ?_;refine zh rfl aB2 rfl (qI _ s (Fe s) hcl om) E fun w5 E=>(zf 34 (.bool (iP (LJ s) 0)) rfl (by rw[←IW hcl];rfl) (zn ?_));refine zg rfl (fun h4=>?_) (fun h4=>?_)
      ·
       have hnm:=IE (Nat.zero_le _) (xH h4);have hv:=(viv false hnm).OB;refine zx ?_;refine nX ?_;refine Eo ?_;rintro e w6 ⟨⟨er,rfl⟩,hb⟩;refine ⟨_,rfl,?_⟩;replace E:=bT E hb;refine zz ?_;refine ZA ?_;refine aN ?_;refine kl ?_;refine zp ?_;refine zq 2 (.int .u64 ((qJ s:Nat):Int)) rfl ((by unfold qJ;rw[if_neg h1,if_neg h2,if_neg h3,if_pos h4];congr 1;omega:(.int .u64 ((((iD (LJ s) 0 false):Nat):Int)+((dw (signed s):Nat):Int)):Value)=_)) (aN ?_);exact ⟨by unfold qK;rw[if_neg h1,if_neg h2,if_neg h3,if_pos h4];rfl,(LW.step E ak).toBelow⟩
      ·
       have h4:¬iP (LJ s) 0=true:=by rw[h4];decide
       refine yu ?_;exact Xl
end
end Go.Proofs.YtmnmebdmpigddaaGreatDoor
namespace Go.Proofs.YtmnmebdmpigddaaGreatDoor
open Go.RowKit
noncomputable def unP (op:Int) (v:PV):PV×Int:=
 if v.good then (if gg v.k&&(op==1 || op==2) then (if v.k=3 then (WZ (if op=1 then yy (qf v.bits) else yy v.bits),0) else (vI (if op=2 then nU v else -nU v),0)) else (vZ,9)) else (vZ,3)
noncomputable def xY (v:PV):PV×Int:=
 if v.good then (if v.k=1∨v.k=2 then (vI (nU v),0)
  else if v.k=3 then (if wE v.bits=0 then (vI (wV v.bits),0) else (vZ,wE v.bits))
  else if v.k=4 then (if qy (ky v.s.data.toList)=0 then (vI (qz (Qr v.s.data.toList) (ky v.s.data.toList)),0) else (vZ,4))
  else (vZ,9)) else (vZ,3)
noncomputable def xZ (v:PV):PV×Int:=
 if v.good then (if gg v.k then (if (gV v).2=0 then (WZ (yy (gV v).1),0) else (vZ,(gV v).2))
  else if v.k=4 then (if qK v.s=0 then (WZ (yy (qJ v.s)),0) else (vZ,4)) else (vZ,9)) else (vZ,3)
theorem ay0 (b:Bool):dw b≤9223372036854775808:=by unfold dw;split<;>omega
theorem x9 (s:ByteArray):qJ s<18446744073709551616:=by
 unfold qJ;have h:=ay0 (signed s);split
 · decide
 split
 · omega
 split
 · decide
 split
 · rename_i h4
   have h5:=(viv false (IE (Nat.zero_le _) (xH h4))).OB;omega
 · decide
theorem Es (n:Bool) (r:List UInt8):(qz n r).natAbs<au^30:=by
 unfold qz;split
 · rename_i h
   have:=h.2.2;unfold bL;split<;>omega
 · decide
theorem Py {n:Bool} {r:List UInt8} {K:Int} (h:K=qz n r):(av K).length≤1048576:=by
 have:=(ot K).2 (h▸Es n r);omega
theorem af5 (op:Int) (v:PV):(unP op v).1.xs.length≤1048576:=by
 unfold unP;split
 · rename_i hg
   split
   · rename_i hn
     rw[Bool.and_eq_true] at hn;have hk:=qkk hn.1;split
     · exact Nat.zero_le _
     · rename_i h3
       have h:=LH hg om;refine xQ ?_;split
       · exact h
       · rw[Int.natAbs_neg];exact h
   · exact Nat.zero_le _
 · exact Nat.zero_le _
theorem Xo (v:PV):(xY v).1.xs.length≤1048576:=by
 unfold xY;split
 · rename_i hg
   split
   · rename_i hk
     exact xQ (LH hg hk)
   split
   · split
     · exact xQ (aK9 _)
     · exact Nat.zero_le _
   split
   · split
     · exact xQ (Es _ _)
     · exact Nat.zero_le _
   · exact Nat.zero_le _
 · exact Nat.zero_le _
theorem Xp (v:PV):(xZ v).1.xs.length≤1048576:=by
 unfold xZ;repeat' split
 all_goals exact Nat.zero_le _
end Go.Proofs.YtmnmebdmpigddaaGreatDoor
namespace Go.Proofs.YtmnmebdmpigddaaGreatDoor
open Go.RowKit Proofs.Tryz
attribute [local irreducible] OW RS CW EW
section
variable (w:World) (v:PV) (A B:Option Addr) (c d:Nat) (hx:aC w A v.xs) (hy:aC w B v.xs) (hl:v.xs.length≤1048576)
include hx hy hl
theorem ay1:Calls prog 14 #[.agg #[.int .i64 v.k,.bool v.yes,.bool v.neg,.slice A v.xs.length c,.int .u64 (v.bits:Int),.string v.s,.slice none 0 0],.agg #[.int .i64 v.k,.bool v.yes,.bool v.neg,.slice B v.xs.length d,.int .u64 (v.bits:Int),.string v.s,.slice none 0 0]] w (aI w (.bool true)):=by
 refine zc func14 rfl ntmps14 rfl ?_;obtain ⟨HF,LW,ak,E⟩:=bg w;replace HF:=HF.and (Per.aH hx);replace HF:=HF.and (Per.aH hy);refine zi ?_;intro aG w2 aA aK aP;obtain ⟨HF,LW,E⟩:=bD HF LW E ak aA aK;refine za rfl (jz rfl ?_);intro aR w4 aF aO aT;obtain ⟨HF,LW,E⟩:=bD HF LW E ak aF aO;refine vp ?_;refine zf 11 (.bool false) rfl (by simp) (zx ?_);refine bO rfl (JW u4 rfl rfl (zm ?_));refine zf 18 (.bool false) rfl (by simp) (zp ?_);refine zf 25 (.bool false) rfl (by simp) (zx ?_);refine bO rfl (ydx rfl rfl (zm ?_));refine zf 32 (.bool false) rfl (by simp) (aN ?_);refine bO rfl (jF u24 rfl kw rfl (HF.on E).here.1.2 rfl rfl (aN ?_));refine bO rfl (jF u24 rfl kw rfl (HF.on E).here.2 rfl rfl (bO rfl (zb aA6 rfl ((l9 v.neg v.xs▸rJ A B c d v.xs v.xs _ v.neg v.neg (HF.on E).here.1.1.1.2 (HF.on E).here.1.1.2 hl hl).mono ?_))));rintro e w5 ⟨rfl,hb⟩;refine ⟨_,rfl,?_⟩;replace E:=bT E hb;refine Co ?_;refine zcx (zp ?_);refine zf 52 (.int .i64 0) rfl (by kernel_rfl:(.int .i64 (0:Nat):Value)=_) (oh ?_);exact xj
theorem qvq (f:Int):Calls prog 9 #[.agg #[.int .i64 v.k,.bool v.yes,.bool v.neg,.slice A v.xs.length c,.int .u64 (v.bits:Int),.string v.s,.slice none 0 0],.int .i64 f,.agg #[.int .i64 v.k,.bool v.yes,.bool v.neg,.slice B v.xs.length d,.int .u64 (v.bits:Int),.string v.s,.slice none 0 0],.int .i64 f] w (aI w (.bool true)):=by
 refine zc func9 rfl ntmps9 rfl ?_;obtain ⟨HF,LW,ak,E⟩:=bg w;replace HF:=HF.and (Per.aH hx);replace HF:=HF.and (Per.aH hy);refine zi ?_;intro aG w2 aA aK aP;obtain ⟨HF,LW,E⟩:=bD HF LW E ak aA aK;refine za rfl (jz rfl ?_);intro aR w4 aF aO aT;obtain ⟨HF,LW,E⟩:=bD HF LW E ak aF aO;refine zp ?_;refine zh rfl aA1 rfl (ay1 _ v A B c d (HF.on E).here.1.1.1.2 (HF.on E).here.1.1.2 hl) E fun w5 E=>(zx ?_);refine zf 15 (.bool true) rfl (by simp:(.bool (f==f):Value)=_) (zl ?_);exact xj
end
end Go.Proofs.YtmnmebdmpigddaaGreatDoor
namespace Go.Proofs.YtmnmebdmpigddaaGreatDoor
open Go.RowKit Proofs.Tryz
theorem anj {P:Prop} (h:P:=by
 rw[if_pos hk] at hV hf;subst hV hf;refine zm ?_;refine za rfl (jz rfl ?_);intro aG w2 aA aK aP;obtain ⟨HF,LW,E⟩:=bD HF LW E ak aA aK;refine vp ?_;refine zd 6 (.bool true) rfl (by simp[hk]) (vp ?_);exact xj):P:=h
attribute [local irreducible] OW RS CW EW
section
variable (w:World) (ua:PV) (A1 B1:Option Addr) (c1 d1:Nat) (hx:aC w A1 ua.xs) (hl:ua.xs.length≤9223372036854775807) (ha:ua.bits<18446744073709551616)
include hx hl ha
omit hx hl in
theorem yA (b:Nat) (hb0:b<18446744073709551616):Calls prog 47 #[.int .u64 ((b:Nat):Int)] w (aI w (.agg #[.int .i64 3,.bool false,.bool false,.slice none 0 0,.int .u64 ((yy b:Nat):Int),.string ⟨#[]⟩,.slice none 0 0])):=by
 have _:=ha;refine zc func47 rfl ntmps47 rfl ?_;obtain ⟨HF,LW,ak,E⟩:=bg w;refine zm ?_;refine zv ?_;intro aG w2 aA aK aP;obtain ⟨aP,HF,E,ak⟩:=bJ HF LW E ak aK aP;refine zu ?_;refine za rfl (zb aq9 rfl ((quv _ b).mono ?_));rintro e w3 ⟨rfl,hb⟩;refine ⟨_,rfl,?_⟩;have Ec:=Ext.of_below hb No;replace aA:=aA.ay Ec ah.nil;replace E:=E.trans Ec.no;refine za rfl (zb aq9 rfl ((quv _ (yy (qf b))).mono ?_));rintro e w4 ⟨rfl,hb⟩;refine ⟨_,rfl,?_⟩;have Ec:=Ext.of_below hb No;replace aA:=aA.ay Ec ah.nil;replace E:=E.trans Ec.no;refine za rfl (qn (cs:=#[.int .i64 3,.bool false,.bool false,.slice none 0 0,.int .u64 ((yy (qf (yy (qf b))):Nat):Int),.string ⟨#[]⟩,.slice none 0 0]) EX EU rfl rfl (zk (zw ku rfl rfl aA rfl rfl rfl ?_)));intro w5 Bx aK;replace aA:aB w5 aG 28 #[.int .i64 3,.bool false,.bool false,.slice none 0 0,.int .u64 ((yy (qf (yy (qf b))):Nat):Int),.string ⟨#[]⟩,.slice none 0 0]:=Bx;replace E:=E.step1 aK aj.head;obtain ⟨HF,LW,ak,E⟩:=dx HF LW E ak (Y:=No) (aj.skip aj.aU) (Per.aW aA ah.nil);refine zn ?_;refine gr (rs:=[.cell 2 28]) (vs:=[_]) rfl ⟨⟨_,rfl,ycv u28 rfl ku (HF.on E).here.2 rfl⟩,trivial⟩ ?_;exact ⟨by rw[Oa hb0];rfl,(LW.step E ak).toBelow⟩
variable {bp op cp bf of cf bl ol cl:Nat} (hD:∀b,Below w.heap.size w b→xW b) (bP:dB bp op cp bf of cf bl ol cl w) (hE:∃te pe,w.cell? ⟨4,0,none⟩=some (.iface te pe))
include hD bP hE
theorem Xq (hg:ua.good=true) (hn:gg ua.k=true) (V:Nat) (f:Int) (hV:V=(gV ua).1) (hf:f=(gV ua).2):Calls prog 49 #[bK ua A1 c1 B1 d1] w (aI w (.tuple #[.int .u64 ((V:Nat):Int),.int .i64 f])):=by
 obtain ⟨te,pe,hE⟩:=hE;have _:=ha;have hkk:=qkk hn;have hcl:=PV.iy hl;unfold gV at hV hf;refine zc func49 rfl ntmps49 rfl ?_;obtain ⟨HF,LW,ak,E⟩:=bg w;replace HF:=HF.and (Per.aH hx);replace HF:=HF.and (Per.tabs bP (fun _ h=>h.elim));replace HF:=HF.and (Per.dA hE (fun _ h=>h.elim));by_cases hk:ua.k=3
 ·
  exact anj
 ·
  have hk2:ua.k=1∨ua.k=2:=om;have hgc:=PV.W9 hg hk2;rw[if_neg hk] at hV hf;refine zi ?_;intro aR w4 aF aO aT;obtain ⟨HF,LW,E⟩:=bD HF LW E ak aF aO;refine vp ?_;refine zd 6 (.bool false) rfl (by simp[hk]) (zl ?_);refine qdz ?_;rintro e w5 ⟨A3,c3,rfl,hN,hb⟩;refine ⟨_,rfl,?_⟩;have XC:∀q9,(No) q9→q9<w4.heap.size:=aj.none_;replace E:=bT E hb;obtain ⟨HF,LW,E⟩:=cO HF LW E ak (ztv hN XC);refine zh rfl aNj rfl (aej _ ua.cn A3 c3 ua.cx hcl (((HF.on E).here.2).nums (HF.on E).here.1.1.1.1.2) V f (by rw[hV,if_pos hgc];rfl) (by rw[hf,if_pos hgc];rfl) (later hD (LW.step E ak).toBelow) (HF.on E).here.1.1.1.2 ⟨te,pe,(HF.on E).here.1.1.2⟩) E fun w6 E=>(yi ?_);exact xj
end
end Go.Proofs.YtmnmebdmpigddaaGreatDoor
namespace Go.Proofs.YtmnmebdmpigddaaGreatDoor
open Go.RowKit Proofs.Tryz
theorem qdq {P Q:Prop} (k:Q) (h:(Unit→Q)→P:=by
 intro zK;refine za rfl (zb jW rfl ((Uq _ ua A1 B1 c1 d1 false hn).mono ?_));exact zK ()):P:=h fun _=>k
theorem ykq {P Q:Prop} (k:Q) (h:(Unit→Q)→P:=by
 intro zK;refine za rfl (zb jW rfl ((Uq _ ua A1 B1 c1 d1 true hn).mono ?_));exact zK ()):P:=h fun _=>k
theorem gk {P Q:Prop} (k:Q) (h:(Unit→Q)→P:=by
 intro zK;refine zk (zw ku rfl rfl aF rfl rfl rfl ?_);exact zK ()):P:=h fun _=>k
theorem ka {P Q:Prop} (k:Q) (h:(Unit→Q)→P:=by
 intro zK;refine za rfl (zb uZ rfl ((jw _ ua A1 B1 c1 d1 (HF.on E).here.1.2 hl true hg).mono ?_));exact zK ()):P:=h fun _=>k
theorem zdv {P Q:Prop} (k:Q) (h:(Unit→Q)→P:=by
 intro zK;refine za rfl (qn (cs:=#[.int .i64 0,.bool false,.bool false,.slice none 0 0,.int .u64 0,.string ⟨#[]⟩,.slice none 0 0]) EX EU rfl rfl ?_);exact zK ()):P:=h fun _=>k
theorem Xr {P:Prop} (h:P:=by
 refine za rfl (qn (cs:=#[.int .i64 0,.bool false,.bool false,.slice none 0 0,.int .u64 0,.string ⟨#[]⟩,.slice none 0 0]) EX EU rfl rfl ?_);exact ao0):P:=h
theorem ao0 {P:Prop} (h:P:=by
 refine zk (zw ku rfl rfl aF rfl rfl rfl ?_);intro w7 Bx aO;replace aF:aB w7 aR 28 #[.int .i64 0,.bool false,.bool false,.slice none 0 0,.int .u64 0,.string ⟨#[]⟩,.slice none 0 0]:=Bx;replace E:=E.step1 aO aj.head;refine zp ?_;exact vcv):P:=h
theorem vcv {P:Prop} (h:P:=by
 exact ⟨none,0,rfl,Yf,(LW.step E ak).toBelow⟩):P:=h
attribute [local irreducible] OW RS CW EW
theorem nZ {w:World} {A:Option Addr} {c:Nat} {n:Bool} {xs:List Nat} (hx:aC w A xs) (hl:xs.length≤9223372036854775807) (hg:zr n xs=true) (J:Int) (hJ:J= -num n xs):Calls prog 48 #[.agg #[.bool n,.slice A xs.length c]] w (Mt w J):=by
 have h:=Zz A c xs w n hx hl;rw[if_pos hg,←hJ] at h;exact h
theorem Xt {w:World} {A:Option Addr} {c:Nat} (i:Int) (hx:aC w A (limbs i)) (hi:i.natAbs<au^30) (J:Int) (hJ:J= -i):Calls prog 48 #[.agg #[.bool (decide (i<0)),.slice A (limbs i).length c]] w (Mt w J):=by
 have hl:=ve hi;exact nZ hx om (vb hi) J (by rw[hJ,ji])
section
variable (w:World) (ua:PV) (A1 B1:Option Addr) (c1 d1:Nat) (hx:aC w A1 ua.xs) (hl:ua.xs.length≤9223372036854775807) (ha:ua.bits<18446744073709551616)
include hx hl ha
theorem Pz (op:Int) (hg:ua.good=false):Calls prog 15 #[.int .i64 op,bK ua A1 c1 B1 d1] w (vf w (vZ,3)):=by
 have _:=hx;have _:=hl;have _:=ha;refine zc func15 rfl ntmps15 rfl ?_;obtain ⟨HF,LW,ak,E⟩:=bg w;replace HF:=HF.and (Per.aH hx);refine zi ?_;intro aG w2 aA aK aP;obtain ⟨HF,LW,E⟩:=bD HF LW E ak aA aK;refine zv ?_;intro aR w4 aF aO aT;obtain ⟨aT,HF,E,ak⟩:=bJ HF LW E ak aO aT;refine yi ?_;refine za rfl (zb uZ rfl ((jw _ ua A1 B1 c1 d1 (HF.on E).here.1.2 hl false hg).mono ?_));rintro e w5 ⟨rfl,hb⟩;refine ⟨_,rfl,?_⟩;have Ec:=Ext.of_below hb No;replace aF:=aF.ay Ec ah.nil;replace E:=E.trans Ec.no;refine zp ?_;refine zdv ?_;refine gk ?_;intro w6 Bx aO;replace aF:aB w6 aR 28 #[.int .i64 0,.bool false,.bool false,.slice none 0 0,.int .u64 0,.string ⟨#[]⟩,.slice none 0 0]:=Bx;replace E:=E.step1 aO aj.head;refine zp ?_;exact vcv
theorem Et (op:Int) (hg:ua.good=true) (hn:gg ua.k=false):Calls prog 15 #[.int .i64 op,bK ua A1 c1 B1 d1] w (vf w (vZ,9)):=by
 have _:=hx;have _:=hl;have _:=ha;refine zc func15 rfl ntmps15 rfl ?_;obtain ⟨HF,LW,ak,E⟩:=bg w;replace HF:=HF.and (Per.aH hx);refine zi ?_;intro aG w2 aA aK aP;obtain ⟨HF,LW,E⟩:=bD HF LW E ak aA aK;refine zv ?_;intro aR w4 aF aO aT;obtain ⟨aT,HF,E,ak⟩:=bJ HF LW E ak aO aT;refine yi ?_;refine ka ?_;rintro e w5 ⟨rfl,hb⟩;refine ⟨_,rfl,?_⟩;have Ec:=Ext.of_below hb No;replace aF:=aF.ay Ec ah.nil;replace E:=E.trans Ec.no;refine yi ?_;refine qdq ?_;rintro e w6 ⟨rfl,hb⟩;refine ⟨_,rfl,?_⟩;have Ec:=Ext.of_below hb No;replace aF:=aF.ay Ec ah.nil;replace E:=E.trans Ec.no;refine kz ?_;exact Xr
theorem Eu (op:Int) (hg:ua.good=true) (hn:gg ua.k=true) (h1:op≠1) (h2:op≠2):Calls prog 15 #[.int .i64 op,bK ua A1 c1 B1 d1] w (vf w (vZ,9)):=by
 have _:=hx;have _:=hl;have _:=ha;refine zc func15 rfl ntmps15 rfl ?_;obtain ⟨HF,LW,ak,E⟩:=bg w;replace HF:=HF.and (Per.aH hx);refine zi ?_;intro aG w2 aA aK aP;obtain ⟨HF,LW,E⟩:=bD HF LW E ak aA aK;refine zv ?_;intro aR w4 aF aO aT;obtain ⟨aT,HF,E,ak⟩:=bJ HF LW E ak aO aT;refine yi ?_;refine ka ?_;rintro e w5 ⟨rfl,hb⟩;refine ⟨_,rfl,?_⟩;have Ec:=Ext.of_below hb No;replace aF:=aF.ay Ec ah.nil;replace E:=E.trans Ec.no;refine yi ?_;refine ykq ?_;rintro e w6 ⟨rfl,hb⟩;refine ⟨_,rfl,?_⟩;have Ec:=Ext.of_below hb No;replace aF:=aF.ay Ec ah.nil;replace E:=E.trans Ec.no;refine zu ?_;refine zf 19 (.bool true) rfl (by simp[h1]) (zp ?_);refine zd 12 (.bool true) rfl (by simp[h2]) (zn ?_);exact Xr
theorem Ji (hg:ua.good=true) (hn:gg ua.k=true) (hk:ua.k=3):Calls prog 15 #[.int .i64 1,bK ua A1 c1 B1 d1] w (vf w (WZ (yy (qf ua.bits)),0)):=by
 have _:=hx;have _:=hl;have _:=ha;refine zc func15 rfl ntmps15 rfl ?_;obtain ⟨HF,LW,ak,E⟩:=bg w;replace HF:=HF.and (Per.aH hx);refine zi ?_;intro aG w2 aA aK aP;obtain ⟨HF,LW,E⟩:=bD HF LW E ak aA aK;refine zv ?_;intro aR w4 aF aO aT;obtain ⟨aT,HF,E,ak⟩:=bJ HF LW E ak aO aT;refine yi ?_;refine ka ?_;rintro e w5 ⟨rfl,hb⟩;refine ⟨_,rfl,?_⟩;have Ec:=Ext.of_below hb No;replace aF:=aF.ay Ec ah.nil;replace E:=E.trans Ec.no;refine yi ?_;refine ykq ?_;rintro e w6 ⟨rfl,hb⟩;refine ⟨_,rfl,?_⟩;have Ec:=Ext.of_below hb No;replace aF:=aF.ay Ec ah.nil;replace E:=E.trans Ec.no;refine Ka ?_;refine zd 25 (.bool true) rfl (by simp[hk]) (jt ?_);refine za rfl (zb aq9 rfl ((quv _ ua.bits).mono ?_));rintro e w7 ⟨rfl,hb⟩;refine ⟨_,rfl,?_⟩;have Ec:=Ext.of_below hb No;replace aF:=aF.ay Ec ah.nil;replace E:=E.trans Ec.no;refine za rfl (zb aqx rfl ((yA _ ua ha (yy (qf ua.bits)) (AZ (zfq ha).2.2)).mono ?_));rintro e w8 ⟨rfl,hb⟩;refine ⟨_,rfl,?_⟩;have Ec:=Ext.of_below hb No;replace aF:=aF.ay Ec ah.nil;replace E:=E.trans Ec.no;refine gk ?_;intro w9 Bx aO;replace aF:aB w9 aR 28 #[.int .i64 3,.bool false,.bool false,.slice none 0 0,.int .u64 ((yy (yy (qf ua.bits)):Nat):Int),.string ⟨#[]⟩,.slice none 0 0]:=Bx;replace E:=E.step1 aO aj.head;refine yi ?_;exact ⟨none,0,by rw[nV];rfl,Yf,(LW.step E ak).toBelow⟩
theorem Jj (hg:ua.good=true) (hk:ua.k=1∨ua.k=2):Calls prog 15 #[.int .i64 1,bK ua A1 c1 B1 d1] w (vf w (vI (-nU ua),0)):=by
 have _:=hx;have _:=hl;have _:=ha;obtain ⟨I,hI⟩:∃I,I= -num ua.cn ua.cx:=⟨_,rfl⟩;have hnn:gg ua.k=true:=by rcases hk with h | h<;>rw[h]<;>rfl
 have hgc:=PV.W9 hg hk;have hcl:=PV.iy hl;have hcan:=(PV.canon hg hk).2.2;have hIb:I.natAbs<au^30:=by rw[hI,Int.natAbs_neg];exact hcan
 have hIn:-nU ua=I:=by rw[hI];rfl
 rw[hIn];refine zc func15 rfl ntmps15 rfl ?_;obtain ⟨HF,LW,ak,E⟩:=bg w;replace HF:=HF.and (Per.aH hx);refine zi ?_;intro aG w2 aA aK aP;obtain ⟨HF,LW,E⟩:=bD HF LW E ak aA aK;refine zv ?_;intro aR w4 aF aO aT;obtain ⟨aT,HF,E,ak⟩:=bJ HF LW E ak aO aT;refine yi ?_;refine ka ?_;rintro e w5 ⟨rfl,hb⟩;refine ⟨_,rfl,?_⟩;have Ec:=Ext.of_below hb No;replace aF:=aF.ay Ec ah.nil;replace E:=E.trans Ec.no;refine yi ?_;refine za rfl (zb jW rfl ((Uq _ ua A1 B1 c1 d1 true hnn).mono ?_));rintro e w6 ⟨rfl,hb⟩;refine ⟨_,rfl,?_⟩;have Ec:=Ext.of_below hb No;replace aF:=aF.ay Ec ah.nil;replace E:=E.trans Ec.no;refine Ka ?_;refine zd 25 (.bool false) rfl (by rcases hk with h | h<;>simp[h]) (zp ?_);refine qdz ?_;rintro e w7 ⟨A3,c3,rfl,hN,hb⟩;refine ⟨_,rfl,?_⟩;have XC:∀q9,(aj [(some aR)]) q9→q9<w6.heap.size:=(aj.grow aj.none_ (ze aF.lt));have Ec:=Ext.of_below hb No;replace aF:=aF.ay Ec ah.nil;replace E:=E.trans Ec.no;obtain ⟨HF,LW,E⟩:=cO HF LW E ak (ztv hN XC);refine za rfl (zb aqj rfl ((nZ (c:=c3) (((HF.on E).here.2).nums (HF.on E).here.1.1.2) hcl hgc I hI).mono ?_));rintro e w8 ⟨A4,c4,rfl,o4,hb⟩;refine ⟨_,rfl,?_⟩;have XC:∀q9,(aj [(some aR)]) q9→q9<w7.heap.size:=(aj.grow aj.none_ (ze aF.lt));have SC:=Nat.le_trans LW.size E.size;have Ec:=Ext.of_below hb No;replace aF:=aF.ay Ec ah.nil;replace E:=E.trans Ec.no;have S4:=SC;obtain ⟨HF,LW,E⟩:=cO HF LW E ak (Per.dD o4 XC);refine yq ?_;intro Qs dH oC pI PD;have oD:Apart (some Qs) (some aR):=Apart.of_lt (ze aF.lt) PD;have oF:=oD.symm;replace aF:=aF.ay pI ah.nil;obtain ⟨PD,HF,E,ak⟩:=bJ HF LW E ak pI PD;refine zk (zw kw rfl rfl oC rfl rfl rfl ?_);intro dQ Bx pI;replace oC:aB dQ Qs 24 #[.bool (decide (I<0)),.slice A4 (limbs I).length c4]:=Bx;replace aF:=aF.ay pI (ah.cons oF ah.nil);replace E:=E.step1 pI aj.head;refine kz ?_;refine za rfl (zb YO rfl ((qjz _ A4 c4 (decide (I<0)) (limbs I)).mono ?_));rintro e eG ⟨rfl,hb⟩;refine ⟨_,rfl,?_⟩;have Ec:=Ext.of_below hb No;replace oC:=oC.ay Ec ah.nil;replace aF:=aF.ay Ec ah.nil;replace E:=E.trans Ec.no;refine gk ?_;intro yD Bx aO;replace aF:aB yD aR 28 #[.int .i64 2,.bool false,.bool (decide (I<0)),.slice A4 (limbs I).length c4,.int .u64 0,.string ⟨#[]⟩,.slice none 0 0]:=Bx;replace oC:=oC.ay aO (ah.cons oD ah.nil);replace E:=E.step1 aO (aj.tail aj.head);obtain ⟨HF,LW,ak,E⟩:=dx HF LW E ak (Y:=aj [(some Qs)]) (aj.keep (aj.skip aj.aU)) (Per.aW aF (ah.cons oF ah.nil));refine zu ?_;exact ⟨A4,c4,rfl,((HF.on E).here.1.2).mono S4,(LW.step E ak).toBelow⟩
theorem Jk (hg:ua.good=true) (hn:gg ua.k=true) (hk:ua.k=3):Calls prog 15 #[.int .i64 2,bK ua A1 c1 B1 d1] w (vf w (WZ (yy ua.bits),0)):=by
 have _:=hx;have _:=hl;have _:=ha;refine zc func15 rfl ntmps15 rfl ?_;obtain ⟨HF,LW,ak,E⟩:=bg w;replace HF:=HF.and (Per.aH hx);refine zi ?_;intro aG w2 aA aK aP;obtain ⟨HF,LW,E⟩:=bD HF LW E ak aA aK;refine zv ?_;intro aR w4 aF aO aT;obtain ⟨aT,HF,E,ak⟩:=bJ HF LW E ak aO aT;refine yi ?_;refine ka ?_;rintro e w5 ⟨rfl,hb⟩;refine ⟨_,rfl,?_⟩;have Ec:=Ext.of_below hb No;replace aF:=aF.ay Ec ah.nil;replace E:=E.trans Ec.no;refine yi ?_;refine ykq ?_;rintro e w6 ⟨rfl,hb⟩;refine ⟨_,rfl,?_⟩;have Ec:=Ext.of_below hb No;replace aF:=aF.ay Ec ah.nil;replace E:=E.trans Ec.no;refine Ka ?_;refine zd 25 (.bool true) rfl (by simp[hk]) (kz ?_);refine za rfl (zb aqx rfl ((yA _ ua ha ua.bits ha).mono ?_));rintro e w7 ⟨rfl,hb⟩;refine ⟨_,rfl,?_⟩;have Ec:=Ext.of_below hb No;replace aF:=aF.ay Ec ah.nil;replace E:=E.trans Ec.no;refine gk ?_;intro w8 Bx aO;replace aF:aB w8 aR 28 #[.int .i64 3,.bool false,.bool false,.slice none 0 0,.int .u64 ((yy ua.bits:Nat):Int),.string ⟨#[]⟩,.slice none 0 0]:=Bx;replace E:=E.step1 aO aj.head;refine zp ?_;exact ⟨none,0,by rfl,Yf,(LW.step E ak).toBelow⟩
theorem oG (hg:ua.good=true) (hk:ua.k=1∨ua.k=2):Calls prog 15 #[.int .i64 2,bK ua A1 c1 B1 d1] w (vf w (vI (nU ua),0)):=by
 have _:=hx;have _:=hl;have _:=ha;obtain ⟨I,hI⟩:∃I,I= -num ua.cn ua.cx:=⟨_,rfl⟩;have hnn:gg ua.k=true:=by rcases hk with h | h<;>rw[h]<;>rfl
 have hgc:=PV.W9 hg hk;have hcl:=PV.iy hl;have hcan:=(PV.canon hg hk).2.2;have hIb:I.natAbs<au^30:=by rw[hI,Int.natAbs_neg];exact hcan
 obtain ⟨K,hK⟩:∃K,K= -I:=⟨_,rfl⟩;have hKn:nU ua=K:=by rw[hK,hI,Int.neg_neg];rfl
 rw[hKn];refine zc func15 rfl ntmps15 rfl ?_;obtain ⟨HF,LW,ak,E⟩:=bg w;replace HF:=HF.and (Per.aH hx);refine zi ?_;intro aG w2 aA aK aP;obtain ⟨HF,LW,E⟩:=bD HF LW E ak aA aK;refine zv ?_;intro aR w4 aF aO aT;obtain ⟨aT,HF,E,ak⟩:=bJ HF LW E ak aO aT;refine yi ?_;refine ka ?_;rintro e w5 ⟨rfl,hb⟩;refine ⟨_,rfl,?_⟩;have Ec:=Ext.of_below hb No;replace aF:=aF.ay Ec ah.nil;replace E:=E.trans Ec.no;refine yi ?_;refine za rfl (zb jW rfl ((Uq _ ua A1 B1 c1 d1 true hnn).mono ?_));rintro e w6 ⟨rfl,hb⟩;refine ⟨_,rfl,?_⟩;have Ec:=Ext.of_below hb No;replace aF:=aF.ay Ec ah.nil;replace E:=E.trans Ec.no;refine Ka ?_;refine zd 25 (.bool false) rfl (by rcases hk with h | h<;>simp[h]) (zp ?_);refine qdz ?_;rintro e w7 ⟨A3,c3,rfl,hN,hb⟩;refine ⟨_,rfl,?_⟩;have XC:∀q9,(aj [(some aR)]) q9→q9<w6.heap.size:=(aj.grow aj.none_ (ze aF.lt));have Ec:=Ext.of_below hb No;replace aF:=aF.ay Ec ah.nil;replace E:=E.trans Ec.no;obtain ⟨HF,LW,E⟩:=cO HF LW E ak (ztv hN XC);refine za rfl (zb aqj rfl ((nZ (c:=c3) (((HF.on E).here.2).nums (HF.on E).here.1.1.2) hcl hgc I hI).mono ?_));rintro e w8 ⟨A4,c4,rfl,o4,hb⟩;refine ⟨_,rfl,?_⟩;have XC:∀q9,(aj [(some aR)]) q9→q9<w7.heap.size:=(aj.grow aj.none_ (ze aF.lt));have SC:=Nat.le_trans LW.size E.size;have Ec:=Ext.of_below hb No;replace aF:=aF.ay Ec ah.nil;replace E:=E.trans Ec.no;have S4:=SC;obtain ⟨HF,LW,E⟩:=cO HF LW E ak (Per.dD o4 XC);refine yq ?_;intro Qs dH oC pI PD;have oD:Apart (some Qs) (some aR):=Apart.of_lt (ze aF.lt) PD;have oF:=oD.symm;replace aF:=aF.ay pI ah.nil;obtain ⟨PD,HF,E,ak⟩:=bJ HF LW E ak pI PD;refine zk (zw kw rfl rfl oC rfl rfl rfl ?_);intro dQ Bx pI;replace oC:aB dQ Qs 24 #[.bool (decide (I<0)),.slice A4 (limbs I).length c4]:=Bx;replace aF:=aF.ay pI (ah.cons oF ah.nil);replace E:=E.step1 pI aj.head;refine vp ?_;refine za rfl (zb aqj rfl ((Xt (c:=c4) I ((HF.on E).here.2).nums hIb K hK).mono ?_));rintro e eG ⟨A5,c5,rfl,o5,hb⟩;refine ⟨_,rfl,?_⟩;have XC:∀q9,(aj [(some Qs),(some aR)]) q9→q9<dQ.heap.size:=(aj.grow (aj.grow aj.none_ (ze aF.lt)) (ze oC.lt));have SC:=Nat.le_trans LW.size E.size;have Ec:=Ext.of_below hb No;replace oC:=oC.ay Ec ah.nil;replace aF:=aF.ay Ec ah.nil;replace E:=E.trans Ec.no;have S5:=SC;obtain ⟨HF,LW,E⟩:=cO HF LW E ak (Per.dD o5 XC);refine zk (zw kw rfl rfl oC rfl rfl rfl ?_);intro yD Bx pI;replace oC:aB yD Qs 24 #[.bool (decide (K<0)),.slice A5 (limbs K).length c5]:=Bx;replace aF:=aF.ay pI (ah.cons oF ah.nil);replace E:=E.step1 pI aj.head;obtain ⟨HF,LW,ak,E⟩:=dx HF LW E ak (Y:=aj [(some aR)]) (aj.skip (aj.keep aj.aU)) (Per.aW oC (ah.cons oD ah.nil));refine zu ?_;refine za rfl (zb YO rfl ((qjz _ A5 c5 (decide (K<0)) (limbs K)).mono ?_));rintro e dU ⟨rfl,hb⟩;refine ⟨_,rfl,?_⟩;have Ec:=Ext.of_below hb No;replace aF:=aF.ay Ec ah.nil;replace E:=E.trans Ec.no;refine gk ?_;intro fG Bx aO;replace aF:aB fG aR 28 #[.int .i64 2,.bool false,.bool (decide (K<0)),.slice A5 (limbs K).length c5,.int .u64 0,.string ⟨#[]⟩,.slice none 0 0]:=Bx;replace E:=E.step1 aO aj.head;obtain ⟨HF,LW,ak,E⟩:=dx HF LW E ak (Y:=No) (aj.skip aj.aU) (Per.aW aF ah.nil);refine zu ?_;exact ⟨A5,c5,rfl,((HF.on E).here.1.1.2).mono S5,(LW.step E ak).toBelow⟩
theorem ao1 (op:Int) (p:PV×Int) (hp:p=unP op ua):Calls prog 15 #[.int .i64 op,bK ua A1 c1 B1 d1] w (vf w p):=by
 subst hp;unfold unP;cases hg:ua.good
 · exact Pz w ua A1 B1 c1 d1 hx hl ha op hg
 rw[if_pos rfl];cases hn:gg ua.k
 · exact Et w ua A1 B1 c1 d1 hx hl ha op hg hn
 have hk:=qkk hn;by_cases h1:op=1
 · subst h1;rw[if_pos (show (true&&((1:Int)==1 || (1:Int)==2))=true from rfl)];by_cases h3:ua.k=3
   · rw[if_pos h3,if_pos rfl];exact Ji w ua A1 B1 c1 d1 hx hl ha hg hn h3
   · rw[if_neg h3,if_neg de];exact Jj w ua A1 B1 c1 d1 hx hl ha hg om
 by_cases h2:op=2
 · subst h2;rw[if_pos (show (true&&((2:Int)==1 || (2:Int)==2))=true from rfl)];by_cases h3:ua.k=3
   · rw[if_pos h3,if_neg de];exact Jk w ua A1 B1 c1 d1 hx hl ha hg hn h3
   · rw[if_neg h3,if_pos rfl];exact oG w ua A1 B1 c1 d1 hx hl ha hg om
 · rw[if_neg (by simp[h1,h2])];exact Eu w ua A1 B1 c1 d1 hx hl ha op hg hn h1 h2
end
end Go.Proofs.YtmnmebdmpigddaaGreatDoor
