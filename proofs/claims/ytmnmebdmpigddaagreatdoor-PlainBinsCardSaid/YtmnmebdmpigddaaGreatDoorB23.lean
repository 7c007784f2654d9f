/- Texts of this claim. -/
import Derived.Test.YtmnmebdmpigddaaGreatDoorB22
import Derived.Shelf.Strings.Builder1
import Derived.Shelf.Strings.Builder2
import Derived.Shelf.Small.Strs
import Derived.Shelf.Strings.BuilderF
import Derived.Shelf.Strconv.Itoa0
import Derived.Shelf.Strconv.Itoa1
import Derived.Shelf.LaysM
import Derived.Shelf.Strconv.Itoa2
import Derived.Shelf.Pu.ParseUintPublic10
import Derived.Shelf.Strings.Search1
import Derived.Shelf.Strings.Search2
import Derived.Shelf.Strings.Search3
import Derived.Shelf.Strings.Shaped
import Derived.Shelf.Strings.Prefix
import Derived.Shelf.Strings.Repeat
import Derived.Test.YtmnmebdmpigddaaGreatDoorProg
import Derived.Lib.SmallJoins
set_option maxRecDepth 100000
set_option maxHeartbeats 20000000
namespace Go.Proofs
open Go.Shelf
def Tryz.lays169_ren:Go.Shelf.Ren:=⟨fun | 169=>61 | n=>n,fun | 70=>79 | 9=>9 | 0=>0 | 72=>81 | 37=>46 | 127=>139 | 3=>3 | 5=>5 | n=>n,fun | n=>n⟩
theorem Tryz.lays169:Go.Proofs.Lays.n169 Tryz.prog Tryz.lays169_ren:={
 mixed:=by kernel_rfl
 f169:=Tryz.func61.trans (congrArg some (by kernel_rfl))
 t0:=Tryz.underlying0
 a0:=Tryz.isAgg0
 z0:=Tryz.sizeOf0
 v0:=Tryz.zeroValue0
 t3:=Tryz.underlying3
 a3:=Tryz.isAgg3
 z3:=Tryz.sizeOf3
 v3:=Tryz.zeroValue3
 t9:=Tryz.underlying9
 a9:=Tryz.isAgg9
 z9:=Tryz.sizeOf9
 v9:=Tryz.zeroValue9
 t37:=Tryz.underlying46
 a37:=Tryz.isAgg46
 z37:=Tryz.sizeOf46
 v37:=Tryz.zeroValue46
 t70:=Tryz.underlying79
 a70:=Tryz.isAgg79
 z70:=Tryz.sizeOf79
 v70:=Tryz.zeroValue79
 t72:=Tryz.underlying81
 a72:=Tryz.isAgg81
 z72:=Tryz.sizeOf81
 v72:=Tryz.zeroValue81
 t127:=Tryz.underlying139
 a127:=Tryz.isAgg139
 z127:=Tryz.sizeOf139
 v127:=Tryz.zeroValue139 }
theorem Tryz.Builder_Extra_169:Builder.Extra Tryz.prog Tryz.lays169_ren:={
 sizeBuilder:=by kernel_rfl
 liesBuilder:=by kernel_rfl
 t5:=Tryz.underlying5
 a5:=Tryz.isAgg5
 z5:=Tryz.sizeOf5
 v5:=Tryz.zeroValue5
 infoByte:=by kernel_rfl
 cellsByte:=by kernel_rfl
 sizeByte:=by kernel_rfl
 neB5:=by decide }
open Go.RowKit in
theorem Tryz.Builder_String_any (B b:Nat) (l:List UInt8) (w:World) (h:Lib.IsBuilder 81 5 B b (Lib.byteCells l) w) (hBw:B≤w.heap.size) :
 Calls Tryz.prog 61 #[.pointer (some ⟨b,0,none⟩)] w fun e w'=>e= .returned (.string ⟨l.toArray⟩)∧Below B w w':=Any.Builder_String_any Tryz.lays169 Tryz.Builder_Extra_169 B b l w h hBw
def Tryz.lays283_ren:Go.Shelf.Ren:=⟨fun | 283=>202 | n=>n,fun | 3=>3 | 9=>9 | 4=>4 | n=>n,fun | n=>n⟩
theorem Tryz.lays283:Go.Proofs.Lays.n283 Tryz.prog Tryz.lays283_ren:={
 mixed:=by kernel_rfl
 f283:=Tryz.func202.trans (congrArg some (by kernel_rfl))
 t3:=Tryz.underlying3
 a3:=Tryz.isAgg3
 z3:=Tryz.sizeOf3
 v3:=Tryz.zeroValue3
 t4:=Tryz.underlying4
 a4:=Tryz.isAgg4
 z4:=Tryz.sizeOf4
 v4:=Tryz.zeroValue4
 t9:=Tryz.underlying9
 a9:=Tryz.isAgg9
 z9:=Tryz.sizeOf9
 v9:=Tryz.zeroValue9 }
open Go.Lib in
theorem Tryz.internal_strconv_small (i:Nat) (h:i<100) (w:World) :
 Calls Tryz.prog 202 #[.int .i64 i] w fun e w'=>e= .returned (.string ⟨(Lib.decDigits i).toArray⟩)∧w'=w:=Any.internal_strconv_small Tryz.lays283 i h w
def Tryz.laysM284_ren:Go.Shelf.Ren:=⟨fun | 284=>203 | 129=>196 | 317=>228 | 318=>229 | n=>n,fun | 53=>25 | 3=>3 | 212=>238 | 0=>0 | 4=>4 | 46=>87 | 5=>5 | 9=>9 | n=>n,fun | 17=>9 | n=>n⟩
theorem Tryz.laysM284:Go.Proofs.LaysM.n284 Tryz.prog Tryz.laysM284_ren:={
 mixed:=by kernel_rfl
 f129:=Tryz.func196.trans (congrArg some (by kernel_rfl))
 f284:=Tryz.func203.trans (congrArg some (by kernel_rfl))
 f317:=Tryz.func228.trans (congrArg some (by kernel_rfl))
 f318:=Tryz.func229.trans (congrArg some (by kernel_rfl))
 t0:=Tryz.underlying0
 a0:=Tryz.isAgg0
 z0:=Tryz.sizeOf0
 v0:=Tryz.zeroValue0
 t3:=Tryz.underlying3
 a3:=Tryz.isAgg3
 z3:=Tryz.sizeOf3
 v3:=Tryz.zeroValue3
 t4:=Tryz.underlying4
 a4:=Tryz.isAgg4
 z4:=Tryz.sizeOf4
 v4:=Tryz.zeroValue4
 t5:=Tryz.underlying5
 a5:=Tryz.isAgg5
 z5:=Tryz.sizeOf5
 v5:=Tryz.zeroValue5
 t9:=Tryz.underlying9
 a9:=Tryz.isAgg9
 z9:=Tryz.sizeOf9
 v9:=Tryz.zeroValue9
 t46:=Tryz.underlying87
 a46:=Tryz.isAgg87
 z46:=Tryz.sizeOf87
 v46:=Tryz.zeroValue87
 t53:=Tryz.underlying25
 a53:=Tryz.isAgg25
 z53:=Tryz.sizeOf25
 v53:=Tryz.zeroValue25
 t212:=Tryz.underlying238
 a212:=Tryz.isAgg238
 z212:=Tryz.sizeOf238
 v212:=Tryz.zeroValue238
 g17:=by kernel_rfl
 i0:=by kernel_rfl
 i3:=by kernel_rfl
 i4:=by kernel_rfl
 i5:=by kernel_rfl
 i9:=by kernel_rfl
 i46:=by kernel_rfl
 i53:=by kernel_rfl
 i212:=by kernel_rfl
 m17:=by kernel_rfl }
open Go.Lib in
theorem Tryz.internal_strconv_numDigits (u:Nat) (h1:1≤u) (h2:u<18446744073709551616) (w:World) (htab:Lib.TabIs Tryz.prog w "internal/strconv.uint64pow10" .u64 Lib.pow10Tab) :
 Calls Tryz.prog 203 #[.int .u64 u] w fun e w'=>e= .returned (.int .i64 (Lib.nDigits u))∧w'=w:=Any.internal_strconv_numDigits Tryz.laysM284 u h1 h2 w htab
def Tryz.lays285_ren:Go.Shelf.Ren:=⟨fun | 285=>204 | n=>n,fun | 37=>46 | 53=>25 | 3=>3 | 4=>4 | 51=>174 | 9=>9 | 5=>5 | 0=>0 | n=>n,fun | n=>n⟩
theorem Tryz.lays285:Go.Proofs.Lays.n285 Tryz.prog Tryz.lays285_ren:={
 mixed:=by kernel_rfl
 f285:=Tryz.func204.trans (congrArg some (by kernel_rfl))
 t0:=Tryz.underlying0
 a0:=Tryz.isAgg0
 z0:=Tryz.sizeOf0
 v0:=Tryz.zeroValue0
 t3:=Tryz.underlying3
 a3:=Tryz.isAgg3
 z3:=Tryz.sizeOf3
 v3:=Tryz.zeroValue3
 t4:=Tryz.underlying4
 a4:=Tryz.isAgg4
 z4:=Tryz.sizeOf4
 v4:=Tryz.zeroValue4
 t5:=Tryz.underlying5
 a5:=Tryz.isAgg5
 z5:=Tryz.sizeOf5
 v5:=Tryz.zeroValue5
 t9:=Tryz.underlying9
 a9:=Tryz.isAgg9
 z9:=Tryz.sizeOf9
 v9:=Tryz.zeroValue9
 t37:=Tryz.underlying46
 a37:=Tryz.isAgg46
 z37:=Tryz.sizeOf46
 v37:=Tryz.zeroValue46
 t51:=Tryz.underlying174
 a51:=Tryz.isAgg174
 z51:=Tryz.sizeOf174
 v51:=Tryz.zeroValue174
 t53:=Tryz.underlying25
 a53:=Tryz.isAgg25
 z53:=Tryz.sizeOf25
 v53:=Tryz.zeroValue25 }
open Go.RowKit Go.Sort Go.Lib in
theorem Tryz.internal_strconv_formatBase10 (blk off cap:Nat) (u:Nat) (d:Array UInt8) (w:World) (hH:Holds (fun (b:UInt8)=>Value.int .u8 (b.toNat:Int)) w blk off d) (hu:u<10^d.size) (hu64:u<18446744073709551616) (hsz:d.size<4611686018427387904) :
 Calls Tryz.prog 204 #[.slice (some ⟨blk,off,none⟩) d.size cap,.int .u64 u] w fun e w'=>
  e= .returned (.tuple #[])∧ ∃(n v':Nat) (dk:Array UInt8),w'=(putRow (fun (b:UInt8)=>Value.int .u8 (b.toNat:Int)) w blk off dk).drewN n∧FmtInv d.size u 0 v' dk:=Any.internal_strconv_formatBase10 Tryz.lays285 blk off cap u d w hH hu hu64 hsz
def Tryz.laysPu14_ren:Go.Shelf.Ren:=⟨fun | 14=>96 | 16=>151 | 17=>152 | 19=>180 | 20=>181 | 21=>182 | 22=>183 | 23=>184 | 24=>185 | 25=>197 | 27=>199 | 26=>198 | 28=>214 | 29=>248 | 30=>202 | 31=>203 | 32=>204 | 33=>205 | 35=>196 | 34=>228 | 36=>229 | 37=>230 | 38=>231 | 39=>260 | 40=>261 | n=>n,fun | 9=>9 | 3=>3 | 22=>25 | 24=>83 | 25=>121 | 4=>4 | 34=>183 | 5=>5 | 36=>87 | 37=>46 | 0=>0 | 39=>185 | 21=>21 | 44=>194 | 47=>139 | 50=>212 | 48=>210 | 2=>2 | 52=>201 | 55=>203 | 59=>238 | 60=>174 | 20=>20 | 61=>239 | 65=>246 | 66=>278 | 67=>88 | n=>n,fun | 0=>3 | 1=>4 | 2=>9 | 3=>14 | 4=>15 | n=>n⟩
theorem Tryz.laysPu14:Go.Proofs.LaysPu.n14 Tryz.prog Tryz.laysPu14_ren:={
 mixed:=by kernel_rfl
 f14:=Tryz.func96.trans (congrArg some (by kernel_rfl))
 f16:=Tryz.func151.trans (congrArg some (by kernel_rfl))
 f17:=Tryz.func152.trans (congrArg some (by kernel_rfl))
 f19:=Tryz.func180.trans (congrArg some (by kernel_rfl))
 f20:=Tryz.func181.trans (congrArg some (by kernel_rfl))
 f21:=Tryz.func182.trans (congrArg some (by kernel_rfl))
 f22:=Tryz.func183.trans (congrArg some (by kernel_rfl))
 f23:=Tryz.func184.trans (congrArg some (by kernel_rfl))
 f24:=Tryz.func185.trans (congrArg some (by kernel_rfl))
 f25:=Tryz.func197.trans (congrArg some (by kernel_rfl))
 f26:=Tryz.func198.trans (congrArg some (by kernel_rfl))
 f27:=Tryz.func199.trans (congrArg some (by kernel_rfl))
 f28:=Tryz.func214.trans (congrArg some (by kernel_rfl))
 f29:=Tryz.func248.trans (congrArg some (by kernel_rfl))
 f30:=Tryz.func202.trans (congrArg some (by kernel_rfl))
 f31:=Tryz.func203.trans (congrArg some (by kernel_rfl))
 f32:=Tryz.func204.trans (congrArg some (by kernel_rfl))
 f33:=Tryz.func205.trans (congrArg some (by kernel_rfl))
 f34:=Tryz.func228.trans (congrArg some (by kernel_rfl))
 f35:=Tryz.func196.trans (congrArg some (by kernel_rfl))
 f36:=Tryz.func229.trans (congrArg some (by kernel_rfl))
 f37:=Tryz.func230.trans (congrArg some (by kernel_rfl))
 f38:=Tryz.func231.trans (congrArg some (by kernel_rfl))
 f39:=Tryz.func260.trans (congrArg some (by kernel_rfl))
 f40:=Tryz.func261.trans (congrArg some (by kernel_rfl))
 t0:=Tryz.underlying0
 a0:=Tryz.isAgg0
 z0:=Tryz.sizeOf0
 v0:=Tryz.zeroValue0
 i0:=by kernel_rfl
 t2:=Tryz.underlying2
 a2:=Tryz.isAgg2
 z2:=Tryz.sizeOf2
 v2:=Tryz.zeroValue2
 i2:=by kernel_rfl
 t3:=Tryz.underlying3
 a3:=Tryz.isAgg3
 z3:=Tryz.sizeOf3
 v3:=Tryz.zeroValue3
 i3:=by kernel_rfl
 t4:=Tryz.underlying4
 a4:=Tryz.isAgg4
 z4:=Tryz.sizeOf4
 v4:=Tryz.zeroValue4
 i4:=by kernel_rfl
 t5:=Tryz.underlying5
 a5:=Tryz.isAgg5
 z5:=Tryz.sizeOf5
 v5:=Tryz.zeroValue5
 i5:=by kernel_rfl
 t9:=Tryz.underlying9
 a9:=Tryz.isAgg9
 z9:=Tryz.sizeOf9
 v9:=Tryz.zeroValue9
 i9:=by kernel_rfl
 t20:=Tryz.underlying20
 a20:=Tryz.isAgg20
 z20:=Tryz.sizeOf20
 v20:=Tryz.zeroValue20
 i20:=by kernel_rfl
 t21:=Tryz.underlying21
 a21:=Tryz.isAgg21
 z21:=Tryz.sizeOf21
 v21:=Tryz.zeroValue21
 i21:=by kernel_rfl
 t22:=Tryz.underlying25
 a22:=Tryz.isAgg25
 z22:=Tryz.sizeOf25
 v22:=Tryz.zeroValue25
 i22:=by kernel_rfl
 t24:=Tryz.underlying83
 a24:=Tryz.isAgg83
 z24:=Tryz.sizeOf83
 v24:=Tryz.zeroValue83
 i24:=by kernel_rfl
 t25:=Tryz.underlying121
 a25:=Tryz.isAgg121
 z25:=Tryz.sizeOf121
 v25:=Tryz.zeroValue121
 i25:=by kernel_rfl
 t34:=Tryz.underlying183
 a34:=Tryz.isAgg183
 z34:=Tryz.sizeOf183
 v34:=Tryz.zeroValue183
 i34:=by kernel_rfl
 c34:=by kernel_rfl
 t36:=Tryz.underlying87
 a36:=Tryz.isAgg87
 z36:=Tryz.sizeOf87
 v36:=Tryz.zeroValue87
 i36:=by kernel_rfl
 t37:=Tryz.underlying46
 a37:=Tryz.isAgg46
 z37:=Tryz.sizeOf46
 v37:=Tryz.zeroValue46
 i37:=by kernel_rfl
 t39:=Tryz.underlying185
 a39:=Tryz.isAgg185
 z39:=Tryz.sizeOf185
 v39:=Tryz.zeroValue185
 i39:=by kernel_rfl
 t44:=Tryz.underlying194
 a44:=Tryz.isAgg194
 z44:=Tryz.sizeOf194
 v44:=Tryz.zeroValue194
 i44:=by kernel_rfl
 t47:=Tryz.underlying139
 a47:=Tryz.isAgg139
 z47:=Tryz.sizeOf139
 v47:=Tryz.zeroValue139
 i47:=by kernel_rfl
 t48:=Tryz.underlying210
 a48:=Tryz.isAgg210
 z48:=Tryz.sizeOf210
 v48:=Tryz.zeroValue210
 i48:=by kernel_rfl
 t50:=Tryz.underlying212
 a50:=Tryz.isAgg212
 z50:=Tryz.sizeOf212
 v50:=Tryz.zeroValue212
 i50:=by kernel_rfl
 t52:=Tryz.underlying201
 a52:=Tryz.isAgg201
 z52:=Tryz.sizeOf201
 v52:=Tryz.zeroValue201
 i52:=by kernel_rfl
 t55:=Tryz.underlying203
 a55:=Tryz.isAgg203
 z55:=Tryz.sizeOf203
 v55:=Tryz.zeroValue203
 i55:=by kernel_rfl
 t59:=Tryz.underlying238
 a59:=Tryz.isAgg238
 z59:=Tryz.sizeOf238
 v59:=Tryz.zeroValue238
 i59:=by kernel_rfl
 t60:=Tryz.underlying174
 a60:=Tryz.isAgg174
 z60:=Tryz.sizeOf174
 v60:=Tryz.zeroValue174
 i60:=by kernel_rfl
 t61:=Tryz.underlying239
 a61:=Tryz.isAgg239
 z61:=Tryz.sizeOf239
 t65:=Tryz.underlying246
 a65:=Tryz.isAgg246
 z65:=Tryz.sizeOf246
 v65:=Tryz.zeroValue246
 i65:=by kernel_rfl
 t66:=Tryz.underlying278
 a66:=Tryz.isAgg278
 z66:=Tryz.sizeOf278
 v66:=Tryz.zeroValue278
 i66:=by kernel_rfl
 t67:=Tryz.underlying88
 a67:=Tryz.isAgg88
 z67:=Tryz.sizeOf88
 v67:=Tryz.zeroValue88
 i67:=by kernel_rfl
 g0:=by kernel_rfl
 m0:=by kernel_rfl
 g1:=by kernel_rfl
 m1:=by kernel_rfl
 g2:=by kernel_rfl
 m2:=by kernel_rfl
 g3:=by kernel_rfl
 m3:=by kernel_rfl
 g4:=by kernel_rfl
 m4:=by kernel_rfl }
def Tryz.lays105_ren:Go.Shelf.Ren:=⟨fun | 105=>71 | 212=>127 | 99=>128 | 165=>129 | 166=>60 | 170=>130 | 169=>61 | 263=>167 | 264=>114 | 206=>168 | 240=>112 | 241=>169 | 276=>165 | 277=>193 | n=>n,fun | 9=>9 | 3=>3 | 4=>4 | 20=>20 | 0=>0 | 46=>87 | 109=>147 | 5=>5 | 72=>81 | 76=>85 | 51=>174 | 146=>175 | 53=>25 | 148=>140 | 70=>79 | 37=>46 | 75=>83 | 127=>139 | 164=>170 | 80=>88 | n=>n,fun | n=>n⟩
theorem Tryz.lays105:Go.Proofs.Lays.n105 Tryz.prog Tryz.lays105_ren:={
 mixed:=by kernel_rfl
 f99:=Tryz.func128.trans (congrArg some (by kernel_rfl))
 f105:=Tryz.func71.trans (congrArg some (by kernel_rfl))
 f165:=Tryz.func129.trans (congrArg some (by kernel_rfl))
 f166:=Tryz.func60.trans (congrArg some (by kernel_rfl))
 f169:=Tryz.func61.trans (congrArg some (by kernel_rfl))
 f170:=Tryz.func130.trans (congrArg some (by kernel_rfl))
 f206:=Tryz.func168.trans (congrArg some (by kernel_rfl))
 f212:=Tryz.func127.trans (congrArg some (by kernel_rfl))
 f240:=Tryz.func112.trans (congrArg some (by kernel_rfl))
 f241:=Tryz.func169.trans (congrArg some (by kernel_rfl))
 f263:=Tryz.func167.trans (congrArg some (by kernel_rfl))
 f264:=Tryz.func114.trans (congrArg some (by kernel_rfl))
 f276:=Tryz.func165.trans (congrArg some (by kernel_rfl))
 f277:=Tryz.func193.trans (congrArg some (by kernel_rfl))
 t0:=Tryz.underlying0
 a0:=Tryz.isAgg0
 z0:=Tryz.sizeOf0
 v0:=Tryz.zeroValue0
 t3:=Tryz.underlying3
 a3:=Tryz.isAgg3
 z3:=Tryz.sizeOf3
 v3:=Tryz.zeroValue3
 t4:=Tryz.underlying4
 a4:=Tryz.isAgg4
 z4:=Tryz.sizeOf4
 v4:=Tryz.zeroValue4
 t5:=Tryz.underlying5
 a5:=Tryz.isAgg5
 z5:=Tryz.sizeOf5
 v5:=Tryz.zeroValue5
 t9:=Tryz.underlying9
 a9:=Tryz.isAgg9
 z9:=Tryz.sizeOf9
 v9:=Tryz.zeroValue9
 t20:=Tryz.underlying20
 a20:=Tryz.isAgg20
 z20:=Tryz.sizeOf20
 v20:=Tryz.zeroValue20
 t37:=Tryz.underlying46
 a37:=Tryz.isAgg46
 z37:=Tryz.sizeOf46
 v37:=Tryz.zeroValue46
 t46:=Tryz.underlying87
 a46:=Tryz.isAgg87
 z46:=Tryz.sizeOf87
 v46:=Tryz.zeroValue87
 t51:=Tryz.underlying174
 a51:=Tryz.isAgg174
 z51:=Tryz.sizeOf174
 v51:=Tryz.zeroValue174
 t53:=Tryz.underlying25
 a53:=Tryz.isAgg25
 z53:=Tryz.sizeOf25
 v53:=Tryz.zeroValue25
 t70:=Tryz.underlying79
 a70:=Tryz.isAgg79
 z70:=Tryz.sizeOf79
 v70:=Tryz.zeroValue79
 t72:=Tryz.underlying81
 a72:=Tryz.isAgg81
 z72:=Tryz.sizeOf81
 v72:=Tryz.zeroValue81
 t75:=Tryz.underlying83
 a75:=Tryz.isAgg83
 z75:=Tryz.sizeOf83
 v75:=Tryz.zeroValue83
 t76:=Tryz.underlying85
 a76:=Tryz.isAgg85
 z76:=Tryz.sizeOf85
 v76:=Tryz.zeroValue85
 t109:=Tryz.underlying147
 a109:=Tryz.isAgg147
 z109:=Tryz.sizeOf147
 v109:=Tryz.zeroValue147
 t127:=Tryz.underlying139
 a127:=Tryz.isAgg139
 z127:=Tryz.sizeOf139
 v127:=Tryz.zeroValue139
 t146:=Tryz.underlying175
 a146:=Tryz.isAgg175
 z146:=Tryz.sizeOf175
 v146:=Tryz.zeroValue175
 t148:=Tryz.underlying140
 a148:=Tryz.isAgg140
 z148:=Tryz.sizeOf140
 v148:=Tryz.zeroValue140
 t164:=Tryz.underlying170
 a164:=Tryz.isAgg170
 z164:=Tryz.sizeOf170
 v164:=Tryz.zeroValue170 }
theorem Tryz.Builder_Extra_105:Builder.Extra Tryz.prog Tryz.lays105_ren:={
 sizeBuilder:=by kernel_rfl
 liesBuilder:=by kernel_rfl
 t5:=Tryz.underlying5
 a5:=Tryz.isAgg5
 z5:=Tryz.sizeOf5
 v5:=Tryz.zeroValue5
 infoByte:=by kernel_rfl
 cellsByte:=by kernel_rfl
 sizeByte:=by kernel_rfl
 neB5:=by decide }
open Go.RowKit Go.Lib in
theorem Tryz.strings_Repeat (s:ByteArray) (c:Nat) (w:World) (hc:c≤9223372036854775807) (hlen:s.size*c≤140737488355328) :
 Calls Tryz.prog 71 #[.string s,.int .i64 c] w fun e w'=>e= .returned (.string ⟨(Lib.repeatL s.data.toList c).toArray⟩)∧Below w.heap.size w w':=Any.strings_Repeat Tryz.lays105 Tryz.Builder_Extra_105 s c w hc hlen
end Go.Proofs
namespace Go.Proofs.YtmnmebdmpigddaaGreatDoor
open Go.RowKit Proofs.Tryz
section
attribute [local irreducible] OW RS CW EW
theorem Aa {P Q:Prop} (k:Q) (h:(Unit→Q)→P:=by
 intro zK;refine zn ?_;refine za rfl (yd u79 rfl rfl hb rfl (za rfl (Z0 u79 rfl rfl ?_)));exact zK ()):P:=h fun _=>k
theorem RG:gW prog 165 Extern.AbiNoEscape.same:=⟨_,func165,kr,kr,kr,kr⟩
theorem jL:(prog.info? 81).map (·.size)=some 2:=kr
theorem RH:liesAt prog prog.depth 81 (2/prog.cellsOf 81) 0 81 1=true:=kr
def Qd (w:World) (lo b:Nat) (p:Value) (l:List UInt8) (F:Nat→Prop):Prop:=∃A c,aB w b 81 #[p,.slice A l.length c]∧w.ownsRow lo 5 1 (.slice A l.length c) l.length (Lib.byteCells l)∧ ∀q,(Value.slice A l.length c).ownBlock=some q→F q
def Adr (b:Nat) (p:Value):Prop:=p= .pointer none∨p= .pointer (some ⟨b,0,none⟩)
theorem Qd.lib {w:World} {lo b:Nat} {p:Value} {l:List UInt8} {F:Nat→Prop} (h:Qd w lo b p l F) (hp:Adr b p) (hb:lo≤b):Lib.IsBuilder 81 5 lo b (Lib.byteCells l) w:=by
 obtain ⟨A,c,h1,h2,_⟩:=h;have hl:(Lib.byteCells l).length=l.length:=by unfold Lib.byteCells;simp
 have hne:(Value.slice A l.length c).ownBlock≠some b:=fun e=>by
  obtain ⟨cur,h3⟩:=jE h2 e;have h4:=h1.symm.trans h3;injection h4 with h4
  injection h4 with _ h4
  exact absurd h4 de
 rcases hp with rfl | rfl
 · exact Or.inl ⟨hb,_,h1,by rw[hl];exact h2,hne⟩
 · exact Or.inr ⟨hb,_,h1,by rw[hl];exact h2,hne⟩
theorem Qd.no {w w':World} {lo b:Nat} {p:Value} {l:List UInt8} {F:Nat→Prop} (h:Qd w lo b p l F) (E:Ext No w w'):Qd w' lo b p l F:=by
 obtain ⟨A,c,h1,h2,h3⟩:=h;exact ⟨A,c,h1.ext E (fun h=>h.elim),ZY h2 E (fun _ _ h=>h.elim),h3⟩
section
variable (w:World) (lo b:Nat) (p:Value) (hp:Adr b p)
theorem aa6 (s0:Value) (hb:aB w b 81 #[.pointer none,s0]):Calls prog 112 #[.pointer (some ⟨b,0,none⟩)] w fun e w'=>e= .returned (.tuple #[])∧aB w' b 81 #[.pointer (some ⟨b,0,none⟩),s0]∧Ext (aj [some b]) w w':=by
 refine zd func112 rfl ntmps112 rfl (Aa ?_);refine zo ?_;refine za rfl (aw3 u79 underlying170 jL de rfl hb (Nat.zero_lt_succ 1) (za rfl (vjk (args:=[.pointer (some ⟨b,0,none⟩)]) (v:=.pointer (some ⟨b,0,none⟩)) RG rfl (Lib.run_noEscape _ _) (za rfl (Ri underlying170 u79 jL rfl hb RH (zi ?_))))));refine yj (ve (cs':=#[.pointer (some ⟨b,0,none⟩),s0]) aUj rfl rfl hb rfl rfl (Nat.le_of_ble_eq_true rfl) rfl ?_);rintro wB B2 E2;refine aK ?_;refine ZJ rfl ?_;exact ⟨rfl,B2,E2⟩
theorem aa7 (s0:Value) (hb:aB w b 81 #[.pointer (some ⟨b,0,none⟩),s0]):Calls prog 112 #[.pointer (some ⟨b,0,none⟩)] w fun e w'=>e= .returned (.tuple #[])∧aB w' b 81 #[.pointer (some ⟨b,0,none⟩),s0]∧Ext (aj [some b]) w w':=by
 refine zd func112 rfl ntmps112 rfl (Aa ?_);refine yk ?_;refine za rfl (yd u79 rfl rfl hb rfl (aK ?_));refine za rfl (Md u79 jL rfl rfl (ye ?_));refine ZJ rfl ?_;exact ⟨rfl,hb,Ext.refl _ _⟩
include hp
theorem RI (s0:Value) (hb:aB w b 81 #[p,s0]):Calls prog 112 #[.pointer (some ⟨b,0,none⟩)] w fun e w'=>e= .returned (.tuple #[])∧aB w' b 81 #[.pointer (some ⟨b,0,none⟩),s0]∧Ext (aj [some b]) w w':=by
 rcases hp with rfl | rfl
 · exact aa6 w b s0 hb
 · exact aa7 w b s0 hb
variable (l:List UInt8) (hl:l.length≤900000) (F:Nat→Prop) (h:Qd w lo b p l F) (hbl:lo≤b) (hF:∀q,w.heap.size≤q→F q)
include hl h hbl hF
theorem RJ (x:UInt8):Calls prog 59 #[.pointer (some ⟨b,0,none⟩),.int .u8 (x.toNat:Int)] w fun e w'=>e= .returned .nilIface∧Qd w' lo b (.pointer (some ⟨b,0,none⟩)) (l++ [x]) F∧Ext (fun q=>q=b∨F q) w w':=by
 obtain ⟨A,c,hB,hO,hFb⟩:=h;have hlt:=hB.lt;refine zd func59 rfl ntmps59 rfl (yk ?_);refine za rfl (ze an5 rfl ((RI _ b p hp _ hB).mono ?_));rintro e w1 ⟨rfl,hB2,hE⟩;refine ⟨_,rfl,?_⟩;have hO2:=zlk hO hB de hE;have hs:=hE.size;refine yk ?_;refine za rfl (yd u46 rfl rfl hB2 rfl (aK ?_));refine za rfl (zgq (cs:=#[.int .u8 (x.toNat:Int)]) u46 gF zr5 de rfl (by rw[yaz];rfl) ?_);rintro gx wI Bx E17 Gx;have O17:=ZY hO2 E17 (fun _ _ h=>h.elim);have B17:=hB2.ext E17 (fun h=>h.elim);have be0:=E17.size;refine za rfl (FQ (n':=(l++ [x]).length) (xs':=Lib.byteCells (l++ [x])) u46 Z4 rfl de rfl O17 rfl (FI Bx Bx.lt rfl) (by simp[Value.oneCell']) (by rw[List.length_append];rfl) (by unfold Lib.byteCells;rw[List.map_append];rfl) (by rw[List.length_append];unfold maxLen;simp;omega) (by rw[List.length_append];simp;omega) om ?_);rintro A5 c5 wJ O18 E18 N18;have av:=qJ B17 O17 de E18;refine zi ?_;refine yj (ve (cs':=#[.pointer (some ⟨b,0,none⟩),.slice A5 (l++ [x]).length c5]) aG7 rfl rfl av rfl rfl (Nat.le_of_ble_eq_true rfl) rfl ?_);rintro wK B19 E19;have O19:=zlk O18 av de E19;refine qc ?_;exact ⟨rfl,⟨A5,c5,B19,O19,fun q hq=>(N18 q hq).elim (hFb q) (fun h=>hF q om)⟩,(((hE.mono (Y:=fun q=>q=b∨F q) (fun q hq _=>Or.inl (oO hq))).step E17 (fun _ h=>h.elim)).step E18 (fun q hq=>Or.inl (Or.inr (hFb q (uY hq))))).step E19 (fun q hq=>Or.inl (Or.inl (oO hq)))⟩
theorem vxz (s:ByteArray) (hs1:s.size≤1000) (hl0:0<l.length):Calls prog 60 #[.pointer (some ⟨b,0,none⟩),.string s] w fun e w'=>e= .returned (.tuple #[.int .i64 (s.size:Int),.nilIface])∧Qd w' lo b (.pointer (some ⟨b,0,none⟩)) (l++s.data.toList) F∧Ext (fun q=>q=b∨F q) w w':=by
 obtain ⟨A,c,hB,hO,hFb⟩:=h;have hlt:=hB.lt;have hsl:s.data.toList.length=s.size:=by rw[Array.length_toList];rfl
 refine zd func60 rfl ntmps60 rfl (qc ?_);refine za rfl (ze an5 rfl ((RI _ b p hp _ hB).mono ?_));rintro e w1 ⟨rfl,hB2,hE⟩;refine ⟨_,rfl,?_⟩;have hO2:=zlk hO hB de hE;have hs:=hE.size;refine yk ?_;refine za rfl (yd u46 rfl rfl hB2 rfl (aK ?_));refine za rfl (uZ (n':=(l++s.data.toList).length) u46 u9 Z4 rfl hO2 hl0 rfl (by rw[List.length_append,hsl]) (by rw[List.length_append,hsl];omega) om ?_);rintro A5 c5 wJ O18 E18 N18;have O18:wJ.ownsRow lo 5 1 (.slice A5 (l++s.data.toList).length c5) (l++s.data.toList).length (Lib.byteCells (l++s.data.toList)):=by
  have e:Lib.byteCells (l++s.data.toList)=Lib.byteCells l++Lib.strCells s:=by unfold Lib.byteCells Lib.strCells;rw[List.map_append]
  rw[e];exact O18
 have av:=qJ hB2 hO2 de E18;refine zi ?_;refine yj (ve (cs':=#[.pointer (some ⟨b,0,none⟩),.slice A5 (l++s.data.toList).length c5]) aG7 rfl rfl av rfl rfl (Nat.le_of_ble_eq_true rfl) rfl ?_);rintro wK B19 E19;have O19:=zlk O18 av de E19;refine zn ?_;refine vm ?_;refine zo ?_;exact ⟨rfl,⟨A5,c5,B19,O19,fun q hq=>(N18 q hq).elim (hFb q) (fun h=>hF q om)⟩,((hE.mono (Y:=fun q=>q=b∨F q) (fun q hq _=>Or.inl (oO hq))).step E18 (fun q hq=>Or.inl (Or.inr (hFb q (uY hq))))).step E19 (fun q hq=>Or.inl (Or.inl (oO hq)))⟩
end
theorem lJ {P Q:Prop} (k:Q) (h:(Unit→Q)→P:=by
 intro zK;refine ks (rs:=[.cell 2 24]) (vs:=[_]) rfl ⟨⟨_,rfl,ypq u24 rfl oc Ii rfl⟩,trivial⟩ ?_;exact zK ()):P:=h fun _=>k
theorem UW {P:Prop} (h:P:=by
 refine qc ?_;exact ⟨by unfold NW;rw[h1,h2,h3,h4,ho];rfl,aP LW E ak⟩):P:=h
theorem UY {P:Prop} (h:P:=by
 refine yv ?_;exact ⟨by unfold NW eqS;rw[h1,h2,h3,ho];rfl,aP LW E ak⟩):P:=h
theorem UZ {P:Prop} (h:P:=by
 refine yv ?_;exact ⟨by unfold NW eqS;rw[h1,h2,h3,h4,ho];rfl,aP LW E ak⟩):P:=h
theorem U0 {P:Prop} (h:P:=by
 refine qc ?_;exact ⟨by refine congrArg (fun z=>Ending.returned (.bool z)) ?_;unfold og;first | (simp_all;done) | (simp_all;omega),aP LW E ak⟩):P:=h
theorem aqx {P:Prop} (h:P:=by
 refine yx ?_;intro vs X wq K;have XN:=K.2.1;refine ze gY rfl ((zzk _ ua A1 B1 c1 d1).mono ?_);rintro e w2 ⟨A3,c3,rfl,hN,hb⟩;exact ⟨_,rfl,hb,⟨(A3,c3),rfl,Zm hN XN⟩⟩):P:=h
section
variable (w:World) (ua ub:PV) (A1 B1 A2 B2:Option Addr) (c1 d1 c2 d2:Nat) (hx:aA w A1 ua.xs) (hl:ua.xs.length≤9223372036854775807) (ha:ua.bits<18446744073709551616) (hy:aA w A2 ub.xs) (hl':ub.xs.length≤9223372036854775807) (hb0:ub.bits<18446744073709551616)
theorem NZ:Calls prog 29 #[bG ua A1 c1 B1 d1] w (aF w (.bool (og ua.k))):=by
 refine zj func29 ntmps29 fun HF LW ak E=>?_;refine zi ?_;refine zg HF LW E ak fun aO w2 HF LW E=>?_;refine qc ?_;refine zy 6 rfl (fun h1=>?_) (fun h1=>?_)
 ·
  replace h1:=of_decide_eq_true h1;exact U0
 ·
  replace h1:=of_decide_eq_false h1;exact U0
include hx hl
theorem jc (r:Bool) (hr:PV.good ua=r):Calls prog 28 #[bG ua A1 c1 B1 d1] w (aF w (.bool r)):=by
 subst hr;exact NY w ua.k ua.yes ua.neg A1 B1 ua.xs c1 ua.bits ua.ni d1 ua.s hx hl
omit hx hl in
theorem U1 (r:Bool) (hr:og ua.k=r):Calls prog 29 #[bG ua A1 c1 B1 d1] w (aF w (.bool r)):=by
 subst hr;exact NZ w ua A1 B1 c1 d1
omit hx hl
theorem zzk:Calls prog 33 #[bG ua A1 c1 B1 d1] w (Ig w A1 ua.cn ua.xs ua.cx):=by
 refine zd func33 rfl ntmps33 rfl (od ?_);rintro g1 wA BX E1 G1;refine vu ?_;rintro g2 wB BY E2 G2;have KD:=BX.ext E2 (fun h=>h.elim);have eT:=E1.trans E2;refine zv ?_;refine zf rfl (fun hk=>?_) (fun hk=>?_)
 ·
  have hk1:ua.k=1:=by simpa using hk
  have e1:ua.cn=false:=by unfold PV.cn;rw[if_pos hk1]
  refine zp ?_;refine zf rfl (fun hyes=>?_) (fun hyes=>?_)
  ·
   have e2:ua.cx= [1]:=by unfold PV.cx;rw[if_pos hk1,if_pos hyes]
   refine zi ?_;refine za rfl (ze u7 rfl ((yqz 1 _ de de).mono ?_));rintro e w1 ⟨A3,c3,rfl,hO,hb⟩;refine ⟨_,rfl,?_⟩;have E3:=Ext.of_below hb No;have N7:=BY.ext E3 (fun h=>h.elim);refine yj (qx oc rfl rfl N7 rfl rfl rfl ?_);rintro wC Ii E4;have hs:=eT.size;have h3:=ykx hO E4 BY.lt hs;refine zn ?_;refine lJ ?_;exact ⟨A3,c3,by rw[e1,e2,←yzv];rfl,Or.inr (by rw[e2,←yzv];exact h3),((eT.trans E3).step E4 (fun q hq=>Or.inr (by have:=oO hq;have:=E1.size;omega))).toBelow⟩
  ·
   have e2:ua.cx= []:=by unfold PV.cx;rw[if_pos hk1,if_neg (by rw[hyes];decide)]
   refine ye ?_;refine yxq ?_;refine yj (qx oc rfl rfl BY rfl rfl rfl ?_);rintro wC Ii E4;refine ye ?_;refine lJ ?_;exact ⟨none,0,by rw[e1,e2];rfl,Or.inr (by rw[e2];exact vtq),(eT.step E4 (fun q hq=>Or.inr (by have:=oO hq;have:=E1.size;omega))).toBelow⟩
 ·
  have hk1:ua.k≠1:=by simpa using hk
  have e1:ua.cn=ua.neg:=by unfold PV.cn;rw[if_neg hk1]
  have e2:ua.cx=ua.xs:=by unfold PV.cx;rw[if_neg hk1]
  refine Cr ?_;refine yj (qx oc rfl rfl BY rfl rfl rfl ?_);rintro wC Ii E4;refine zr ?_;have E5:Ext No w wC:=eT.step E4 (fun q hq=>Or.inr (by have:=oO hq;have:=E1.size;omega));refine lJ ?_;exact ⟨A1,c1,by rw[e1,e2];rfl,Or.inl ⟨rfl,e2⟩,E5.toBelow⟩
include hx hl ha hy hl' hb0
theorem U2:Calls prog 64 #[bG ua A1 c1 B1 d1,bG ub A2 c2 B2 d2] w (aF w (.tuple #[.int .i64 (Ie ua ub),.bool (wY ua ub)])):=by
 have hcl:=PV.wZ hl;have hcl':=PV.wZ hl';refine zj func64 ntmps64 fun HF LW ak E=>?_;replace HF:=HF.and (Per.aD hx);replace HF:=HF.and (Per.aD hy);by_cases hk3:ua.k=3
 ·
  by_cases hj3:ub.k=3
  ·
   refine zi ?_;refine zg HF LW E ak fun aO w2 HF LW E=>(zg HF LW E ak fun bM w4 HF LW E=>?_);refine vp ?_;refine vf 12 rfl ((by simp[hk3]:(.bool (ua.k==3):Value)=_)) (zp ?_);refine qm 8 rfl (sw hj3) (zp ?_);refine zb an6 (rz _ ua.bits ub.bits) E fun w5 E=>(zv ?_);exact ⟨by unfold Ie wY;rw[if_pos hk3,if_pos hk3,if_pos hj3,if_pos hj3];rfl,aP LW E ak⟩
  ·
   refine zi ?_;refine zg HF LW E ak fun gb6 w7 HF LW E=>(zg HF LW E ak fun bR w9 HF LW E=>?_);refine vp ?_;refine vf 12 rfl ((by simp[hk3]:(.bool (ua.k==3):Value)=_)) (zp ?_);refine zw 8 rfl (sw hj3) (qc ?_);refine qm 24 rfl (sw hk3) (zi ?_);have OY:∀q9,(aj (kf [])) q9→q9<(World.drew w9).heap.size→(No) q9:=fun k h _=>(aj.none_) k h;refine yq (No) aj.none_ [] [] (xc [Fx.of (.pointer (some ⟨gb6,4,none⟩)),
    Fx.of (.int .u64 (ua.bits:Int)),
    Fx.of (bG ub A2 c2 B2 d2),
    ⟨(Option Addr×Nat),fun (A3,c3)=>.agg #[.bool ub.cn,.slice A3 ub.cx.length c3],fun (A3,c3) b=>(dW b A2 A3 ub.xs (PV.cx ub))⟩,
    Fx.of (.tuple #[.int .i64 (yR ua.bits ub.cn ub.cx),.bool (wX ua.bits ub.cn ub.cx)]),
    Fx.of (.int .i64 (yR ua.bits ub.cn ub.cx)),
    Fx.of (.bool (wX ua.bits ub.cn ub.cx)),
    Fx.of (.int .i64 (yR ua.bits ub.cn ub.cx)),
    Fx.of (.bool (wX ua.bits ub.cn ub.cx))]) mixed rfl trivial (fun _ h=>by cases h) ?_ ?_
   · refine ⟨arm,arm,arm,?_,?_,arm,arm,arm,arm,trivial⟩
     · refine yx ?_;intro vs X wq K;have XN:=K.2.1;refine ze gY rfl ((zzk _ ub A2 B2 c2 d2).mono ?_);rintro e w2 ⟨A3,c3,rfl,hN,hb⟩;exact ⟨_,rfl,hb,⟨(A3,c3),rfl,Zm hN XN⟩⟩
     · refine yx ?_;intro vs X wq K;have LE:=K.1;obtain ⟨⟨A3,c3⟩,e3,k3⟩:=K.dep 3 rfl rfl rfl;refine qq 31 _ rfl e3 (ze an7 rfl ((lG _ ua.bits ha ub.cn A3 c3 ub.cx ((k3.here).nums (HF.on (E.drew.trans (LE.mono OY))).here.1.1.2) hcl').mono ?_));exact N8
   intro vs dI LE AO AL AF AA;replace E:=E.drew.trans (LE.mono OY);obtain ⟨_,e7,k7⟩:=AL.2.2.2.2.2.2.2.1;obtain ⟨_,e8,k8⟩:=AL.2.2.2.2.2.2.2.2.1;refine vi (τ:=[(2,_),(3,_),(4,.int .i64 (yR ua.bits ub.cn ub.cx)),(5,.bool (wX ua.bits ub.cn ub.cx))]) ⟨rfl,rfl,congrArg some e7,congrArg some e8,trivial⟩ ?_;clear AL AF AA LE AO OY e7 e8 k7 k8;refine zn ?_;exact ⟨by unfold Ie wY;rw[if_pos hk3,if_pos hk3,if_neg hj3,if_neg hj3];rfl,aP LW E ak⟩
 ·
  refine zi ?_;refine zg HF LW E ak fun bg4 dB HF LW E=>(zg HF LW E ak fun Ct cZ HF LW E=>?_);refine vp ?_;refine yu 12 rfl ((by simp[hk3]:(.bool (ua.k==3):Value)=_)) (nW ?_);refine zw 24 rfl (sw hk3) ?_;by_cases hj3:ub.k=3
  ·
   refine qc ?_;refine qm 35 rfl (sw hj3) (zi ?_);have OY:∀q9,(aj (kf [])) q9→q9<(World.drew cZ).heap.size→(No) q9:=fun k h _=>(aj.none_) k h;refine yq (No) aj.none_ [] [] (xc [Fx.of (.pointer (some ⟨Ct,4,none⟩)),
    Fx.of (.int .u64 (ub.bits:Int)),
    Fx.of (bG ua A1 c1 B1 d1),
    ⟨(Option Addr×Nat),fun (A3,c3)=>.agg #[.bool ua.cn,.slice A3 ua.cx.length c3],fun (A3,c3) b=>(dW b A1 A3 ua.xs (PV.cx ua))⟩,
    Fx.of (.tuple #[.int .i64 (yR ub.bits ua.cn ua.cx),.bool (wX ub.bits ua.cn ua.cx)]),
    Fx.of (.tuple #[.int .i64 (yR ub.bits ua.cn ua.cx),.bool (wX ub.bits ua.cn ua.cx)]),
    Fx.of (.int .i64 (yR ub.bits ua.cn ua.cx)),
    Fx.of (.bool (wX ub.bits ua.cn ua.cx)),
    Fx.of (.int .i64 (yR ub.bits ua.cn ua.cx)),
    Fx.of (.bool (wX ub.bits ua.cn ua.cx))]) mixed rfl trivial (fun _ h=>by cases h) ?_ ?_
   · refine ⟨arm,arm,arm,?_,?_,arm,arm,arm,arm,arm,trivial⟩
     · exact aqx
     · refine yx ?_;intro vs X wq K;have LE:=K.1;obtain ⟨⟨A3,c3⟩,e3,k3⟩:=K.dep 3 rfl rfl rfl;refine qq 43 _ rfl e3 (ze an7 rfl ((lG _ ub.bits hb0 ua.cn A3 c3 ua.cx ((k3.here).nums (HF.on (E.drew.trans (LE.mono OY))).here.1.1.1.2) hcl).mono ?_));exact N8
   intro vs dQ LE AO AL AF AA;replace E:=E.drew.trans (LE.mono OY);obtain ⟨_,e8,k8⟩:=AL.2.2.2.2.2.2.2.2.1;obtain ⟨_,e9,k9⟩:=AL.2.2.2.2.2.2.2.2.2.1;refine vi (τ:=[(2,_),(3,_),(4,_),(5,_),(6,.int .i64 (yR ub.bits ua.cn ua.cx)),(7,.bool (wX ub.bits ua.cn ua.cx))]) ⟨rfl,rfl,rfl,rfl,congrArg some e8,congrArg some e9,trivial⟩ ?_;clear AL AF AA LE AO OY e8 e9 k8 k9;have hcv:=af9 ub.bits ua.cn ua.cx;refine ye ?_;refine zsz ?_;refine qc ?_;exact ⟨by unfold Ie wY;rw[if_neg hk3,if_neg hk3,if_pos hj3,if_pos hj3];rfl,aP LW E ak⟩
  ·
   refine qc ?_;refine zw 35 rfl (sw hj3) (zn ?_);have OY:∀q9,(aj (kf [])) q9→q9<(World.drew cZ).heap.size→(No) q9:=fun k h _=>(aj.none_) k h;refine yq (No) aj.none_ [] [] (xc [Fx.of (bG ua A1 c1 B1 d1),
    ⟨(Option Addr×Nat),fun (A3,c3)=>.agg #[.bool ua.cn,.slice A3 ua.cx.length c3],fun (A3,c3) b=>(dW b A1 A3 ua.xs (PV.cx ua))⟩,
    Fx.of (bG ub A2 c2 B2 d2),
    ⟨(Option Addr×Nat),fun (A4,c4)=>.agg #[.bool ub.cn,.slice A4 ub.cx.length c4],fun (A4,c4) b=>(dW b A2 A4 ub.xs (PV.cx ub))⟩,
    Fx.of (.int .i64 (gZ (zm ua.cn ua.cx&&zm ub.cn ub.cx) (num ua.cn ua.cx) (num ub.cn ub.cx))),
    Fx.of (.int .i64 (gZ (zm ua.cn ua.cx&&zm ub.cn ub.cx) (num ua.cn ua.cx) (num ub.cn ub.cx))),
    Fx.of (.bool true)]) mixed rfl trivial (fun _ h=>by cases h) ?_ ?_
   · refine ⟨arm,?_,arm,?_,?_,arm,arm,trivial⟩
     · exact aqx
     · refine yx ?_;intro vs X wq K;have XN:=K.2.1;refine ze gY rfl ((zzk _ ub A2 B2 c2 d2).mono ?_);rintro e w2 ⟨A4,c4,rfl,hN,hb⟩;exact ⟨_,rfl,hb,⟨(A4,c4),rfl,Zm hN XN⟩⟩
     · intro vs X wq K;have LE:=K.1;obtain ⟨⟨A3,c3⟩,e1,k1⟩:=K.dep 1 rfl rfl rfl;refine qq 51 _ rfl e1 ?_;obtain ⟨⟨A4,c4⟩,e3,k3⟩:=K.dep 3 rfl rfl rfl;refine qq 53 _ rfl e3 (ze aH1 rfl ((J5 A3 A4 c3 c4 ua.cx ub.cx _ ua.cn ub.cn ((k1.here).nums (HF.on (E.drew.trans (LE.mono OY))).here.1.1.1.2) ((k3.here).nums (HF.on (E.drew.trans (LE.mono OY))).here.1.1.2) hcl hcl').mono ?_));exact N8
   intro vs w16 LE AO AL AF AA;replace E:=E.drew.trans (LE.mono OY);obtain ⟨_,e5,k5⟩:=AL.2.2.2.2.2.1;obtain ⟨_,e6,k6⟩:=AL.2.2.2.2.2.2.1;refine vi (τ:=[(4,.int .i64 (gZ (zm ua.cn ua.cx&&zm ub.cn ub.cx) (num ua.cn ua.cx) (num ub.cn ub.cx))),(5,.bool true)]) ⟨congrArg some e5,congrArg some e6,trivial⟩ ?_;clear AL AF AA LE AO OY e5 e6 k5 k6;refine zr ?_;exact ⟨by unfold Ie wY;rw[if_neg hk3,if_neg hk3,if_neg hj3,if_neg hj3];rfl,aP LW E ak⟩
theorem azz (h1:ua.good=false):Calls prog 26 #[bG ua A1 c1 B1 d1,bG ub A2 c2 B2 d2] w (aF w (.bool (NW ua ub))):=by
 have _:=hx;have _:=hl;have _:=ha;have _:=hy;have _:=hl';have _:=hb0;refine zj func26 ntmps26 fun HF LW ak E=>?_;replace HF:=HF.and (Per.aD hx);replace HF:=HF.and (Per.aD hy);refine zi ?_;refine zg HF LW E ak fun aO w2 HF LW E=>(zg HF LW E ak fun bM w4 HF LW E=>?_);refine zp ?_;refine zb gQ (jc _ ua A1 B1 c1 d1 (HF.on E).here.1.1.1.2 hl false h1) E fun w5 E=>(ou ?_);exact ⟨by unfold NW;rw[h1];rfl,aP LW E ak⟩
theorem azx (h1:ua.good=true) (h2:ub.good=false):Calls prog 26 #[bG ua A1 c1 B1 d1,bG ub A2 c2 B2 d2] w (aF w (.bool (NW ua ub))):=by
 have _:=hx;have _:=hl;have _:=ha;have _:=hy;have _:=hl';have _:=hb0;refine zj func26 ntmps26 fun HF LW ak E=>?_;replace HF:=HF.and (Per.aD hx);replace HF:=HF.and (Per.aD hy);refine zi ?_;refine zg HF LW E ak fun aO w2 HF LW E=>(zg HF LW E ak fun bM w4 HF LW E=>?_);refine zp ?_;refine zb gQ (jc _ ua A1 B1 c1 d1 (HF.on E).here.1.1.1.2 hl true h1) E fun w5 E=>(zr ?_);refine zb gQ (jc _ ub A2 B2 c2 d2 (HF.on E).here.1.1.2 hl' false h2) E fun w6 E=>(ja ?_);exact ⟨by unfold NW;rw[h1,h2];rfl,aP LW E ak⟩
theorem azj (h1:ua.good=true) (h2:ub.good=true) (h3:og ua.k=true) (h4:og ub.k=true):Calls prog 26 #[bG ua A1 c1 B1 d1,bG ub A2 c2 B2 d2] w (aF w (.bool (NW ua ub))):=by
 have _:=hx;have _:=hl;have _:=ha;have _:=hy;have _:=hl';have _:=hb0;refine zj func26 ntmps26 fun HF LW ak E=>?_;replace HF:=HF.and (Per.aD hx);replace HF:=HF.and (Per.aD hy);refine zi ?_;refine zg HF LW E ak fun aO w2 HF LW E=>(zg HF LW E ak fun bM w4 HF LW E=>?_);refine zp ?_;refine zb gQ (jc _ ua A1 B1 c1 d1 (HF.on E).here.1.1.1.2 hl true h1) E fun w5 E=>(zr ?_);refine zb gQ (jc _ ub A2 B2 c2 d2 (HF.on E).here.1.1.2 hl' true h2) E fun w6 E=>(yv ?_);refine zb jF (U1 _ ua A1 B1 c1 d1 true h3) E fun w7 E=>(zi ?_);refine zb jF (U1 _ ub A2 B2 c2 d2 true h4) E fun w8 E=>(yk ?_);refine zb aVj (U2 _ ua ub A1 B1 A2 B2 c1 d1 c2 d2 (HF.on E).here.1.1.1.2 hl ha (HF.on E).here.1.1.2 hl' hb0) E fun w9 E=>(yv ?_);by_cases ho:wY ua ub=true
 ·
  refine vf 28 rfl (by rw[ho]<;>rfl) ?_;exact UW
 ·
  have ho:=Bool.eq_false_iff.2 ho;refine yu 28 rfl (by rw[ho]<;>rfl) ?_;exact UW
theorem aA0 (h1:ua.good=true) (h2:ub.good=true) (h3:og ua.k=false):Calls prog 26 #[bG ua A1 c1 B1 d1,bG ub A2 c2 B2 d2] w (aF w (.bool (NW ua ub))):=by
 have _:=hx;have _:=hl;have _:=ha;have _:=hy;have _:=hl';have _:=hb0;refine zj func26 ntmps26 fun HF LW ak E=>?_;replace HF:=HF.and (Per.aD hx);replace HF:=HF.and (Per.aD hy);refine zi ?_;refine zg HF LW E ak fun aO w2 HF LW E=>(zg HF LW E ak fun bM w4 HF LW E=>?_);refine zp ?_;refine zb gQ (jc _ ua A1 B1 c1 d1 (HF.on E).here.1.1.1.2 hl true h1) E fun w5 E=>(zr ?_);refine zb gQ (jc _ ub A2 B2 c2 d2 (HF.on E).here.1.1.2 hl' true h2) E fun w6 E=>(yv ?_);refine zb jF (U1 _ ua A1 B1 c1 d1 false h3) E fun w7 E=>(ou ?_);by_cases ho:(ua.k==ub.k)=true
 ·
  refine vf 37 rfl (by rw[ho]<;>rfl) ?_;exact UY
 ·
  have ho:=Bool.eq_false_iff.2 ho;refine yu 37 rfl (by rw[ho]<;>rfl) ?_;exact UY
theorem aA1 (h1:ua.good=true) (h2:ub.good=true) (h3:og ua.k=true) (h4:og ub.k=false):Calls prog 26 #[bG ua A1 c1 B1 d1,bG ub A2 c2 B2 d2] w (aF w (.bool (NW ua ub))):=by
 have _:=hx;have _:=hl;have _:=ha;have _:=hy;have _:=hl';have _:=hb0;refine zj func26 ntmps26 fun HF LW ak E=>?_;replace HF:=HF.and (Per.aD hx);replace HF:=HF.and (Per.aD hy);refine zi ?_;refine zg HF LW E ak fun aO w2 HF LW E=>(zg HF LW E ak fun bM w4 HF LW E=>?_);refine zp ?_;refine zb gQ (jc _ ua A1 B1 c1 d1 (HF.on E).here.1.1.1.2 hl true h1) E fun w5 E=>(zr ?_);refine zb gQ (jc _ ub A2 B2 c2 d2 (HF.on E).here.1.1.2 hl' true h2) E fun w6 E=>(yv ?_);refine zb jF (U1 _ ua A1 B1 c1 d1 true h3) E fun w7 E=>(zi ?_);refine zb jF (U1 _ ub A2 B2 c2 d2 false h4) E fun w8 E=>(kh ?_);by_cases ho:(ua.k==ub.k)=true
 ·
  refine vf 37 rfl (by rw[ho]<;>rfl) ?_;exact UZ
 ·
  have ho:=Bool.eq_false_iff.2 ho;refine yu 37 rfl (by rw[ho]<;>rfl) ?_;exact UZ
theorem U3:Calls prog 26 #[bG ua A1 c1 B1 d1,bG ub A2 c2 B2 d2] w (aF w (.bool (NW ua ub))):=by
 cases h1:ua.good
 · exact azz w ua ub A1 B1 A2 B2 c1 d1 c2 d2 hx hl ha hy hl' hb0 h1
 cases h2:ub.good
 · exact azx w ua ub A1 B1 A2 B2 c1 d1 c2 d2 hx hl ha hy hl' hb0 h1 h2
 cases h3:og ua.k
 · exact aA0 w ua ub A1 B1 A2 B2 c1 d1 c2 d2 hx hl ha hy hl' hb0 h1 h2 h3
 cases h4:og ub.k
 · exact aA1 w ua ub A1 B1 A2 B2 c1 d1 c2 d2 hx hl ha hy hl' hb0 h1 h2 h3 h4
 · exact azj w ua ub A1 B1 A2 B2 c1 d1 c2 d2 hx hl ha hy hl' hb0 h1 h2 h3 h4
end
theorem Cu {P Q:Prop} (k:Q) (h:(Unit→Q)→P:=by
 intro zK;refine ye ?_;refine za rfl (gh rfl rfl (aPq x) (za rfl (vjq (j:=x.toNat%16) u9 rfl rfl rfl (U4 om) ?_)));exact zK ()):P:=h fun _=>k
theorem Cv {P Q:Prop} (k:Q) (h:(Unit→Q)→P:=by
 intro zK;refine zo ?_;refine za rfl (jk (j:=i) u46 gF rfl rfl rfl hil (za rfl (jo u5 rfl rfl (hcell _ XI) ?_)));exact zK ()):P:=h fun _=>k
theorem Cw {P Q:Prop} (k:Q) (h:(Unit→Q)→P:=by
 intro zK;refine zn ?_;refine za rfl (js rfl rfl de (aYx x) (za rfl (vjq (j:=x.toNat/16) u9 rfl rfl rfl (U4 (by have:=x.toNat_lt;omega)) ?_)));exact zK ()):P:=h fun _=>k
def aYj:List UInt8:=[48,49,50,51,52,53,54,55,56,57,97,98,99,100,101,102]
def Fg (n:Nat):UInt8:=aYj.getD n 0
def qb (x:UInt8):List UInt8:=
 if x.toNat=10 then [92,110] else if x.toNat=9 then [92,116] else if x.toNat=92 then [92,x] else if x.toNat=39 then [92,x]
 else if x.toNat<32 then [92,120,Fg (x.toNat/16),Fg (x.toNat%16)] else if 126<x.toNat then [92,120,Fg (x.toNat/16),Fg (x.toNat%16)] else [x]
def lK (l:List UInt8):List UInt8:=39::l.flatMap qb
theorem aA2 (x:UInt8):(qb x).length≤4:=by unfold qb;(repeat' split)<;>simp
theorem rX:∀(l:List UInt8),(lK l).length≤1+4*l.length
 | []=>de
 | x::l=>by
  have h:=rX l;have h2:=aA2 x;unfold lK at h ⊢;simp only[List.length_cons,List.flatMap_cons,List.length_append] at h ⊢
  omega
theorem zhk {l:List UInt8} {i:Nat} {x:UInt8} (h:l[i]? =some x):lK (l.take (i+1))=lK (l.take i)++qb x:=by
 unfold lK;obtain ⟨hi,he⟩:=List.getElem?_eq_some_iff.1 h;rw[List.take_succ_eq_append_getElem hi,List.flatMap_append,he];simp
theorem aYx (x:UInt8):(x.toNat:Int).fdiv (2^(min (4:Int).toNat IntKind.u8.bits))=((x.toNat/16:Nat):Int):=by
 have key:∀n:Fin 256,(n.val:Int).fdiv (2^(min (4:Int).toNat IntKind.u8.bits))=((n.val/16:Nat):Int):=by decide +kernel
 exact key ⟨x.toNat,x.toNat_lt⟩
theorem aPq (x:UInt8):IntKind.u8.wrap (BitVec.ofInt IntKind.u8.bits (x.toNat:Int) &&& BitVec.ofInt IntKind.u8.bits 15).toNat=((x.toNat%16:Nat):Int):=by
 have key:∀n:Fin 256,IntKind.u8.wrap (BitVec.ofInt IntKind.u8.bits (n.val:Int) &&& BitVec.ofInt IntKind.u8.bits 15).toNat=((n.val%16:Nat):Int):=by decide +kernel
 exact key ⟨x.toNat,x.toNat_lt⟩
theorem U4 {j:Nat} (h:j<16):(⟨#[48,49,50,51,52,53,54,55,56,57,97,98,99,100,101,102]⟩:ByteArray)[j]? =some (Fg j):=by
 have key:∀n:Fin 16,(#[48,49,50,51,52,53,54,55,56,57,97,98,99,100,101,102]:Array UInt8)[n.val]? =some (Fg n.val):=by decide +kernel
 exact key ⟨j,h⟩
section
variable (w:World) (ua:PV) (A1 B1:Option Addr) (c1 d1:Nat) (hx:aA w A1 ua.xs) (hl:ua.xs.length≤9223372036854775807) (g1:ua.good=true) (h4:ua.k=4) (hsl:ua.s.size≤20000)
include hx hl g1 h4 hsl
theorem U5:Calls prog 23 #[bG ua A1 c1 B1 d1] w (aF w (.string ⟨(lK ua.s.data.toList++ [39]).toArray⟩)):=by
 have hsn:ua.s.data.toList.length=ua.s.size:=by rw[Array.length_toList];rfl
 obtain ⟨lo,hlo⟩:∃lo,lo=w.heap.size:=⟨_,rfl⟩;refine zd func23 rfl ntmps23 rfl (od ?_);rintro gv wA BX E1 G1;refine zv ?_;refine yu 9 rfl (by rw[h4];rfl) (bZ rfl (qaq (cs:=#[.int .i64 ua.k,.bool ua.yes,.bool ua.neg,.slice A1 ua.xs.length c1,.int .u64 (ua.bits:Int),.string ua.s,.slice B1 ua.ni d1]) u28 rfl qj rfl rfl (fun j v hj↦by have h:=(BX.cell j).trans hj;rw[Nat.zero_add];exact h) (bZ rfl (ze gQ rfl ((jc _ ua A1 B1 c1 d1 (Per.aD hx _ E1) hl true g1).mono ?_)))));rintro e w1 ⟨rfl,hb⟩;refine ⟨_,rfl,?_⟩;have E2:=E1.trans (Ext.of_below hb No);have BX2:=BX.ext (Ext.of_below hb No) (fun h=>h.elim);refine qc ?_;refine za rfl (kt aV0 ?_);rintro gb wB BB E3 G3;have E4:=E2.trans E3;have BX3:=BX2.ext E3 (fun h=>h.elim);have hs2:=E2.size;have hgb:lo≤gb:=om;obtain ⟨hi,hhi⟩:∃hi,hi=wB.heap.size:=⟨_,rfl⟩;have hs4:=E4.size;have hlh:lo≤hi:=om;refine ye ?_;refine za rfl (ze jH rfl ((RJ _ lo gb (.pointer none) (Or.inl rfl) [] de (fun q=>hi≤q) ⟨none,0,BB,jA,fun q hq=>(by cases hq)⟩ hgb (fun q hq=>by show hi≤q;omega) 39).mono ?_));rintro e w2 ⟨rfl,M0,X0⟩;refine ⟨_,rfl,?_⟩;have T0:Ext (fun q=>lo≤q) w w2:=(E4.noL lo).step X0 (fun q hq=>Or.inl (hq.elim (fun h=>by show lo≤q;omega) (fun h=>by have h:hi≤q:=h;show lo≤q;omega)));obtain ⟨A3,c3,MB,MO,MF⟩:=M0;have hvb:gv<gb:=by have:=BX2.lt;omega
 have hbh:gb<hi:=by have:=BB.lt;omega
 have BX4:=BX3.ext X0 (fun hq=>hq.elim (fun h=>om) (fun h=>by have h:hi≤gv:=h;omega));refine zp ?_;refine za rfl (vpq u9 u46 u5 rfl rfl rfl ?_);rintro gx cx wC RX E5 GX;have T1:=T0.step E5 (fun _ h=>h.elim);have hsX:=X0.size;have M1:Qd wC lo gb (.pointer (some ⟨gb,0,none⟩)) (lK (ua.s.data.toList.take 0)) (fun q=>hi≤q∧(0<ua.s.size→q≠gx)):=Qd.no ⟨A3,c3,MB,MO,fun q hq=>⟨MF q hq,fun _ e=>by have:=ypk MO q hq;omega⟩⟩ E5;have aZ0:0<ua.s.size→gx<wC.heap.size:=fun h0=>World.block_lt_of_cell? _ _ (RX 0 _ (by rw[List.getElem?_map,List.getElem?_eq_getElem (show 0<ua.s.data.toList.length from om)];rfl));have KE:∀ {z},Ext (fun q=>q=gb∨(hi≤q∧(0<ua.s.size→q≠gx))) wC z→ ∀q,z.heap.size≤q→hi≤q∧(0<ua.s.size→q≠gx):=fun h q hq=>by
  have h1:=h.size;have h2:=E5.size;exact ⟨om,fun h0 e=>by have:=aZ0 h0;omega⟩
 refine zn ?_;refine qw (ι:=Nat) (fun i=>[(3,.pointer (some ⟨gb,0,none⟩)),(19,.slice (some ⟨gx,0,none⟩) ua.s.size cx),(20,.int .i64 (ua.s.size:Int)),(21,.int .i64 ((i:Nat):Int))]) (fun i w'=>i≤ua.s.size∧Ext (fun q=>q=gb∨(hi≤q∧(0<ua.s.size→q≠gx))) wC w'∧Qd w' lo gb (.pointer (some ⟨gb,0,none⟩)) (lK (ua.s.data.toList.take i)) (fun q=>hi≤q∧(0<ua.s.size→q≠gx))) (fun i=>ua.s.size-i) 0 ⟨rfl,rfl,rfl,rfl,trivial⟩ (⟨Nat.zero_le _,Ext.refl _ _,M1⟩) ?_;rintro i w4 ⟨hin,XI,MI⟩;have hML:=rX (ua.s.data.toList.take i);rw[List.length_take] at hML;have hM0:0<(lK (ua.s.data.toList.take i)).length:=Nat.zero_lt_succ _;refine zo ?_;refine zf rfl (fun hic=>?_) (fun hic=>?_)
 ·
  have hic:=of_decide_eq_true hic;have hil:i<ua.s.size:=om;obtain ⟨x,hxl⟩:∃x,ua.s.data.toList[i]? =some x:=⟨_,List.getElem?_eq_getElem om⟩;have hcell:∀z,Ext (fun q=>q=gb∨(hi≤q∧(0<ua.s.size→q≠gx))) wC z→z.cell? ⟨gx,0+i,none⟩=some (.int .u8 (x.toNat:Int)):=fun z hz=>by
   have h1:=RX i (.int .u8 (x.toNat:Int)) (by rw[List.getElem?_map,hxl];rfl);rw[Nat.zero_add];refine (hz.cell (World.block_lt_of_cell? _ _ h1) (fun hq=>hq.elim (fun h=>?_) (fun h=>h.2 om rfl))).trans h1;have h:gx=gb:=h;have:=hsX;omega
  refine Cv ?_;refine yv ?_;by_cases h10:x.toNat=10
  ·
   refine qm 27 rfl (by rw[h10];rfl) (zi ?_);refine za rfl (ze Z7 rfl ((vxz _ lo gb _ (Or.inr rfl) (lK (ua.s.data.toList.take i)) (by first | omega | (simp only[List.length_append,List.length_cons,List.length_nil];omega)) (fun q=>hi≤q∧(0<ua.s.size→q≠gx)) MI hgb (KE XI) ⟨#[92,110]⟩ de (by first | omega | (simp only[List.length_append];omega))).mono ?_));rintro e w5 ⟨rfl,M1,X1⟩;refine ⟨_,rfl,?_⟩;have T1:=XI.step X1 (fun q hq=>Or.inl hq);refine jl ?_;exact zx (i+1) (by show ua.s.size-(i+1)<ua.s.size-i;omega) ⟨rfl,rfl,rfl,rfl,trivial⟩ (⟨om,T1,by rw[zhk hxl];rw[show qb x= [92,110] from (by unfold qb;rw[if_pos h10])];first | exact M1 | (have h:=M1;simp only[List.append_assoc] at h;exact h)⟩)
  ·
   refine zw 27 rfl (congrArg Value.bool (beq_eq_false_iff_ne.2 (fun h=>h10 om))) (yk ?_);by_cases h9:x.toNat=9
   ·
    refine qm 31 rfl (by rw[h9];rfl) (zi ?_);refine za rfl (ze Z7 rfl ((vxz _ lo gb _ (Or.inr rfl) (lK (ua.s.data.toList.take i)) (by first | omega | (simp only[List.length_append,List.length_cons,List.length_nil];omega)) (fun q=>hi≤q∧(0<ua.s.size→q≠gx)) MI hgb (KE XI) ⟨#[92,116]⟩ de (by first | omega | (simp only[List.length_append];omega))).mono ?_));rintro e w6 ⟨rfl,M2,X2⟩;refine ⟨_,rfl,?_⟩;have T2:=XI.step X2 (fun q hq=>Or.inl hq);refine jl ?_;exact zx (i+1) (by show ua.s.size-(i+1)<ua.s.size-i;omega) ⟨rfl,rfl,rfl,rfl,trivial⟩ (⟨om,T2,by rw[zhk hxl];rw[show qb x= [92,116] from (by unfold qb;rw[if_neg h10,if_pos h9])];first | exact M2 | (have h:=M2;simp only[List.append_assoc] at h;exact h)⟩)
   ·
    refine zw 31 rfl (congrArg Value.bool (beq_eq_false_iff_ne.2 (fun h=>h9 om))) (zo ?_);by_cases h92:x.toNat=92
    ·
     refine vf 38 rfl (by rw[h92];rfl) (qc ?_);refine za rfl (ze jH rfl ((RJ _ lo gb _ (Or.inr rfl) (lK (ua.s.data.toList.take i)) (by first | omega | (simp only[List.length_append,List.length_cons,List.length_nil];omega)) (fun q=>hi≤q∧(0<ua.s.size→q≠gx)) MI hgb (KE XI) 92).mono ?_));rintro e w7 ⟨rfl,M3,X3⟩;refine ⟨_,rfl,?_⟩;have T3:=XI.step X3 (fun q hq=>Or.inl hq);refine ye ?_;refine za rfl (ze jH rfl ((RJ _ lo gb _ (Or.inr rfl) ((lK (ua.s.data.toList.take i))++ [92]) (by first | omega | (simp only[List.length_append,List.length_cons,List.length_nil];omega)) (fun q=>hi≤q∧(0<ua.s.size→q≠gx)) M3 hgb (KE T3) x).mono ?_));rintro e w8 ⟨rfl,M4,X4⟩;refine ⟨_,rfl,?_⟩;have T4:=T3.step X4 (fun q hq=>Or.inl hq);refine jl ?_;exact zx (i+1) (by show ua.s.size-(i+1)<ua.s.size-i;omega) ⟨rfl,rfl,rfl,rfl,trivial⟩ (⟨om,T4,by rw[zhk hxl];rw[show qb x= [92,x] from (by unfold qb;rw[if_neg h10,if_neg h9,if_pos h92])];first | exact M4 | (have h:=M4;simp only[List.append_assoc] at h;exact h)⟩)
    ·
     refine yu 38 rfl (congrArg Value.bool (beq_eq_false_iff_ne.2 (fun h=>h92 om))) (zo ?_);by_cases h39:x.toNat=39
     ·
      refine qm 35 rfl (by rw[h39];rfl) (zr ?_);refine za rfl (ze jH rfl ((RJ _ lo gb _ (Or.inr rfl) (lK (ua.s.data.toList.take i)) (by first | omega | (simp only[List.length_append,List.length_cons,List.length_nil];omega)) (fun q=>hi≤q∧(0<ua.s.size→q≠gx)) MI hgb (KE XI) 92).mono ?_));rintro e w9 ⟨rfl,M5,X5⟩;refine ⟨_,rfl,?_⟩;have T5:=XI.step X5 (fun q hq=>Or.inl hq);refine ye ?_;refine za rfl (ze jH rfl ((RJ _ lo gb _ (Or.inr rfl) ((lK (ua.s.data.toList.take i))++ [92]) (by first | omega | (simp only[List.length_append,List.length_cons,List.length_nil];omega)) (fun q=>hi≤q∧(0<ua.s.size→q≠gx)) M5 hgb (KE T5) x).mono ?_));rintro e dI ⟨rfl,M6,X6⟩;refine ⟨_,rfl,?_⟩;have T6:=T5.step X6 (fun q hq=>Or.inl hq);refine jl ?_;exact zx (i+1) (by show ua.s.size-(i+1)<ua.s.size-i;omega) ⟨rfl,rfl,rfl,rfl,trivial⟩ (⟨om,T6,by rw[zhk hxl];rw[show qb x= [92,x] from (by unfold qb;rw[if_neg h10,if_neg h9,if_neg h92,if_pos h39])];first | exact M6 | (have h:=M6;simp only[List.append_assoc] at h;exact h)⟩)
     ·
      refine zw 35 rfl (congrArg Value.bool (beq_eq_false_iff_ne.2 (fun h=>h39 om))) (zo ?_);by_cases h32:x.toNat<32
      ·
       refine vf 48 rfl (congrArg Value.bool (decide_eq_true (show (x.toNat:Int)<32 from om))) (qc ?_);refine za rfl (ze Z7 rfl ((vxz _ lo gb _ (Or.inr rfl) (lK (ua.s.data.toList.take i)) (by first | omega | (simp only[List.length_append,List.length_cons,List.length_nil];omega)) (fun q=>hi≤q∧(0<ua.s.size→q≠gx)) MI hgb (KE XI) ⟨#[92,120]⟩ de (by first | omega | (simp only[List.length_append];omega))).mono ?_));rintro e dV ⟨rfl,M7,X7⟩;refine ⟨_,rfl,?_⟩;have T7:=XI.step X7 (fun q hq=>Or.inl hq);refine Cw ?_;refine za rfl (ze jH rfl ((RJ _ lo gb _ (Or.inr rfl) ((lK (ua.s.data.toList.take i))++ [92,120]) (by first | omega | (simp only[List.length_append,List.length_cons,List.length_nil];omega)) (fun q=>hi≤q∧(0<ua.s.size→q≠gx)) M7 hgb (KE T7) (Fg (x.toNat/16))).mono ?_));rintro e dB ⟨rfl,M8,X8⟩;refine ⟨_,rfl,?_⟩;have T8:=T7.step X8 (fun q hq=>Or.inl hq);refine Cu ?_;refine za rfl (ze jH rfl ((RJ _ lo gb _ (Or.inr rfl) (((lK (ua.s.data.toList.take i))++ [92,120])++ [(Fg (x.toNat/16))]) (by first | omega | (simp only[List.length_append,List.length_cons,List.length_nil];omega)) (fun q=>hi≤q∧(0<ua.s.size→q≠gx)) M8 hgb (KE T8) (Fg (x.toNat%16))).mono ?_));rintro e dS ⟨rfl,M9,X9⟩;refine ⟨_,rfl,?_⟩;have T9:=T8.step X9 (fun q hq=>Or.inl hq);refine jl ?_;exact zx (i+1) (by show ua.s.size-(i+1)<ua.s.size-i;omega) ⟨rfl,rfl,rfl,rfl,trivial⟩ (⟨om,T9,by rw[zhk hxl];rw[show qb x= [92,120,Fg (x.toNat/16),Fg (x.toNat%16)] from (by unfold qb;rw[if_neg h10,if_neg h9,if_neg h92,if_neg h39,if_pos h32])];first | exact M9 | (have h:=M9;simp only[List.append_assoc] at h;exact h)⟩)
      ·
       refine yu 48 rfl (congrArg Value.bool (decide_eq_false (show ¬(x.toNat:Int)<32 from om))) (zo ?_);by_cases aPz:126<x.toNat
       ·
        refine qm 45 rfl (congrArg Value.bool (decide_eq_true (show (126:Int)<(x.toNat:Int) from om))) (zr ?_);refine za rfl (ze Z7 rfl ((vxz _ lo gb _ (Or.inr rfl) (lK (ua.s.data.toList.take i)) (by first | omega | (simp only[List.length_append,List.length_cons,List.length_nil];omega)) (fun q=>hi≤q∧(0<ua.s.size→q≠gx)) MI hgb (KE XI) ⟨#[92,120]⟩ de (by first | omega | (simp only[List.length_append];omega))).mono ?_));rintro e cZ ⟨rfl,M10,X10⟩;refine ⟨_,rfl,?_⟩;have T10:=XI.step X10 (fun q hq=>Or.inl hq);refine Cw ?_;refine za rfl (ze jH rfl ((RJ _ lo gb _ (Or.inr rfl) ((lK (ua.s.data.toList.take i))++ [92,120]) (by first | omega | (simp only[List.length_append,List.length_cons,List.length_nil];omega)) (fun q=>hi≤q∧(0<ua.s.size→q≠gx)) M10 hgb (KE T10) (Fg (x.toNat/16))).mono ?_));rintro e dQ ⟨rfl,M11,X11⟩;refine ⟨_,rfl,?_⟩;have T11:=T10.step X11 (fun q hq=>Or.inl hq);refine Cu ?_;refine za rfl (ze jH rfl ((RJ _ lo gb _ (Or.inr rfl) (((lK (ua.s.data.toList.take i))++ [92,120])++ [(Fg (x.toNat/16))]) (by first | omega | (simp only[List.length_append,List.length_cons,List.length_nil];omega)) (fun q=>hi≤q∧(0<ua.s.size→q≠gx)) M11 hgb (KE T11) (Fg (x.toNat%16))).mono ?_));rintro e w16 ⟨rfl,KF,X12⟩;refine ⟨_,rfl,?_⟩;have T12:=T11.step X12 (fun q hq=>Or.inl hq);refine jl ?_;exact zx (i+1) (by show ua.s.size-(i+1)<ua.s.size-i;omega) ⟨rfl,rfl,rfl,rfl,trivial⟩ (⟨om,T12,by rw[zhk hxl];rw[show qb x= [92,120,Fg (x.toNat/16),Fg (x.toNat%16)] from (by unfold qb;rw[if_neg h10,if_neg h9,if_neg h92,if_neg h39,if_neg h32,if_pos aPz])];first | exact KF | (have h:=KF;simp only[List.append_assoc] at h;exact h)⟩)
       ·
        refine zw 45 rfl (congrArg Value.bool (decide_eq_false (show ¬(126:Int)<(x.toNat:Int) from om))) (zr ?_);refine za rfl (ze jH rfl ((RJ _ lo gb _ (Or.inr rfl) (lK (ua.s.data.toList.take i)) (by first | omega | (simp only[List.length_append,List.length_cons,List.length_nil];omega)) (fun q=>hi≤q∧(0<ua.s.size→q≠gx)) MI hgb (KE XI) x).mono ?_));rintro e fI ⟨rfl,pG,X13⟩;refine ⟨_,rfl,?_⟩;have T13:=XI.step X13 (fun q hq=>Or.inl hq);refine jl ?_;exact zx (i+1) (by show ua.s.size-(i+1)<ua.s.size-i;omega) ⟨rfl,rfl,rfl,rfl,trivial⟩ (⟨om,T13,by rw[zhk hxl];rw[show qb x= [x] from (by unfold qb;rw[if_neg h10,if_neg h9,if_neg h92,if_neg h39,if_neg h32,if_neg aPz])];first | exact pG | (have h:=pG;simp only[List.append_assoc] at h;exact h)⟩)
 ·
  have hic:=of_decide_eq_false hic;obtain rfl:i=ua.s.size:=om;rw[List.take_of_length_le om] at MI hML hM0;refine zp ?_;refine za rfl (ze jH rfl ((RJ _ lo gb _ (Or.inr rfl) (lK ua.s.data.toList) (by first | omega | (simp only[List.length_append,List.length_cons,List.length_nil];omega)) (fun q=>hi≤q∧(0<ua.s.size→q≠gx)) MI hgb (KE XI) 39).mono ?_));rintro e rT ⟨rfl,M14,X14⟩;refine ⟨_,rfl,?_⟩;have T14:=XI.step X14 (fun q hq=>Or.inl hq);refine ye ?_;refine za rfl (ze aVq rfl (((Tryz.Builder_String_any lo gb _ _ (Qd.lib M14 (Or.inr rfl) hgb) (by have:=T14.size;have:=T1.size;omega))).mono ?_));rintro e fC ⟨rfl,hb⟩;refine ⟨_,rfl,(zn ?_)⟩;exact ⟨rfl,((T1.step T14 (fun q hq=>Or.inl (hq.elim (fun h=>by show lo≤q;omega) (fun h=>by show lo≤q;omega)))).step (show Ext (fun q=>lo≤q) _ _ from ⟨hb.os,hb.tape,hb.output,hb.size,fun k _ hk=>hb.block k (Nat.lt_of_not_le hk)⟩) (fun q hq=>Or.inl hq)).below (fun q hq=>by rw[←hlo];exact hq)⟩
end
def ybx (h:Nat) (x:UInt8):Nat:=(31*h+x.toNat+1)%2147483647
def ar1 (l:List UInt8):Nat:=l.foldl ybx l.length
noncomputable def Oh (v:PV):Int:=if v.good then (if v.k=0 then 1 else if v.k=3 then U9 v.bits else if v.k=4 then ((ar1 v.s.data.toList:Nat):Int) else KG v.cn v.cx) else 0
def aZ1 (v:PV):Bool:=if v.good then (if v.k=1 then v.yes else if v.k=2 then decide ((0:Int)<(v.xs.length:Int)) else if v.k=3 then (IntKind.u64.wrap ((v.bits:Int)*2) !=0) else !(v.s.toList==(⟨#[]⟩:ByteArray).toList)) else false
theorem afj (l:List UInt8) (h:Nat) (hh:h<2147483647):l.foldl ybx h<2147483647:=by
 induction l generalizing h with
 | nil=>exact hh
 | cons x l ih=>exact ih _ (Nat.mod_lt _ de)
theorem Oi {l:List UInt8} {i:Nat} {x:UInt8} (h:l[i]? =some x) (n:Nat):(l.take (i+1)).foldl ybx n=ybx ((l.take i).foldl ybx n) x:=by
 obtain ⟨hi,he⟩:=List.getElem?_eq_some_iff.1 h;rw[List.take_succ_eq_append_getElem hi,List.foldl_append,he];rfl
theorem aA5 (m x:Nat):(31*((m:Nat):Int)+((x:Nat):Int)+1).tmod 2147483647=(((31*m+x+1)%2147483647:Nat):Int):=by
 rw[Int.tmod_eq_emod_of_nonneg om];omega
section
variable (w:World) (ua:PV) (A1 B1:Option Addr) (c1 d1:Nat) (hx:aA w A1 ua.xs) (hl:ua.xs.length≤9223372036854775807) (ha:ua.bits<18446744073709551616)
include hx hl ha
theorem ph0 (g1:ua.good=false):Calls prog 25 #[bG ua A1 c1 B1 d1] w (aF w (.int .i64 (Oh ua))):=by
 have _:=hx;have _:=hl;have _:=ha;refine zj func25 ntmps25 fun HF LW ak E=>?_;replace HF:=HF.and (Per.aD hx);refine zi ?_;refine zg HF LW E ak fun aO w2 HF LW E=>?_;refine zp ?_;refine zb gQ (jc _ ua A1 B1 c1 d1 (HF.on E).here.1.2 hl false g1) E fun w3 E=>(vp ?_);exact ⟨by unfold Oh;rw[g1];rfl,aP LW E ak⟩
theorem ph1 (g1:ua.good=true) (h0:ua.k=0):Calls prog 25 #[bG ua A1 c1 B1 d1] w (aF w (.int .i64 (Oh ua))):=by
 have _:=hx;have _:=hl;have _:=ha;refine zj func25 ntmps25 fun HF LW ak E=>?_;replace HF:=HF.and (Per.aD hx);refine zi ?_;refine zg HF LW E ak fun aO w2 HF LW E=>?_;refine zp ?_;refine zb gQ (jc _ ua A1 B1 c1 d1 (HF.on E).here.1.2 hl true g1) E fun w3 E=>(quv ?_);refine qm 11 rfl (sw h0) (zv ?_);exact ⟨by unfold Oh;rw[g1,if_pos rfl,if_pos h0];rfl,aP LW E ak⟩
theorem ph2 (g1:ua.good=true) (h0:¬ua.k=0) (h3:ua.k=3):Calls prog 25 #[bG ua A1 c1 B1 d1] w (aF w (.int .i64 (Oh ua))):=by
 have _:=hx;have _:=hl;have _:=ha;refine zj func25 ntmps25 fun HF LW ak E=>?_;replace HF:=HF.and (Per.aD hx);refine zi ?_;refine zg HF LW E ak fun aO w2 HF LW E=>?_;refine zp ?_;refine zb gQ (jc _ ua A1 B1 c1 d1 (HF.on E).here.1.2 hl true g1) E fun w3 E=>(quv ?_);refine zw 11 rfl (sw h0) (zp ?_);refine qm 13 rfl (sw h3) (zn ?_);refine zb aVz (Vg _ ua.bits ha) E fun w4 E=>(zp ?_);exact ⟨by unfold Oh;rw[g1,if_pos rfl,if_neg h0,if_pos h3];rfl,aP LW E ak⟩
theorem ph4 (g1:ua.good=true) (h0:¬ua.k=0) (h3:¬ua.k=3) (h4:¬ua.k=4):Calls prog 25 #[bG ua A1 c1 B1 d1] w (aF w (.int .i64 (Oh ua))):=by
 have _:=hx;have _:=hl;have _:=ha;have hcl:=PV.wZ hl;refine zj func25 ntmps25 fun HF LW ak E=>?_;replace HF:=HF.and (Per.aD hx);refine zi ?_;refine zg HF LW E ak fun aO w2 HF LW E=>?_;refine zp ?_;refine zb gQ (jc _ ua A1 B1 c1 d1 (HF.on E).here.1.2 hl true g1) E fun w3 E=>(quv ?_);refine zw 11 rfl (sw h0) (zp ?_);refine zw 13 rfl (sw h3) (zp ?_);refine zw 18 rfl (sw h4) (zp ?_);refine za rfl (ze gY rfl ((zzk _ ua A1 B1 c1 d1).mono ?_));rintro e w4 ⟨A3,c3,rfl,hN,hb⟩;refine ⟨_,rfl,?_⟩;replace E:=yK E hb;have hN3:aA w4 A3 ua.cx:=hN.elim (fun h=>by rw[h.1,h.2];exact (HF.on E).here.1.2) (fun h=>h.nums);refine zb aVx (CG ua.cn A3 c3 ua.cx _ hN3 hcl) E fun w5 E=>(zn ?_);exact ⟨by unfold Oh;rw[g1,if_pos rfl,if_neg h0,if_neg h3,if_neg h4];rfl,aP LW E ak⟩
theorem ph3 (g1:ua.good=true) (h0:¬ua.k=0) (h3:¬ua.k=3) (h4:ua.k=4) (hsl:ua.s.size≤20000):Calls prog 25 #[bG ua A1 c1 B1 d1] w (aF w (.int .i64 (Oh ua))):=by
 have _:=ha;have hsn:ua.s.data.toList.length=ua.s.size:=by rw[Array.length_toList];rfl
 have hbx:∀x:UInt8,x.toNat<256:=fun x=>x.toNat_lt;refine zd func25 rfl ntmps25 rfl (od ?_);rintro gv wA BX E1 G1;refine zo ?_;refine za rfl (qaq (cs:=#[.int .i64 ua.k,.bool ua.yes,.bool ua.neg,.slice A1 ua.xs.length c1,.int .u64 (ua.bits:Int),.string ua.s,.slice B1 ua.ni d1]) u28 rfl qj rfl rfl (fun j v hj↦by have h:=(BX.cell j).trans hj;rw[Nat.zero_add];exact h) (za rfl (ze gQ rfl ((jc _ ua A1 B1 c1 d1 (Per.aD hx _ E1) hl true g1).mono ?_))));rintro e w1 ⟨rfl,hb⟩;refine ⟨_,rfl,?_⟩;have E2:=E1.trans (Ext.of_below hb No);have BX2:=BX.ext (Ext.of_below hb No) (fun h=>h.elim);refine quv ?_;refine zw 11 rfl (sw h0) (zp ?_);refine zw 13 rfl (sw h3) (zp ?_);refine qm 18 rfl (sw h4) (zn ?_);refine vm ?_;refine yk ?_;refine za rfl (vpq u9 u46 u5 rfl rfl rfl ?_);rintro gx cx wC RX E5 GX;have E6:=E2.trans E5;refine zn ?_;refine qw (ι:=Nat) (fun i=>[(3,.int .i64 (((ua.s.data.toList.take i).foldl ybx ua.s.size:Nat):Int)),(25,.slice (some ⟨gx,0,none⟩) ua.s.size cx),(26,.int .i64 (ua.s.size:Int)),(27,.int .i64 ((i:Nat):Int))]) (fun i w'=>i≤ua.s.size∧Ext No wC w') (fun i=>ua.s.size-i) 0 ⟨rfl,rfl,rfl,rfl,trivial⟩ (⟨Nat.zero_le _,Ext.refl _ _⟩) ?_;rintro i w3 ⟨hin,XI⟩;refine zo ?_;refine zf rfl (fun hic=>?_) (fun hic=>?_)
 ·
  have hic:=of_decide_eq_true hic;have hil:i<ua.s.size:=om;obtain ⟨x,hxl⟩:∃x,ua.s.data.toList[i]? =some x:=⟨_,List.getElem?_eq_getElem om⟩;have hxb:=hbx x;obtain ⟨m,hm⟩:∃m,m=(ua.s.data.toList.take i).foldl ybx ua.s.size:=⟨_,rfl⟩;have hml:m<2147483647:=by rw[hm];exact afj _ _ om
  have hcell:∀z,Ext No wC z→z.cell? ⟨gx,0+i,none⟩=some (.int .u8 (x.toNat:Int)):=fun z hz=>by
   rw[Nat.zero_add];exact Per.aU8 RX z hz i (.int .u8 (x.toNat:Int)) (by rw[List.getElem?_map,hxl];rfl)
  rw[←hm];refine yr 3 (.int .i64 ((m:Nat):Int)) rfl (rfl) (Cv ?_);refine zn ?_;refine qsx ?_;refine aK ?_;refine qtv ?_;refine yw ?_;refine za rfl (E8 rfl rfl de (aA5 m x.toNat) (jl ?_));exact zx (i+1) (by show ua.s.size-(i+1)<ua.s.size-i;omega) ⟨by rw[Oi hxl,←hm];rfl,rfl,rfl,rfl,trivial⟩ (⟨om,XI⟩)
 ·
  have hic:=of_decide_eq_false hic;obtain rfl:i=ua.s.size:=om;refine xf ?_;exact ⟨by unfold Oh ar1;rw[g1,if_pos rfl,if_neg h0,if_neg h3,if_pos h4,hsn,List.take_of_length_le om];rfl,(E6.trans XI).toBelow⟩
theorem ag0:Calls prog 25 #[bG ua A1 c1 B1 d1] w (aF w (.int .i64 (Oh ua))):=by
 cases g1:ua.good
 · exact ph0 w ua A1 B1 c1 d1 hx hl ha g1
 by_cases h0:ua.k=0
 · exact ph1 w ua A1 B1 c1 d1 hx hl ha g1 h0
 by_cases h3:ua.k=3
 · exact ph2 w ua A1 B1 c1 d1 hx hl ha g1 h0 h3
 by_cases h4:ua.k=4
 · exact ph3 w ua A1 B1 c1 d1 hx hl ha g1 h0 h3 h4 (PV.dX g1 h4)
 · exact ph4 w ua A1 B1 c1 d1 hx hl ha g1 h0 h3 h4
end
theorem CJ {P Q:Prop} (k:Q) (h:(Unit→Q)→P:=by
 intro zK;refine zr ?_;refine ks (rs:=[.cell 2 28]) (vs:=[_]) rfl ⟨⟨_,rfl,ypq u28 rfl qj Ii rfl⟩,trivial⟩ ?_;exact zK ()):P:=h fun _=>k
theorem CK {P Q:Prop} (k:Q) (h:(Unit→Q)→P:=by
 intro zK;refine zn ?_;refine za rfl (qz (cs:=#[.int .i64 4,.bool false,.bool false,.slice none 0 0,.int .u64 0,.string s,.slice none 0 0]) nU ko rfl rfl ?_);exact zK ()):P:=h fun _=>k
theorem CO {P Q:Prop} (k:Q) (h:(Unit→Q)→P:=by
 intro zK;refine zo ?_;refine zk 43 (.int .i64 0) rfl (by kernel_rfl:(.int .i64 (0:Nat):Value)=_) (zr ?_);refine zk 46 (.int .i64 0) rfl (by kernel_rfl:(.int .i64 (0:Nat):Value)=_) (kh ?_);exact zK ()):P:=h fun _=>k
theorem Vn {P:Prop} (h:P:=by
 rintro e w2 ⟨A5,c5,rfl,hO,hb⟩;exact ⟨_,rfl,hb,⟨(A5,c5),rfl,Per.eO hO XN⟩⟩):P:=h
theorem Vo {P:Prop} (h:P:=by
 refine yx ?_;intro vs X wq K;refine xt rfl (ze FW rfl ((ag1 _).mono ?_));exact N8):P:=h
theorem ar2 {P:Prop} (h:P:=by
 refine yj (qx qj rfl rfl BY rfl rfl rfl ?_);rintro wC Ii E4;refine zr ?_;refine ks (rs:=[.cell 2 28]) (vs:=[_]) rfl ⟨⟨_,rfl,ypq u28 rfl qj Ii rfl⟩,trivial⟩ ?_;exact ⟨rfl,(E2.step E4 (fun q hq=>Or.inr (by have:=oO hq;omega))).toBelow⟩):P:=h
theorem aPj:(2:Int)=bE (zm false [1]&&zm false [1]) (num false [1]+num false [1]):=by
 have h:=vh (i:=1) de;rw[yzv] at h;have h:zm false [1]=true:=h;rw[h,U6];exact (xa de).symm
theorem aQ0:(0:Int)=bg (zm false [1]&&zm false [1]) (num false [1]+num false [1]):=by
 have h:=vh (i:=1) de;rw[yzv] at h;have h:zm false [1]=true:=h;rw[h,U6];exact (xh de).symm
theorem dW.own {w:World} {A1 A:Option Addr} {xs ys:List Nat} (h:dW w A1 A xs ys) (hne:ys≠xs):aA w A ys:=h.resolve_left (fun e=>hne e.2)
def pvT:PV:=⟨1,true,false,[],0,⟨#[]⟩,0⟩
def pvO:PV:=⟨2,false,false,[1],0,⟨#[]⟩,0⟩
theorem lQ (n:Bool) (xs:List Nat):Zi n xs n xs=true:=by unfold Zi;simp
theorem Vp:PV.good pvT=true:=by unfold PV.good pvT;simp
theorem Vq:PV.good pvO=true:=by
 have h:=vh (i:=1) de;rw[yzv] at h;have h:zm false [1]=true:=h;unfold PV.good pvO;simp[h]
theorem qax {X:Nat→Prop} {w:World} {lo base c:Nat} {A:Option Addr} {xs:List Nat} (h:Own w base A c xs) (hX:∀k,X k→k<base) (hb:lo≤base):Per X w (fun b=>Own b lo A c xs):=fun b E=>⟨viv (ZY h.1 E (fun q hq hx=>by have:=uG h.1 q hq;have:=hX q hx;omega)) hb,h.2⟩
section
variable (w:World)
theorem Vr (ua:PV) (A1 B1:Option Addr) (c1 d1:Nat) (n:Bool) (xs:List Nat) (hn:ua.cn=n) (hc:ua.cx=xs):Calls prog 33 #[bG ua A1 c1 B1 d1] w (Ig w A1 n ua.xs xs):=by
 subst hn hc;exact zzk w ua A1 B1 c1 d1
theorem Vs (b:Bool):Calls prog 20 #[.bool b] w (aF w (.agg #[.int .i64 1,.bool b,.bool false,.slice none 0 0,.int .u64 0,.string ⟨#[]⟩,.slice none 0 0])):=by
 refine zd func20 rfl ntmps20 rfl (zi ?_);refine zkk ?_;rintro gR wB BY E2 G2;refine zn ?_;refine za rfl (qz (cs:=#[.int .i64 1,.bool b,.bool false,.slice none 0 0,.int .u64 0,.string ⟨#[]⟩,.slice none 0 0]) nU ko rfl rfl ?_);exact ar2
theorem ypx (s:ByteArray):Calls prog 24 #[.string s] w (aF w (.agg #[.int .i64 4,.bool false,.bool false,.slice none 0 0,.int .u64 0,.string s,.slice none 0 0])):=by
 refine zd func24 rfl ntmps24 rfl (zi ?_);refine zkk ?_;rintro gR wB BY E2 G2;refine CK ?_;exact ar2
def aQ1 (W:World) (i:Int) (e:Ending) (w':World):Prop:=∃A c,e= .returned (.agg #[.int .i64 2,.bool false,.bool (decide (i<0)),.slice A (limbs i).length c,.int .u64 0,.string ⟨#[]⟩,.slice none 0 0])∧Own w' W.heap.size A c (limbs i)∧Below W.heap.size W w'
theorem qfq (A:Option Addr) (c:Nat) (i:Int) (hx:aH w A (ah i)) (hl:(ah i).length≤1048576):Calls prog 21 #[.agg #[.bool (decide (i<0)),.slice A (ah i).length c]] w (aQ1 w i):=by
 refine zd func21 rfl ntmps21 rfl (od ?_);rintro gA wA BX E1 G1;refine zkk ?_;rintro gR wB BY E2 G2;have KD:=BX.ext E2 (fun h=>h.elim);have eT:=E1.trans E2;have hs:=eT.size;refine zn ?_;refine za rfl (ze aH7 rfl ((J3 A c i _ (Per.eY hx _ eT) hl).mono ?_));rintro e w1 ⟨A3,c3,rfl,hO,hb⟩;refine ⟨_,rfl,?_⟩;have E3:=Ext.of_below hb No;have N7:=BY.ext E3 (fun h=>h.elim);refine za rfl (qz (cs:=#[.int .i64 2,.bool false,.bool (decide (i<0)),.slice A3 (limbs i).length c3,.int .u64 0,.string ⟨#[]⟩,.slice none 0 0]) nU ko rfl rfl (yj (qx qj rfl rfl N7 rfl rfl rfl ?_)));rintro wC Ii E4;refine CJ ?_;exact ⟨A3,c3,rfl,ykx hO E4 BY.lt hs,((eT.trans E3).step E4 (fun q hq=>Or.inr (by have:=oO hq;have:=E1.size;omega))).toBelow⟩
theorem CP (A:Option Addr) (c:Nat) (n:Bool) (xs:List Nat):Calls prog 45 #[.agg #[.bool n,.slice A xs.length c]] w (aF w (.agg #[.int .i64 2,.bool false,.bool n,.slice A xs.length c,.int .u64 0,.string ⟨#[]⟩,.slice none 0 0])):=by
 refine zd func45 rfl ntmps45 rfl (od ?_);rintro gA wA BX E1 G1;refine zkk ?_;rintro gR wB BY E2 G2;have KD:=BX.ext E2 (fun h=>h.elim);have eT:=E1.trans E2;have hs:=eT.size;refine zn ?_;refine za rfl (qz (cs:=#[.int .i64 2,.bool false,.bool n,.slice A xs.length c,.int .u64 0,.string ⟨#[]⟩,.slice none 0 0]) nU ko rfl rfl (yj (qx qj rfl rfl BY rfl rfl rfl ?_)));rintro wC Ii E4;refine CJ ?_;exact ⟨rfl,(eT.step E4 (fun q hq=>Or.inr (by have:=oO hq;have:=E1.size;omega))).toBelow⟩
theorem ag2 (A B:Option Addr) (c d:Nat) (xs ys:List Nat) (n1 n2:Bool) (v f:Int) (hv:v=bE (zm n1 xs&&zm n2 ys) (num n1 xs+num n2 ys)) (hf:f=bg (zm n1 xs&&zm n2 ys) (num n1 xs+num n2 ys)) (hx:aA w A xs) (hy:aA w B ys) (hl:xs.length≤9223372036854775807) (hl':ys.length≤9223372036854775807) :
 Calls prog 67 #[.int .i64 1,.agg #[.bool n1,.slice A xs.length c],.agg #[.bool n2,.slice B ys.length d]] w (ya w v f):=by
 refine zd func67 rfl ntmps67 rfl (od ?_);rintro gA wA BX E1 G1;refine za rfl (yqx rfl ?_);rintro gC wC BZ E2 G2;refine vu ?_;rintro gR wB BY E3 G3;have KD:=(BX.ext E2 (fun h=>h.elim)).ext E3 (fun h=>h.elim);have BZb:=BZ.ext E3 (fun h=>h.elim);have eT:=(E1.trans E2).trans E3;have hs:=eT.size;refine qN ?_;have hadd:=vP A B c d xs ys wB n1 n2 (Per.aD hx _ eT) (Per.aD hy _ eT) hl hl';rw[←hv,←hf] at hadd;refine za rfl (ze an8 rfl ((hadd).mono ?_));rintro e w1 ⟨A3,c3,rfl,hO,hb⟩;refine ⟨_,rfl,?_⟩;have E4:=Ext.of_below hb No;have N7:=BY.ext E4 (fun h=>h.elim);refine zi ?_;refine yj (qx oc rfl rfl N7 rfl rfl rfl ?_);rintro wD Ii E5;refine zp ?_;exact ⟨A3,c3,rfl,ykx hO E5 BY.lt hs,((eT.trans E4).step E5 (fun q hq=>Or.inr (by have:=oO hq;have:=E1.size;have:=E2.size;omega))).toBelow⟩
theorem Ol (A:Option Addr) (c:Nat) (hx:aA w A [1]):Calls prog 30 #[.int .i64 1,.agg #[.int .i64 1,.bool true,.bool false,.slice none 0 0,.int .u64 0,.string ⟨#[]⟩,.slice none 0 0],.agg #[.int .i64 2,.bool false,.bool false,.slice A 1 c,.int .u64 0,.string ⟨#[]⟩,.slice none 0 0]] w fun e w'=>∃A4 c4,e= .returned (.tuple #[.agg #[.int .i64 2,.bool false,.bool (decide (2<0)),.slice A4 (limbs 2).length c4,.int .u64 0,.string ⟨#[]⟩,.slice none 0 0],.int .i64 0])∧Own w' w.heap.size A4 c4 (limbs 2)∧Below w.heap.size w w':=by
 refine zd func30 rfl ntmps30 rfl (od ?_);rintro gA wA BX E1 G1;refine za rfl (yqx rfl ?_);rintro gC wC BZ E2 G2;refine zkk ?_;rintro gR wB BY E3 G3;have KD:=(BX.ext E2 (fun h=>h.elim)).ext E3 (fun h=>h.elim);have BZb:=BZ.ext E3 (fun h=>h.elim);have eT:=(E1.trans E2).trans E3;have hs:=eT.size;refine zZ ?_;refine zi ?_;refine yq (No) aj.none_ [⟨9,10,24,#[.bool false,.slice none 0 0]⟩] [] (xc [Fx.of (.int .i64 1),
  Fx.of (.agg #[.int .i64 1,.bool true,.bool false,.slice none 0 0,.int .u64 0,.string ⟨#[]⟩,.slice none 0 0]),
  ⟨(Option Addr×Nat),fun (A5,c5)=>.agg #[.bool false,.slice A5 1 c5],fun (A5,c5) b=>(dW b none A5 [] [1])⟩,
  Fx.of (.agg #[.int .i64 2,.bool false,.bool false,.slice A 1 c,.int .u64 0,.string ⟨#[]⟩,.slice none 0 0]),
  ⟨(Option Addr×Nat),fun (A6,c6)=>.agg #[.bool false,.slice A6 1 c6],fun (A6,c6) b=>(dW b A A6 [1] [1])⟩,
  ⟨(Option Addr×Nat),fun (A7,c7)=>.tuple #[.agg #[.bool (decide ((2:Int)<0)),.slice A7 (limbs 2).length c7],.int .i64 0],fun (A7,c7) b=>(Own b wB.heap.size A7 c7 (limbs 2))⟩,
  ⟨(Option Addr×Nat),fun (A7,c7)=>.tuple #[.agg #[.bool (decide ((2:Int)<0)),.slice A7 (limbs 2).length c7],.int .i64 0],fun (A7,c7) b=>(Own b wB.heap.size A7 c7 (limbs 2))⟩,
  ⟨(Option Addr×Nat),fun (A7,c7)=>.agg #[.bool (decide ((2:Int)<0)),.slice A7 (limbs 2).length c7],fun (A7,c7) b=>(Own b wB.heap.size A7 c7 (limbs 2))⟩,
  Fx.of (.int .i64 0),
  Fx.of undef,
  Fx.of undef,
  Fx.of (.int .i64 0)]) mixed rfl trivial (fun _ h=>by cases h) ?_ ?_
 · refine ⟨arm,?_,?_,?_,?_,?_,?_,?_,?_,?_,?_,arm,trivial⟩
   · intro vs X wq K;have LE:=K.1;exact qyq u28 rfl qj rfl (KD.ext ((Ext.refl No _).drew.trans LE) (fun h↦h.elim)) rfl ⟨Below.refl _ _,Left.of rfl⟩
   · refine yx ?_;intro vs X wq K;have XN:=K.2.1;refine ze gY rfl ((Vr _ pvT none none 0 0 false [1] rfl rfl).mono ?_);rintro e w2 ⟨A5,c5,rfl,hN,hb⟩;exact ⟨_,rfl,hb,⟨(A5,c5),rfl,Zm hN XN⟩⟩
   · intro vs X wq K;have LE:=K.1;exact qyq u28 rfl qj rfl (BZb.ext ((Ext.refl No _).drew.trans LE) (fun h↦h.elim)) rfl ⟨Below.refl _ _,Left.of rfl⟩
   · refine yx ?_;intro vs X wq K;have XN:=K.2.1;refine ze gY rfl ((Vr _ pvO A none c 0 false [1] rfl rfl).mono ?_);rintro e w2 ⟨A6,c6,rfl,hN,hb⟩;exact ⟨_,rfl,hb,⟨(A6,c6),rfl,Zm hN XN⟩⟩
   · refine yx ?_;intro vs X wq K;have LE:=K.1;have XN:=K.2.1;obtain ⟨⟨A5,c5⟩,e2,k2⟩:=K.dep 2 rfl rfl rfl;refine qq 38 _ rfl e2 ?_;obtain ⟨⟨A6,c6⟩,e4,k4⟩:=K.dep 4 rfl rfl rfl;refine qq 40 _ rfl e4 (ze aH8 rfl ((ag2 _ A5 A6 c5 c6 [1] [1] false false 2 0 aPj aQ0 ((k2.here).own de) ((k4.here).nums (Per.aD hx _ (eT.trans ((Ext.refl No _).drew.trans LE)))) de de).mono ?_));rintro e w2 ⟨A7,c7,rfl,hO,hb⟩;exact ⟨_,rfl,hb,⟨(A7,c7),rfl,qax hO XN LE.size⟩⟩
   · intro vs X wq K;obtain ⟨⟨A7,c7⟩,e5,k5⟩:=K.dep 5 rfl rfl rfl;refine qq 41 _ rfl e5 ?_;exact qhx rfl ⟨Below.refl _ _,⟨⟨A7,c7⟩,rfl,(k5.map (fun _ h=>h))⟩⟩
   · intro vs X wq K;obtain ⟨⟨A7,c7⟩,e6,k6⟩:=K.dep 6 rfl rfl rfl;refine qq 35 _ rfl e6 ?_;exact kj rfl rfl ⟨Below.refl _ _,⟨⟨A7,c7⟩,rfl,(k6.map (fun _ h=>h))⟩⟩
   · intro vs X wq K;obtain ⟨⟨A7,c7⟩,e6,k6⟩:=K.dep 6 rfl rfl rfl;refine qq 35 _ rfl e6 ?_;exact kY
   · exact kZ
   · refine ⟨_,_,_,_,_,rfl,rfl,rfl,oc,fun vs X wq K=>?_⟩;obtain ⟨⟨A7,c7⟩,e0,_⟩:=K.dep 7 rfl rfl rfl;exact ⟨vs 7,rfl,by rw[e0];rfl,by rw[e0];rfl⟩
 intro vs w1 LE AO AL AF AA;have hbd:Below (wB).heap.size (wB) w1:=(((Ext.refl No (wB)).drew).trans LE).toBelow;obtain ⟨⟨A7,c7⟩,e7,k7⟩:=AL.2.2.2.2.2.2.2.1;obtain ⟨_,e11,k11⟩:=AL.2.2.2.2.2.2.2.2.2.2.2.1;have Wc5:=k7.here;obtain ⟨gX0,v0,y0,qX0,GX0,BX0,ey,dR⟩:=AF.1;cases ey
 obtain rfl:vs 7=v0:=Option.some.inj dR;rw[e7] at BX0;have BX0:aB w1 gX0 24 #[.bool (decide ((2:Int)<0)),.slice A7 (limbs 2).length c7]:=BX0;have e9:=qX0;refine vi (τ:=[(0,_),(4,_),(5,_),(6,_),(7,_),(8,_),(9,.pointer (some ⟨gX0,0,none⟩)),(10,.int .i64 0)]) ⟨rfl,rfl,rfl,rfl,rfl,rfl,congrArg some e9,congrArg some e11,trivial⟩ ?_;clear AL AF AA AO;have E5:=Ext.of_below hbd No;have N7:=BY.ext E5 (fun h=>h.elim);refine kh ?_;refine za rfl (ze aH3 rfl ((CP _ A7 c7 (decide ((2:Int)<0)) (limbs 2)).mono ?_));rintro e w2 ⟨rfl,hb⟩;refine ⟨_,rfl,?_⟩;have E6:=Ext.of_below hb No;have Ii:=N7.ext E6 (fun h=>h.elim);have hN7:Own w2 wB.heap.size A7 c7 (limbs 2):=⟨ZY Wc5.1 E6 (fun _ _ h=>h.elim),Wc5.2⟩;refine yj (qx qj rfl rfl Ii rfl rfl rfl ?_);rintro wD BYe E7;refine zo ?_;exact ⟨A7,c7,rfl,ykx hN7 E7 BY.lt hs,(((eT.trans E5).trans E6).step E7 (fun q hq=>Or.inr (by have:=oO hq;have:=E1.size;have:=E2.size;omega))).toBelow⟩
theorem Om (A:Option Addr) (c:Nat) (hx:aA w A [1]):Calls prog 7 #[.int .i64 1,.agg #[.int .i64 1,.bool true,.bool false,.slice none 0 0,.int .u64 0,.string ⟨#[]⟩,.slice none 0 0],.agg #[.int .i64 2,.bool false,.bool false,.slice A 1 c,.int .u64 0,.string ⟨#[]⟩,.slice none 0 0]] w fun e w'=>∃A4 c4,e= .returned (.tuple #[.agg #[.int .i64 2,.bool false,.bool (decide (2<0)),.slice A4 (limbs 2).length c4,.int .u64 0,.string ⟨#[]⟩,.slice none 0 0],.int .i64 0])∧Own w' w.heap.size A4 c4 (limbs 2)∧Below w.heap.size w w':=by
 refine zd func7 rfl ntmps7 rfl (od ?_);rintro gA wA BX E1 G1;refine za rfl (yqx rfl ?_);rintro gC wC BZ E2 G2;refine zkk ?_;rintro gR wB BY E3 G3;have KD:=(BX.ext E2 (fun h=>h.elim)).ext E3 (fun h=>h.elim);have BZb:=BZ.ext E3 (fun h=>h.elim);have eT:=(E1.trans E2).trans E3;have hs:=eT.size;refine zp ?_;refine za rfl (ze gQ rfl ((jc _ pvT none none 0 0 ykk de true Vp).mono ?_));rintro e w1 ⟨rfl,hb⟩;refine ⟨_,rfl,?_⟩;have F1:=Ext.of_below hb No;have E13:=eT.trans F1;have BX1:=KD.ext F1 (fun h=>h.elim);have BZ1:=BZb.ext F1 (fun h=>h.elim);have BY1:=BY.ext F1 (fun h=>h.elim);refine zr ?_;refine bZ rfl (ze gQ rfl ((jc _ pvO A none c 0 (Per.aD hx _ E13) de true Vq).mono ?_));rintro e w2 ⟨rfl,hb⟩;refine ⟨_,rfl,?_⟩;have F2:=Ext.of_below hb No;have E14:=E13.trans F2;have BX2:=BX1.ext F2 (fun h=>h.elim);have BZ2:=BZ1.ext F2 (fun h=>h.elim);have BY2:=BY1.ext F2 (fun h=>h.elim);refine JO ?_;refine za rfl (ze jF rfl ((U1 _ pvT none none 0 0 true rfl).mono ?_));rintro e w3 ⟨rfl,hb⟩;refine ⟨_,rfl,?_⟩;have F3:=Ext.of_below hb No;have E15:=E14.trans F3;have BX3:=BX2.ext F3 (fun h=>h.elim);have BZ3:=BZ2.ext F3 (fun h=>h.elim);have BY3:=BY2.ext F3 (fun h=>h.elim);refine zi ?_;refine bZ rfl (ze jF rfl ((U1 _ pvO A none c 0 true rfl).mono ?_));rintro e w4 ⟨rfl,hb⟩;refine ⟨_,rfl,?_⟩;have F4:=Ext.of_below hb No;have E16:=E15.trans F4;have BX4:=BX3.ext F4 (fun h=>h.elim);have BZ4:=BZ3.ext F4 (fun h=>h.elim);have BY4:=BY3.ext F4 (fun h=>h.elim);refine zv ?_;refine za rfl (ze aGx rfl ((Ol _ A c (Per.aD hx _ E16)).mono ?_));rintro e w5 ⟨A4,c4,rfl,hO,hb⟩;refine ⟨_,rfl,?_⟩;have F5:=Ext.of_below hb No;have BY5:=BY4.ext F5 (fun h=>h.elim);refine zi ?_;refine yj (qx qj rfl rfl BY5 rfl rfl rfl ?_);rintro wD BYe E7;refine zp ?_;exact ⟨A4,c4,rfl,ykx hO E7 BY4.lt E16.size,((E16.trans F5).step E7 (fun q hq=>Or.inr (by have:=oO hq;have:=E1.size;have:=E2.size;omega))).toBelow⟩
theorem aQ2 (A B:Option Addr) (c d:Nat) (n:Bool) (xs:List Nat) (hx:aA w A xs) (hy:aA w B xs) (hl:xs.length≤1048576):Calls prog 14 #[.agg #[.int .i64 2,.bool false,.bool n,.slice A xs.length c,.int .u64 0,.string ⟨#[]⟩,.slice none 0 0],.agg #[.int .i64 2,.bool false,.bool n,.slice B xs.length d,.int .u64 0,.string ⟨#[]⟩,.slice none 0 0]] w (aF w (.bool true)):=by
 refine zd func14 rfl ntmps14 rfl (od ?_);rintro gA wA BX E1 G1;refine za rfl (yqx rfl ?_);rintro gC wC BZ E2 G2;have KD:=BX.ext E2 (fun h=>h.elim);have eT:=E1.trans E2;have hs:=eT.size
 refine nW ?_;refine bZ rfl (qyz u4 rfl rfl (ja ?_));refine bZ rfl (qgv rfl rfl (yu 30 rfl (by simp only[jB];rfl:(.bool (!((⟨#[]⟩:ByteArray).toList==(⟨#[]⟩:ByteArray).toList)):Value)=_) (zr ?_)));refine bZ rfl (qaq (cs:=#[.bool n,.slice A xs.length c]) u24 rfl oc rfl rfl (vfk (KD.cell 2) (KD.cell 3)) (aK ?_));refine bZ rfl (qaq (cs:=#[.bool n,.slice B xs.length d]) u24 rfl oc rfl rfl (vfk (BZ.cell 2) (BZ.cell 3)) (bZ rfl (ze aH4 rfl ((lQ n xs▸qX A B c d xs xs _ n n (Per.aD hx _ eT) (Per.aD hy _ eT) hl hl).mono ?_))));rintro e w1 ⟨rfl,hb⟩;refine ⟨_,rfl,?_⟩;have F1:=Ext.of_below hb No;have BX1:=KD.ext F1 (fun h=>h.elim);have BZ1:=BZ.ext F1 (fun h=>h.elim);refine CO ?_;refine qw (ι:=Unit) (fun _=>[(2,.pointer (some ⟨gA,0,none⟩)),(5,.int .i64 0)]) (fun _ z=>Ext No w z∧aB z gA 28 #[.int .i64 2,.bool false,.bool n,.slice A xs.length c,.int .u64 0,.string ⟨#[]⟩,.slice none 0 0]) (fun _=>0) () ⟨rfl,rfl,trivial⟩ (⟨eT.trans F1,BX1⟩) ?_;rintro _ w3 ⟨E13,BX3⟩;refine zp ?_;refine zk 52 (.int .i64 0) rfl (by kernel_rfl:(.int .i64 (0:Nat):Value)=_) (nW ?_);exact ⟨rfl,E13.toBelow⟩
theorem Ip (A:Option Addr) (c:Nat) (hx:aA w A (limbs 1)):Calls prog 7 #[.int .i64 1,.agg #[.int .i64 1,.bool true,.bool false,.slice none 0 0,.int .u64 0,.string ⟨#[]⟩,.slice none 0 0],.agg #[.int .i64 2,.bool false,.bool (decide (1<0)),.slice A (limbs 1).length c,.int .u64 0,.string ⟨#[]⟩,.slice none 0 0]] w fun e w'=>∃A4 c4,e= .returned (.tuple #[.agg #[.int .i64 2,.bool false,.bool (decide (2<0)),.slice A4 (limbs 2).length c4,.int .u64 0,.string ⟨#[]⟩,.slice none 0 0],.int .i64 0])∧Own w' w.heap.size A4 c4 (limbs 2)∧Below w.heap.size w w':=by
 rw[yzv] at hx ⊢;exact Om w A c hx
theorem ag3:Calls prog 23 #[.agg #[.int .i64 4,.bool false,.bool false,.slice none 0 0,.int .u64 0,.string ⟨#[97,39,10,200]⟩,.slice none 0 0]] w fun e w'=>e= .returned (.string ⟨#[39,97,92,39,92,110,92,120,99,56,39]⟩)∧Below w.heap.size w w':=
 U5 w ⟨4,false,false,[],0,⟨#[97,39,10,200]⟩,0⟩ none none 0 0 ykk de (by unfold PV.good;simp;decide) rfl de
theorem aA6:Calls prog 25 #[.agg #[.int .i64 4,.bool false,.bool false,.slice none 0 0,.int .u64 0,.string ⟨#[97]⟩,.slice none 0 0]] w (aF w (.int .i64 129)):=by
 have h:=ag0 w ⟨4,false,false,[],0,⟨#[97]⟩,0⟩ none none 0 0 ykk de de;have e:Oh ⟨4,false,false,[],0,⟨#[97]⟩,0⟩=129:=by
  have hg:PV.good ⟨4,false,false,[],0,⟨#[97]⟩,0⟩=true:=by unfold PV.good;simp;decide
  unfold Oh;rw[hg,if_pos rfl,if_neg de,if_neg de,if_pos rfl];rfl
 rw[e] at h;exact h
theorem aQ3:qu 9221120237041090560=9221120237041090560:=de
theorem ag1:Calls prog 27 #[.int .u64 9221120237041090560] w (aF w (.agg #[.int .i64 3,.bool false,.bool false,.slice none 0 0,.int .u64 9221120237041090560,.string ⟨#[]⟩,.slice none 0 0])):=by
 have h:=zhq w 9221120237041090560 de;rw[aQ3] at h;exact h
theorem ag4:Calls prog 26 #[.agg #[.int .i64 3,.bool false,.bool false,.slice none 0 0,.int .u64 9221120237041090560,.string ⟨#[]⟩,.slice none 0 0],.agg #[.int .i64 3,.bool false,.bool false,.slice none 0 0,.int .u64 9221120237041090560,.string ⟨#[]⟩,.slice none 0 0]] w (aF w (.bool false)):=by
 have h:=U3 w ⟨3,false,false,[],9221120237041090560,⟨#[]⟩,0⟩ ⟨3,false,false,[],9221120237041090560,⟨#[]⟩,0⟩ none none none none 0 0 0 0 ykk de de ykk de de;have e:NW ⟨3,false,false,[],9221120237041090560,⟨#[]⟩,0⟩ ⟨3,false,false,[],9221120237041090560,⟨#[]⟩,0⟩=false:=by
  have hg:PV.good ⟨3,false,false,[],9221120237041090560,⟨#[]⟩,0⟩=true:=by unfold PV.good;simp
  have ho:wY ⟨3,false,false,[],9221120237041090560,⟨#[]⟩,0⟩ ⟨3,false,false,[],9221120237041090560,⟨#[]⟩,0⟩=false:=de;unfold NW;rw[hg,ho];rfl
 rw[e] at h;exact h
theorem CQ:Calls prog 6 #[] w (aF w (.bool true)):=by
 have ht:∀i:Int,i.natAbs<av^30→(ah i).length≤1048576:=fun i h=>by have:=(yix i).2 h;omega
 have hlb:(limbs 2).length≤1048576:=by have:=zt (i:=2) de;omega
 refine zd func6 rfl ntmps6 rfl (zp ?_);refine za rfl (ze aV2 rfl ((Vs _ true).mono ?_));rintro e w1 ⟨rfl,hb⟩;refine ⟨_,rfl,?_⟩;have E1:=Ext.of_below hb No;refine za rfl (ze Z5 rfl ((qwz 1 _ de de).mono ?_));rintro e w2 ⟨A1,c1,rfl,hO1,hb⟩;refine ⟨_,rfl,?_⟩;have E2:=E1.trans (Ext.of_below hb No);refine za rfl (ze Me rfl ((qfq _ A1 c1 1 hO1.nums (ht 1 de)).mono ?_));rintro e w3 ⟨A2,c2,rfl,hO2,hb⟩;refine ⟨_,rfl,?_⟩;have E3:=E2.trans (Ext.of_below hb No);refine za rfl (ze en7 rfl ((Ip _ A2 c2 hO2.nums).mono ?_));rintro e w4 ⟨A4,c4,rfl,hO4,hb⟩;refine ⟨_,rfl,?_⟩;have E4:=E3.trans (Ext.of_below hb No);refine zr ?_;refine zkk ?_;rintro gR wB BY E5 G2;refine yj (qx qj rfl rfl BY rfl rfl rfl ?_);rintro wC BZ E6;have hO5:Own wC _ A4 c4 (limbs 2):=⟨ZY (ZY hO4.1 E5 (fun _ _ h=>h.elim)) E6 (fun q hq hm=>by have:=oO hm;have:=ypk hO4.1 q hq;omega),hO4.2⟩;have hN4:=hO5.nums;have E7:Ext No w wC:=(E4.trans E5).step E6 (fun q hq=>Or.inr (by have:=oO hq;have:=E4.size;omega));refine ye ?_;refine yq (No) aj.none_ [] [] (xc [Fx.of (.int .i64 0),
  Fx.of (.bool true),
  Fx.of (.bool true),
  Fx.of (.agg #[.int .i64 2,.bool false,.bool (decide (2<0)),.slice A4 (limbs 2).length c4,.int .u64 0,.string ⟨#[]⟩,.slice none 0 0]),
  ⟨(Option Addr×Nat),fun (A5,c5)=>.agg #[.bool (decide ((2:Int)<0)),.slice A5 (ah 2).length c5],fun (A5,c5) b=>(aH b A5 (ah 2))⟩,
  ⟨(Option Addr×Nat),fun (A6,c6)=>.agg #[.int .i64 2,.bool false,.bool (decide (2<0)),.slice A6 (limbs 2).length c6,.int .u64 0,.string ⟨#[]⟩,.slice none 0 0],fun (A6,c6) b=>(aA b A6 (limbs 2))⟩,
  Fx.of (.bool true),
  Fx.of (.bool true),
  Fx.of (.bool true),
  Fx.of (.agg #[.int .i64 4,.bool false,.bool false,.slice none 0 0,.int .u64 0,.string ⟨#[97,39,10,200]⟩,.slice none 0 0]),
  Fx.of (.string ⟨#[39,97,92,39,92,110,92,120,99,56,39]⟩),
  Fx.of (.bool true),
  Fx.of (.bool true),
  Fx.of (.bool true),
  Fx.of (.agg #[.int .i64 4,.bool false,.bool false,.slice none 0 0,.int .u64 0,.string ⟨#[97]⟩,.slice none 0 0]),
  Fx.of (.int .i64 129),
  Fx.of (.bool true),
  Fx.of (.bool true),
  Fx.of (.bool true),
  Fx.of (.agg #[.int .i64 3,.bool false,.bool false,.slice none 0 0,.int .u64 9221120237041090560,.string ⟨#[]⟩,.slice none 0 0]),
  Fx.of (.agg #[.int .i64 3,.bool false,.bool false,.slice none 0 0,.int .u64 9221120237041090560,.string ⟨#[]⟩,.slice none 0 0]),
  Fx.of (.bool false),
  Fx.of (.bool true),
  Fx.of (.bool true),
  Fx.of (.bool true)]) mixed rfl trivial (fun _ h=>by cases h) ?_ ?_
 · refine ⟨arm,arm,arm,?_,?_,?_,?_,arm,arm,?_,?_,?_,arm,arm,?_,?_,arm,arm,arm,?_,?_,?_,arm,arm,arm,trivial⟩
   · refine yx ?_;intro vs X wq K;have LE:=K.1;exact xt rfl (qyq u28 rfl qj rfl (BZ.ext ((Ext.refl No _).drew.trans LE) (fun h↦h.elim)) rfl ⟨Below.refl _ _,Left.of rfl⟩)
   · refine yx ?_;intro vs X wq K;have XN:=K.2.1;refine xt rfl (ze Z5 rfl ((qwz 2 _ de de).mono ?_));exact Vn
   · intro vs X wq K;have XN:=K.2.1;obtain ⟨⟨A5,c5⟩,e4,k4⟩:=K.dep 4 rfl rfl rfl;refine qq 14 _ rfl e4 ?_;obtain ⟨_,e2,k2⟩:=K.dep 2 rfl rfl rfl;refine qq 12 _ rfl e2 (xt rfl (ze Me rfl ((qfq _ A5 c5 2 (k4.here) (ht 2 de)).mono ?_)));rintro e w2 ⟨A6,c6,rfl,hO,hb⟩;exact ⟨_,rfl,hb,⟨(A6,c6),rfl,Per.own hO XN⟩⟩
   · intro vs X wq K;have LE:=K.1;obtain ⟨_,e3,k3⟩:=K.dep 3 rfl rfl rfl;refine qq 13 _ rfl e3 ?_;obtain ⟨⟨A6,c6⟩,e5,k5⟩:=K.dep 5 rfl rfl rfl;refine qq 15 _ rfl e5 ?_;obtain ⟨_,e2,k2⟩:=K.dep 2 rfl rfl rfl;refine qq 12 _ rfl e2 (xt rfl (ze aGz rfl ((aQ2 _ A4 A6 c4 c6 (decide ((2:Int)<0)) (limbs 2) (Per.aD hN4 _ ((Ext.refl No _).drew.trans LE)) (k5.here) hlb).mono ?_)));exact N8
   · refine yx ?_;intro vs X wq K;refine xt rfl (ze FV rfl ((ypx _ ⟨#[97,39,10,200]⟩).mono ?_));exact N8
   · refine yx ?_;intro vs X wq K;refine xt rfl (ze aV3 rfl ((ag3 _).mono ?_));exact N8
   · refine yx ?_;intro vs X wq K;exact xt rfl (JE rfl rfl ⟨Below.refl _ _,Left.of (by simp only[jB];rfl:(.bool ((⟨#[39,97,92,39,92,110,92,120,99,56,39]⟩:ByteArray).toList==(⟨#[39,97,92,39,92,110,92,120,99,56,39]⟩:ByteArray).toList):Value)=_)⟩)
   · refine yx ?_;intro vs X wq K;refine xt rfl (ze FV rfl ((ypx _ ⟨#[97]⟩).mono ?_));exact N8
   · refine yx ?_;intro vs X wq K;refine xt rfl (ze aV4 rfl ((aA6 _).mono ?_));exact N8
   · exact Vo
   · exact Vo
   · refine yx ?_;intro vs X wq K;refine xt rfl (ze aV5 rfl ((ag4 _).mono ?_));exact N8
 intro vs w5 LE AO AL AF AA;have hbd:Below (wC).heap.size (wC) w5:=(((Ext.refl No (wC)).drew).trans LE).toBelow;obtain ⟨_,e24,k24⟩:=AL.2.2.2.2.2.2.2.2.2.2.2.2.2.2.2.2.2.2.2.2.2.2.2.2.1;refine vi (τ:=[(0,.bool true)]) ⟨congrArg some e24,trivial⟩ ?_;clear AL AF AA AO;refine zr ?_;exact ⟨rfl,(E7.trans (Ext.of_below hbd No)).toBelow⟩
end
end
theorem D5 {P:Program} {w:World} {T U:TypeId} {v:Value} {ms:Array (String×TypeId)} (hd:P.underlying T=some (.interface ms)):(Op.equal T (.iface U v) .nilIface).run P w= .ok false w:=by
 have e:Op.maxDepth=9999+1:=rfl;have key:∀d:Nat,(Op.equalIn (d+1) T (.iface U v) .nilIface).run P w= .ok false w:=by
  exact Fu
 unfold Op.equal;rw[e];exact key 9999
theorem ai7 {P:Program} {N:Nat} {ops:Array Oper} {Q:Exit→Act→World→Prop} {σ:Env} {w:World} {ty:TypeId} {pos:String} {af:Array Edge} {dst:Option Nat} {Post:Value→World→Prop} {T U D:TypeId} {v:Value} {x:Operand} {ms:Array (String×TypeId)} (hd:P.underlying T=some (.interface ms)) (hx:ev σ x=some (.iface D v)) (k:Post (.bool true) w):OW P N ops Q ⟨dst,.binOp .neq T x (.const .nilIface) U,ty,pos,af,none⟩ σ w Post:=
 yh (fun ρ ha=>by
  have e:=D5 (P:=P) (w:=w) (U:=D) (v:=v) hd;have hc:ρ (.const .nilIface)= .nilIface:=ha rfl;simp only[execOp,ha hx,hc,eqGuard,binOp]
  simp only[Bool.not_true,Bool.false_eq_true,if_false,Sem.run_bind,e,Result.andThen_ok,Sem.run_pure]
  rfl) k
theorem O6 (fn s:ByteArray) (base bits:Int) (w:World) (hl:s.size<100000) (hv:∃te pe,w.cell? ⟨4,0,none⟩=some (.iface te pe)) :
 Calls prog 152 #[.string fn,.string s,.int .i64 base,.int .i64 bits,dL] w fun e w'=>(∃er,e= .returned er)∧Below w.heap.size w w':=by
 obtain ⟨te,pe,hv⟩:=hv;refine (AnyPu.strconv_toError_range (ρ:=Tryz.laysPu14_ren) { Tryz.laysPu14 with } fn s base bits (.iface te pe) w om hv (.inr ⟨te,pe,rfl⟩)).mono ?_;rintro e w' ⟨N,rfl,_,_,hb⟩;exact ⟨⟨_,rfl⟩,hb⟩
theorem aRz:y5 prog 229 (.agg (yo (xR false))):=by
 unfold yo xJ;exact (by kernel_rfl:(prog.info? 229).map (·.zero)=some (some (.agg ((xR false).d.map (fun b=>(.int .u8 ((b:Nat):Int):Value))++([.int .i64 (((xR false).nd:Nat):Int),.int .i64 (xR false).dp,.bool (xR false).neg,.bool (xR false).tr]:List Value)).toArray)))
theorem D6 {s:ByteArray} {k i:Nat}:aL (s.extract k s.size) i=aL s (k+i):=by
 unfold aL;rw[ByteArray.data_extract,Array.getElem?_extract];by_cases h:i<s.size-k
 · rw[if_pos (by show i<min s.size s.data.size-k;rw[show s.data.size=s.size from rfl,Nat.min_self];exact h)]
 · rw[if_neg (by show ¬i<min s.size s.data.size-k;rw[show s.data.size=s.size from rfl,Nat.min_self];exact h)];have:s.data[k+i]? =none:=Array.getElem?_eq_none (by show s.size≤k+i;omega);rw[this]
theorem extract_all (s:ByteArray):s.extract 0 s.size=s:=by
 apply ByteArray.ext
 rw[ByteArray.data_extract];exact Array.extract_eq_self_of_le (Nat.le_refl _)
theorem ai8 {s:ByteArray} {f p Z q:Nat} (neg:Bool) (hs:Nm s f p Z q) (hl:s.size<100000):-20000000≤(fq s f neg).dp∧(fq s f neg).dp≤20000000:=by
 obtain ⟨h,hi⟩:=mD neg hs;have h1:=h.hp;have h2:=h.dec.hn;have h3:=h.iE;have h4:=hs.hE;have h5:=vbq hs;rw[←hi] at h5;unfold fq;show -20000000≤(if (stA s f neg).dot=true then (stA s f neg).t.dp else (((stA s f neg).t.nd:Nat):Int))+oF s (stA s f neg).i∧(if (stA s f neg).dot=true then (stA s f neg).t.dp else (((stA s f neg).t.nd:Nat):Int))+oF s (stA s f neg).i≤20000000
 split<;>omega
theorem byte_of (r:Nat) (h:r<10):48≤(UInt8.ofNat (48+r)).toNat∧(UInt8.ofNat (48+r)).toNat≤57:=by
 have e:(UInt8.ofNat (48+r)).toNat=(48+r)%256:=rfl;rw[e];omega
theorem La:∀n:Nat,∀c∈Lib.decDigits n,48≤c.toNat∧c.toNat≤57:=by
 intro n;induction n using Nat.strongRecOn with
 | _ n ih=>
  by_cases h:10≤n
  · rw[ymk h];intro c hc;rcases List.mem_append.1 hc with h1 | h1
    · exact ih (n/10) om c h1
    · obtain rfl:=List.mem_singleton.1 h1;exact byte_of _ om
  · rw[ytz om];intro c hc;obtain rfl:=List.mem_singleton.1 hc;exact byte_of _ om
theorem Lb (n:Nat):0<(Lib.decDigits n).length:=by
 by_cases h:10≤n
 · rw[ymk h,List.length_append];show 0<_+1;omega
 · rw[ytz om];exact Nat.one_pos
theorem x9:∀(k n:Nat),n<10^(k+1)→(Lib.decDigits n).length≤k+1
 | 0,n,h=>by rw[ytz (by simpa using h)];exact Nat.le_refl _
 | k+1,n,h=>by
  by_cases h1:10≤n
  · rw[ymk h1,List.length_append];have:=x9 k (n/10) ((Nat.div_lt_iff_lt_mul de).2 (by rwa [Nat.pow_succ] at h));show _+1≤_;omega
  · rw[ytz om];show 1≤_;omega
def Je (i:Int):ByteArray:=⟨(Lib.itoa i).toArray⟩
def Pn (i:Int):Nat:=if i<0 then 1 else 0
theorem Jf (i:Int) (j:Nat):aL (Je i) j=(((Lib.itoa i)[j]?).map (·.toNat)).getD 0:=by
 unfold aL Je;rw[List.getElem?_toArray]
theorem Es (i:Int):(Je i).size=(Lib.itoa i).length:=by
 show (Lib.itoa i).toArray.size=_
 rw[List.size_toArray]
theorem yA {i:Int} (h:i<0):Lib.itoa i=45::Lib.decDigits i.natAbs:=by rw[Lib.itoa,if_pos h]
theorem Jg {i:Int} (h:¬i<0):Lib.itoa i=Lib.decDigits i.toNat:=by rw[Lib.itoa,if_neg h]
theorem Xz (i:Int):dO (Je i) (Pn i) (decide (i<0)):=by
 by_cases h:i<0
 · refine .inr ⟨decide_eq_true h,by unfold Pn;rw[if_pos h],?_⟩;rw[Jf,yA h];rfl
 · exact .inl ⟨decide_eq_false h,by unfold Pn;rw[if_neg h]⟩
theorem XA (i:Int):Nm (Je i) (Pn i) (Je i).size (Je i).size 0:=by
 have key:Pn i<(Je i).size∧ ∀j,Pn i≤j→j<(Je i).size→48≤aL (Je i) j∧aL (Je i) j≤57:=by
  rw[Es];by_cases h:i<0
  · have hf:Pn i=1:=by unfold Pn;rw[if_pos h]
    have hp:=Lb i.natAbs;rw[hf,yA h];refine ⟨by show 1<_+1;omega,fun j hj hl=>?_⟩;have hl:j<(Lib.decDigits i.natAbs).length+1:=hl;rw[Jf,yA h];obtain ⟨k,rfl⟩:∃k,j=k+1:=⟨j-1,om⟩;rw[List.getElem?_cons_succ,List.getElem?_eq_getElem om];exact La _ _ (List.getElem_mem _)
  · have hf:Pn i=0:=by unfold Pn;rw[if_neg h]
    have hp:=Lb i.toNat;rw[hf,Jg h];refine ⟨hp,fun j hj hl=>?_⟩;rw[Jf,Jg h,List.getElem?_eq_getElem hl];exact La _ _ (List.getElem_mem _)
 refine ⟨key.1,Nat.le_refl _,Nat.le_refl _,key.2,fun h=>absurd h (Nat.lt_irrefl _),fun j h1 h2=>absurd h1 (Nat.not_lt.2 (Nat.le_of_lt h2)),fun h=>absurd h (Nat.lt_irrefl _)⟩
theorem Lc {i:Int} (h:i.natAbs<av^30):(Je i).size<100000:=by
 have e:av^30=10^(539+1):=by unfold av;decide +kernel
 rw[e] at h;rw[Es];by_cases h0:i<0
 · rw[yA h0];have:=x9 539 i.natAbs h;show _+1<100000
   omega
 · rw[Jg h0];have:=x9 539 i.toNat (by rw[show i.toNat=i.natAbs from om];exact h);omega
noncomputable def ofN (i:Int):Nat:=iI (Je i) (Pn i) (decide (i<0))
noncomputable def Zy (i:Int):Nat:=if rg (ofN i)=9218868437227405312 then 0 else ofN i
noncomputable def ofE (i:Int):Int:=if rg (ofN i)=9218868437227405312 then 7 else 0
theorem vtv (i:Int):nZ (decide (i<0)) (ofN i):=ahz _ (XA i)
theorem XB (i:Int):qu (ofN i)=ofN i:=by unfold qu;rw[(vtv i).num,if_neg de]
def vZ:PV:=⟨0,false,false,[],0,⟨#[]⟩,0⟩
def vI (i:Int):PV:=⟨2,false,decide (i<0),limbs i,0,⟨#[]⟩,0⟩
def vFl (b:Nat):PV:=⟨3,false,false,[],b,⟨#[]⟩,0⟩
def vT (s:ByteArray):PV:=⟨4,false,false,[],0,s,0⟩
def oz (w:World) (p:PV×Int) (e:Ending) (w':World):Prop:=∃A c,e= .returned (.tuple #[.agg #[.int .i64 p.1.k,.bool p.1.yes,.bool p.1.neg,.slice A p.1.xs.length c,.int .u64 (p.1.bits:Int),.string p.1.s,.slice none 0 0],.int .i64 p.2])∧Own w' w.heap.size A c p.1.xs∧Below w.heap.size w w'
noncomputable def vb (v:PV):Int:=num v.cn v.cx
noncomputable def fZ (v:PV):Nat×Int:=if v.k=3 then (v.bits,0) else (Zy (vb v),ofE (vb v))
theorem vwq {v:PV} (hb:v.bits<18446744073709551616):(fZ v).1<18446744073709551616:=by
 unfold fZ;split
 · exact hb
 · show Zy _<_
   unfold Zy;split
   · decide
   · exact (vtv _).lt
theorem aD1 {i:Int} (h:i.natAbs<av^30):(vI i).xs.length≤1048576:=by
 have:=zt h;show (limbs i).length≤_
 omega
theorem Qu {v:PV} (hg:v.good=true) (hk:v.k=1∨v.k=2):(vb v).natAbs<av^30:=(PV.canon hg hk).2.2
theorem PV.aSq {v:PV} (h:v.good=true) (hk:v.k=1∨v.k=2):zm v.cn v.cx=true:=by
 obtain ⟨h1,h2,h3⟩:=PV.canon h hk;have h4:=vh h3;rw[←h1,←h2] at h4;exact h4
section
attribute [local irreducible] OW RS CW EW
def Ten (w:World):Prop:=∃cs,w.var? prog "internal/strconv.pow10Tab" =some cs∧cs[728]? =some (.int .u64 10240000000000000000)∧cs[729]? =some (.int .u64 0)
section
variable (w:World) (base:Nat) (A:Option Addr) (c:Nat) (HB:base≤w.heap.size) (ho:w.ownsRow base 5 1 (.slice A 0 c) 0 [])
include HB ho
end
section
variable (w:World) (hT:∀b,Below w.heap.size w b→Ten b) (hD:∀b,Below w.heap.size w b→iC b)
include hT hD
end
end
section
attribute [local irreducible] OW RS CW EW
theorem XD {P:Prop} (h:P:=by
 refine qc ?_;exact ⟨by rw[pV,iH,if_pos h,if_pos h];rfl,aP LW E ak⟩):P:=h
theorem XE {P:Prop} (h:P:=by
 refine qc ?_;exact ⟨by rw[Zz,iH,if_pos h,if_pos h];rfl,aP LW E ak⟩):P:=h
theorem XF {P:Prop} (h:P:=by
 refine zp ?_;exact ⟨by rw[←hm1,oo,if_neg hcn,hd1,if_neg (by rw[hzd];decide),qW.bare,vek,if_pos hu];rfl,aP LW E ak⟩):P:=h
theorem XG {P:Prop} (h:P:=by
 refine zp ?_;exact ⟨by rw[←hm1,oo,if_neg hcn,hd1,if_neg (by rw[hzd];decide),vek,if_neg (by rw[hu];decide),zek (zok (by rw[←hd1];exact hdn.1)).1];rfl,aP LW E ak⟩):P:=h
theorem XH {P:Prop} (h:P:=by
 refine ye ?_;refine za rfl (QO rfl rfl (Bh ha hb) (za rfl (gh rfl rfl (vdz (Nat.xor_lt_two_pow (n:=64) om om)) (yk ?_))));exact ⟨by rw[←hm1,oo,if_neg hcn,hd1,if_pos hzd,Ua,←wm de,Nat.zero_or];rfl,aP LW E ak⟩):P:=h
noncomputable def Zz (a b:Nat):Nat:=if dU b then 0 else oo a b
noncomputable def pV (a b:Nat):Nat:=if dU b then 0 else fB a b
section
variable (w:World)
section
variable (a b:Nat) (ha:a<18446744073709551616) (hb:b<18446744073709551616)
include ha hb
theorem Et:Calls prog 125 #[.int .u64 ((a:Nat):Int),.int .u64 ((b:Nat):Int)] w (aF w (.tuple #[.int .u64 ((Zz a b:Nat):Int),.int .i64 (iH b)])):=by
 refine zd func125 rfl ntmps125 rfl ?_;have LW:=aC (No) w;have ak:=aN (No) w;have E:=aC (No) w;refine qc ?_;refine zyx ?_;refine yiv ?_;refine yr 12 (.bool (dU b)) rfl (by rw[gl]<;>rfl) (zf rfl (fun h=>?_) (fun h=>?_))
 ·
  exact XE
 ·
  refine zn ?_;refine xm ?_;refine aK ?_;refine za rfl (ze ao0 rfl ((lD _ a b ha hb h).mono ?_));rintro e w1 ⟨q,m,rfl,hq,hm,hb⟩;refine ⟨_,rfl,?_⟩;replace E:=yK E hb;clear hb;refine zv ?_;refine zb FZ (ycx _ q) E fun w2 E=>(zo ?_);exact ⟨by rw[Zz,iH,if_neg (by rw[h];decide),if_neg (by rw[h];decide),hq];rfl,aP LW E ak⟩
theorem Po:Calls prog 126 #[.int .u64 ((a:Nat):Int),.int .u64 ((b:Nat):Int)] w (aF w (.tuple #[.int .u64 ((pV a b:Nat):Int),.int .i64 (iH b)])):=by
 refine zd func126 rfl ntmps126 rfl ?_;have LW:=aC (No) w;have ak:=aN (No) w;have E:=aC (No) w;refine qc ?_;refine zyx ?_;refine yiv ?_;refine yr 12 (.bool (dU b)) rfl (by rw[gl]<;>rfl) (zf rfl (fun h=>?_) (fun h=>?_))
 ·
  exact XD
 ·
  refine zn ?_;refine xm ?_;refine aK ?_;refine za rfl (ze ao0 rfl ((lD _ a b ha hb h).mono ?_));rintro e w1 ⟨q,m,rfl,hq,hm,hb⟩;refine ⟨_,rfl,?_⟩;replace E:=yK E hb;clear hb;refine zv ?_;refine zb FZ (ycx _ m) E fun w2 E=>(zo ?_);exact ⟨by rw[pV,iH,if_neg (by rw[h];decide),if_neg (by rw[h];decide),hm];rfl,aP LW E ak⟩
section
variable (hz:dU b=false)
include hz
theorem XJ (hf:rg a<9218868437227405312) (hn:aW b=false):Calls prog 170 #[.int .u64 ((a:Nat):Int),.int .u64 ((b:Nat):Int)] w (aF w (.int .u64 ((dH a b:Nat):Int))):=by
 have hb0:rg b≠0:=of_decide_eq_false hz;by_cases ha0:rg a=0
 · have e:dH a b=a:=by rw[dH,rF ha0,←ha0];exact znq ha
   rw[e];exact kS w a b ha hb (.inr ha0)
 · by_cases hq:rg b=9218868437227405312
   · have e:dH a b=a:=by rw[dH,gK,if_pos hq];exact znq ha
     rw[e];exact kS w a b ha hb (.inl hq)
   · have h1:=of_decide_eq_false hn;rcases Nat.lt_or_ge (ex (rg a)) (ex (rg b)) with h | h
     · exact BI w a b ha hb ha0 hb0 hf om h
     · exact BG w a b ha hb ha0 hb0 hf om h
theorem XK (hc:kn a b=true):Calls prog 139 #[.int .u64 ((a:Nat):Int),.int .u64 ((b:Nat):Int)] w (aF w (.tuple #[.int .u64 ((oo a b:Nat):Int),.int .u64 ((fB a b:Nat):Int)])):=by
 have _:=hz;have hF:oo a b=9221120237041090560:=by rw[oo,if_pos hc]
 have hM:fB a b=9221120237041090560:=by rw[fB,if_pos hc]
 rw[hF,hM];refine zd func139 rfl ntmps139 rfl ?_;have LW:=aC (No) w;have ak:=aN (No) w;have E:=aC (No) w;refine zv ?_;refine zb FY (zoq _ a ha) E fun w1 E=>(aK ?_);refine zy 12 rfl (fun h1=>?_) (fun h1=>?_)
 ·
  refine jI ?_;exact xq
 ·
  refine aK ?_;refine zb FY (zoq _ b hb) E fun w2 E=>(zi ?_);refine zy 16 rfl (fun h2=>?_) (fun h2=>?_)
  ·
   refine xf ?_;exact xq
  ·
   refine aK ?_;refine zb qL (zxx _ a ha) E fun w3 E=>(vf 18 rfl (by rw[kn,h1,h2,Bool.false_or] at hc;rw[←hc];rfl) (ja ?_));exact xq
section
variable (hf:rg a<9218868437227405312) (hn:aW b=false)
include hf hn
theorem XM:Calls prog 139 #[.int .u64 ((a:Nat):Int),.int .u64 ((b:Nat):Int)] w (aF w (.tuple #[.int .u64 ((oo a b:Nat):Int),.int .u64 ((fB a b:Nat):Int)])):=by
 have h0:rg b≠0:=of_decide_eq_false hz;have hcn:¬kn a b=true:=by rw[kn,qp hf,hn,decide_eq_false om];decide
 have hdn:=GV ha hf hn h0;have hmz:=UQ hf h0;obtain ⟨p1,p2,p3⟩:=yaq hf h0;have hd0:=GU ha hf hn h0;refine zd func139 rfl ntmps139 rfl ?_;have LW:=aC (No) w;have ak:=aN (No) w;have E:=aC (No) w;refine zv ?_;refine zb FY (zoq _ a ha) E fun w1 E=>(yu 11 rfl (by rw[qp hf]<;>rfl) (zi ?_));refine zb FY (zoq _ b hb) E fun w2 E=>(yu 14 rfl (by rw[hn]<;>rfl) (zr ?_));refine zb qL (zxx _ a ha) E fun w3 E=>(yu 18 rfl (by rw[decide_eq_false om]<;>rfl) (zv ?_));refine zb aJ1 (XJ _ a b ha hb hz hf hn) E fun w4 E=>(zp ?_);refine zb awz (qox _ a (dH a b) p3) E fun w5 E=>(zk 26 (.int .u64 ((vY a b:Nat):Int)) rfl (by rw[vY]<;>rfl) (aK ?_));refine zb aHj (kG _ (vY a b) b hb) E fun w6 E=>(zk 28 (.tuple #[.int .u64 ((cO a b:Nat):Int),.int .i64 (iH b)]) rfl (by rw[pz,if_neg (by rw[hz];decide),cO]) (vp ?_));refine zb Zb (xe _ (dH a b) p3) E fun w7 E=>(zk 33 (.bool (decide (gK a b=0))) rfl (by rw[hmz]<;>rfl) (zr ?_));refine zf rfl (fun hm0=>?_) (fun hm0=>?_)
 ·
  have hm0:=of_decide_eq_true hm0;have dh:¬Ke a b=true:=by rw[Ke,hm0];simp
  have hd1:Bv a b=cO a b:=by rw[Bv,if_neg dh]
  have hm2:(if ng b then 9223372036854775808 else 0:Nat)=fB a b:=by rw[fB,if_neg hcn,if_pos hm0,←wm de,Nat.zero_or]
  refine zi ?_;refine za rfl (gh rfl rfl (vdz hb) (zk 35 (.int .u64 ((fB a b:Nat):Int)) rfl (by rw[hm2]<;>rfl) ?_));have hm1:fB a b=fB a b:=rfl;refine yk ?_;refine zb Zb (xe _ (cO a b) (by rw[←hd1];exact hdn.2)) E fun w8 E=>(zi ?_);refine zf rfl (fun hzd=>?_) (fun hzd=>?_)
  ·
   exact XH
  ·
   refine zn ?_;refine zb P9 (ku _ (cO a b)) E fun w9 E=>(zb vqk (zxz _ (cO a b) (by rw[←hd1];exact hdn.1)) E fun dI E=>(zp ?_));refine zb P9 (ku _ (cO a b)) E fun dV E=>(aK ?_);refine qtq ?_;intro r dB hr;have Ec:=hr.ext;replace E:=E.trans Ec.no;refine zsx ?_;refine yr 62 (.bool (upB (cO a b))) rfl (by rw[rU hr]<;>rfl) (zf rfl (fun hu=>?_) (fun hu=>?_))
   ·
    refine quk ?_;intro r5 dS qW;have Ec:=qW.ext;replace E:=E.trans Ec.no;refine zo ?_;refine zb vqv (xr _ r5 qW.GH) E fun cZ E=>?_;exact XF
   ·
    refine zn ?_;refine zb vqv (xr _ (gz .down (cO a b)) (zok (by rw[←hd1];exact hdn.1)).2) E fun dQ E=>?_;exact XG
 ·
  have hm0:=of_decide_eq_false hm0;refine zr ?_;refine zb anj (vrv _ (dH a b) p3) E fun w16 E=>(zk 38 (.bool (ng a)) rfl (by rw[p2]<;>rfl) (aK ?_));refine zb anj (vrv _ b hb) E fun fI E=>(za rfl (qyz u4 rfl rfl (zr ?_)));refine zf rfl (fun hfl=>?_) (fun hfl=>?_)
  ·
   have dh:Ke a b=true:=by rw[Ke,decide_eq_true hm0,hfl];rfl
   have hd1:Bv a b=ji (aR .sub (cO a b) 4607182418800017408):=by rw[Bv,if_pos dh]
   have hm1:ji (aR .add (dH a b) b)=fB a b:=by rw[fB,if_neg hcn,if_neg hm0,if_pos dh]
   refine ye ?_;refine zb awq (qok _ (dH a b) b) E fun rT E=>(zn ?_);refine Zj ?_;refine zb awz (qox _ (cO a b) 4607182418800017408 de) E fun fC E=>(yk ?_);refine zb Zb (xe _ (ji (aR .sub (cO a b) 4607182418800017408)) (by rw[←hd1];exact hdn.2)) E fun wL E=>(zi ?_);refine zf rfl (fun hzd=>?_) (fun hzd=>?_)
   ·
    exact XH
   ·
    refine zn ?_;refine zb P9 (ku _ (ji (aR .sub (cO a b) 4607182418800017408))) E fun wW E=>(zb vqk (zxz _ (ji (aR .sub (cO a b) 4607182418800017408)) (by rw[←hd1];exact hdn.1)) E fun NP E=>(zp ?_));refine zb P9 (ku _ (ji (aR .sub (cO a b) 4607182418800017408))) E fun wN E=>(aK ?_);refine Cq ?_;intro r w24 hr;have Ec:=hr.ext;replace E:=E.trans Ec.no;refine zsx ?_;refine yr 62 (.bool (upB (ji (aR .sub (cO a b) 4607182418800017408)))) rfl (by rw[rU hr]<;>rfl) (zf rfl (fun hu=>?_) (fun hu=>?_))
    ·
     refine Co ?_;intro r5 Hr qW;have Ec:=qW.ext;replace E:=E.trans Ec.no;refine zo ?_;refine zb vqv (xr _ r5 qW.GH) E fun w26 E=>?_;exact XF
    ·
     refine zn ?_;refine zb vqv (xr _ (gz .down (ji (aR .sub (cO a b) 4607182418800017408))) (zok (by rw[←hd1];exact hdn.1)).2) E fun w27 E=>?_;exact XG
  ·
   have dh:¬Ke a b=true:=by rw[Ke,hfl,Bool.and_false];decide
   have hd1:Bv a b=cO a b:=by rw[Bv,if_neg dh]
   have hm1:dH a b=fB a b:=by rw[fB,if_neg hcn,if_neg hm0,if_neg dh]
   refine zp ?_;refine zb Zb (xe _ (cO a b) (by rw[←hd1];exact hdn.2)) E fun w28 E=>(zi ?_);refine zf rfl (fun hzd=>?_) (fun hzd=>?_)
   ·
    exact XH
   ·
    refine zn ?_;refine zb P9 (ku _ (cO a b)) E fun w29 E=>(zb vqk (zxz _ (cO a b) (by rw[←hd1];exact hdn.1)) E fun Qs E=>(zp ?_));refine zb P9 (ku _ (cO a b)) E fun w31 E=>(aK ?_);refine qtq ?_;intro r w32 hr;have Ec:=hr.ext;replace E:=E.trans Ec.no;refine zsx ?_;refine yr 62 (.bool (upB (cO a b))) rfl (by rw[rU hr]<;>rfl) (zf rfl (fun hu=>?_) (fun hu=>?_))
    ·
     refine quk ?_;intro r5 w33 qW;have Ec:=qW.ext;replace E:=E.trans Ec.no;refine zo ?_;refine zb vqv (xr _ r5 qW.GH) E fun w34 E=>?_;exact XF
    ·
     refine zn ?_;refine zb vqv (xr _ (gz .down (cO a b)) (zok (by rw[←hd1];exact hdn.1)).2) E fun w35 E=>?_;exact XG
end
end
theorem Eu (hz:dU b=false):Calls prog 139 #[.int .u64 ((a:Nat):Int),.int .u64 ((b:Nat):Int)] w (aF w (.tuple #[.int .u64 ((oo a b:Nat):Int),.int .u64 ((fB a b:Nat):Int)])):=by
 cases hc:kn a b with
 | true=>exact XK w a b ha hb hz hc
 | false=>
  rw[kn] at hc;simp only[Bool.or_eq_false_iff,decide_eq_false_iff_not] at hc
  have h1:=of_decide_eq_false hc.1.1;exact XM w a b ha hb hz om hc.1.2
theorem yB:Calls prog 82 #[.int .u64 ((a:Nat):Int),.int .u64 ((b:Nat):Int)] w (aF w (.tuple #[.int .u64 ((Zz a b:Nat):Int),.int .i64 (iH b)])):=by
 refine zd func82 rfl ntmps82 rfl ?_;have LW:=aC (No) w;have ak:=aN (No) w;have E:=aC (No) w;refine zv ?_;refine zb Zb (xe _ b hb) E fun w1 E=>(zi ?_);refine zf rfl (fun h=>?_) (fun h=>?_)
 ·
  exact XE
 ·
  refine zo ?_;refine zb an9 (Eu _ a b ha hb h) E fun w2 E=>(nW ?_);exact ⟨by rw[Zz,iH,if_neg (by rw[h];decide),if_neg (by rw[h];decide)];rfl,aP LW E ak⟩
theorem Jh:Calls prog 83 #[.int .u64 ((a:Nat):Int),.int .u64 ((b:Nat):Int)] w (aF w (.tuple #[.int .u64 ((pV a b:Nat):Int),.int .i64 (iH b)])):=by
 refine zd func83 rfl ntmps83 rfl ?_;have LW:=aC (No) w;have ak:=aN (No) w;have E:=aC (No) w;refine zv ?_;refine zb Zb (xe _ b hb) E fun w1 E=>(zi ?_);refine zf rfl (fun h=>?_) (fun h=>?_)
 ·
  exact XD
 ·
  refine zo ?_;refine zb an9 (Eu _ a b ha hb h) E fun w2 E=>(nW ?_);exact ⟨by rw[pV,iH,if_neg (by rw[h];decide),if_neg (by rw[h];decide)];rfl,aP LW E ak⟩
end
end
theorem Ev {P Q:Prop} (k:Q) (h:(Unit→Q)→P:=by
 intro zK;refine zr ?_;refine za rfl (oJ rfl rfl (xb (n:=0) (xS neg) de) (za rfl (vq (b:=dY neg ||| 0) jK rfl (qc ?_))));refine zyq ?_;exact zK ()):P:=h fun _=>k
theorem zyq {P Q:Prop} (k:Q) (h:(Unit→Q)→P:=by
 intro zK;refine ks (rs:=[.tmp 2,.tmp 3,.tmp 4]) (vs:=[_,_,_]) rfl ⟨rfl,rfl,rfl,trivial⟩ ?_;exact zK ()):P:=h fun _=>k
theorem aSz (neg:Bool):IntKind.u64.wrap (((Qj neg:Nat):Int)*2^(min (63:Int).toNat IntKind.u64.bits))=((dY neg:Nat):Int):=by
 cases neg<;>decide +kernel
section
variable (w:World) {bp op cp bf of cf bl ol cl:Nat}
theorem yD (s:ByteArray) (h:48≤aL s 0∧aL s 0≤57):Calls prog 249 #[.string s,.string ⟨#[105,110,102,105,110,105,116,121]⟩] w (aF w (.int .i64 0)):=by
 have hs:0<s.size:=IQ om;refine zd func249 rfl ntmps249 rfl ?_;have LW:=aC (No) w;have ak:=aN (No) w;have E:=aC (No) w;refine yk ?_;refine vm ?_;refine aK ?_;refine vm ?_;refine za rfl (Q6 rfl rfl (zv ?_));refine ZN (yk ?_);refine qm 15 rfl ((by rw[decide_eq_true (by split<;>omega)]:(.bool (decide (0<(if (s.size:Int)<8 then (s.size:Int) else 8))):Value)=_)) (qc ?_);refine za rfl (qd (j:=0) (b:=aL s 0) u9 rfl rfl rfl (vr hs) (qc ?_));refine yu 23 rfl (by rw[decide_eq_false om]<;>rfl) (ja ?_);refine za rfl (qd (j:=0) (b:=105) u9 rfl rfl rfl kr (zr ?_));refine qm 33 rfl (by rw[bne_iff_ne.2 om]<;>rfl) (kh ?_);exact xq
theorem Ew (s:ByteArray) (h45:aL s 0=45) (h:48≤aL s 1∧aL s 1≤57):Calls prog 215 #[.string s] w (aF w (.tuple #[.float .f64 0,.int .i64 0,.bool false])):=by
 have hs:1<s.size:=IQ om;refine zd func215 rfl ntmps215 rfl ?_;have LW:=aC (No) w;have ak:=aN (No) w;have E:=aC (No) w;refine yv ?_;refine vm ?_;refine zr ?_;refine zw 10 rfl (by rw[gq om]<;>rfl) (ou ?_);refine qtk ?_;refine zk 12 (.int .u8 45) rfl (by rw[h45];rfl) (aL0 ?_);refine qtk ?_;refine zk 23 (.int .u8 45) rfl (by rw[h45];rfl) (xf ?_);refine za rfl (vjx (l:=1) (h:=s.size) u9 rfl ⟨_,rfl⟩ rfl om om (yk ?_));refine zb aK1 (yD _ (s.extract 1 s.size) (by rw[D6];exact h)) E fun w1 E=>(aoz ?_);exact VW
theorem Ey (s:ByteArray) (f:Nat) (neg:Bool) (hsg:dO s f neg) (h:48≤aL s f∧aL s f≤57):Calls prog 215 #[.string s] w (aF w (.tuple #[.float .f64 0,.int .i64 0,.bool false])):=by
 rcases hsg with ⟨_,rfl⟩ | ⟨_,rfl,h45⟩
 · exact pR w s (aL s 0) (vr (IQ om)) h
 · exact Ew w s h45 h
theorem XR (s:ByteArray) (f:Nat) (neg:Bool) {p Z q:Nat} (hsg:dO s f neg) (hs:Nm s f p Z q) (hl:s.size<100000) (hT:bV bp op cp bf of cf bl ol cl w):Calls prog 201 #[.string s] w (aF w (.tuple #[.float .f64 (iI s f neg),.int .i64 (s.size:Int),mE s f neg])):=by
 have hfd:=hs.first;have hmm:=Wo hs;refine zj func201 ntmps201 fun HF LW ak E=>?_;replace HF:=HF.and (Per.tabs hT (fun _ h=>h.elim));refine yv ?_;refine zb aJ9 (Ey _ s f neg hsg hfd) E fun w1 E=>(quv ?_);refine zb aJq (OU _ s f neg hsg hs hl) E fun w2 E=>(aL4 ?_);refine za rfl (jo u4 rfl rfl (HF.on E).here.2.opt (zo ?_));refine zb Rv (Ir _ neg) E fun w3 E=>(za rfl (ki rfl rfl de (aSz neg) (zv ?_)));refine yr 69 (.bool (decide (iA s f=0))) rfl (by rw[IY]<;>rfl) (zf rfl (fun h1=>?_) (fun h1=>?_))
 ·
  have h1:=of_decide_eq_true h1;refine Ev ?_;exact ⟨by rw[show iI s f neg=dY neg ||| 0 by unfold iI;rw[if_pos h1],show mE s f neg= .nilIface by unfold mE;rw[if_pos h1]];rfl,aP LW E ak⟩
 ·
  have h1:=of_decide_eq_false h1;refine qc ?_;refine zf rfl (fun h2=>?_) (fun h2=>?_)
  ·
   have h2:=of_decide_eq_true h2;refine zr ?_;refine za rfl (oJ rfl rfl (xb (n:=9218868437227405312) (xS neg) de) (za rfl (vq (b:=dY neg ||| 9218868437227405312) jK rfl (aK ?_))));refine za rfl (FN kr rfl (yk ?_));refine zyq ?_;exact ⟨by rw[show iI s f neg=dY neg ||| 9218868437227405312 by unfold iI;rw[if_neg h1,if_pos h2],show mE s f neg=dL by unfold mE;rw[if_neg h1,if_pos h2]];rfl,aP LW E ak⟩
  ·
   have h2:=of_decide_eq_false h2;refine qc ?_;refine zf rfl (fun h3=>?_) (fun h3=>?_)
   ·
    have h3:=of_decide_eq_true h3;refine Ev ?_;exact ⟨by rw[show iI s f neg=dY neg ||| 0 by unfold iI;rw[if_neg h1,if_neg h2,if_pos h3],show mE s f neg= .nilIface by unfold mE;rw[if_neg h1,if_neg h2,if_pos h3]];rfl,aP LW E ak⟩
   ·
    have h3:=of_decide_eq_false h3;refine qc ?_;replace HF:=HF.on E;replace LW:=LW.step E ak;replace E:=aC (No) w3;refine yy (ι:=Unit) (fun _=>[(0,.string s),(3,.int .i64 (s.size:Int)),(4,.nilIface),(8,.int .u64 ((iA s f:Nat):Int)),(9,.int .i64 (DC s f)),(11,.bool (OT s f)),(16,.int .u64 ((dY neg:Nat):Int))]) (fun _ w'=>Ext (No) w3 w'∧(¬(OT s f=false∧(xO (iA s f) (DC s f) neg).2=true))) ?_ ?_
    ·
     have M4:=aC (No) w3;have XM4:=aN (No) w3;refine zf rfl (fun h5=>?_) (fun h5=>?_)
     ·
      have h5:OT s f=false:=by simpa using h5
      refine zn ?_;refine zb aJj (OJ _ (iA s f) (DC s f) neg om (HF.on E).here.2) E fun w6 E=>(vp ?_);refine zf rfl (fun h6=>?_) (fun h6=>?_)
      ·
       refine vp ?_;refine zyq ?_;exact ⟨by rw[show iI s f neg=(xO (iA s f) (DC s f) neg).1 by unfold iI;rw[if_neg h1,if_neg h2,if_neg h3,if_pos ⟨h5,h6⟩],show mE s f neg= .nilIface by unfold mE;rw[if_neg h1,if_neg h2,if_neg h3,if_pos ⟨h5,h6⟩]];rfl,aP LW E ak⟩
      ·
       refine aK ?_;exact yn () ⟨rfl,rfl,rfl,rfl,rfl,rfl,rfl,trivial⟩ ⟨M4.step E XM4,fun h=>absurd h.2 (by rw[h6];decide)⟩
     ·
      refine aK ?_;exact yn () ⟨rfl,rfl,rfl,rfl,rfl,rfl,rfl,trivial⟩ ⟨M4.step E XM4,fun h=>absurd h5 (by rw[h.1];decide)⟩
    ·
     rintro _ w5 ⟨M4,h4⟩;replace E:=E.trans M4;replace HF:=HF.on E;replace LW:=LW.step E ak;replace E:=aC (No) w5;have hj:3≤DJ s f∧DJ s f≤658:=by unfold DJ;omega
     refine zn ?_;refine zk 101 (.int .i64 (((DJ s f:Nat):Int)-348)) rfl (by congr 1;unfold DJ;omega) (zb ao4 (C9 _ (iA s f) (DJ s f) (dY neg) om hj (xS neg) (HF.on E).here.2.pow) E fun w7 E=>(kh ?_));refine zf rfl (fun h5=>?_) (fun h5=>?_)
     ·
      have h5:OT s f=false:=by simpa using h5
      refine ja ?_;refine zyq ?_;exact ⟨by rw[show iI s f neg=vbx (iA s f) (DJ s f) (dY neg) by unfold iI;rw[if_neg h1,if_neg h2,if_neg h3,if_neg h4,if_pos (.inl h5)];try rfl,show mE s f neg=vbz (iA s f) (DJ s f) (dY neg) by unfold mE;rw[if_neg h1,if_neg h2,if_neg h3,if_neg h4,if_pos (.inl h5)];try rfl];rfl,aP LW E ak⟩
     ·
      have h5:¬OT s f=false:=fun e=>absurd h5 (by rw[e];decide);refine zn ?_;refine TW ?_;refine zi ?_;refine zk 113 (.int .u64 ((iA s f+1:Nat):Int)) rfl (rfl) (zk 114 (.int .i64 (((DJ s f:Nat):Int)-348)) rfl (by congr 1;unfold DJ;omega) (zb ao4 (C9 _ (iA s f+1) (DJ s f) (dY neg) om hj (xS neg) (HF.on E).here.2.pow) E fun w8 E=>(yv ?_)));refine oe ?_;refine zi ?_;refine zf rfl (fun h6=>?_) (fun h6=>?_)
      ·
       have h6:atL s f neg=true:=h6;refine vp ?_;refine zyq ?_;exact ⟨by rw[show iI s f neg=vbx (iA s f) (DJ s f) (dY neg) by unfold iI;rw[if_neg h1,if_neg h2,if_neg h3,if_neg h4,if_pos (.inr h6)];try rfl,show mE s f neg=vbz (iA s f) (DJ s f) (dY neg) by unfold mE;rw[if_neg h1,if_neg h2,if_neg h3,if_neg h4,if_pos (.inr h6)];try rfl];rfl,aP LW E ak⟩
      ·
       have h6:¬(OT s f=false∨atL s f neg=true):=fun h=>h.elim h5 (fun h=>by rw[show atL s f neg=false from h6] at h;cases h);have hdec:=ah7 neg hs;have bbq:=ai8 neg hs hl;refine ye ?_;refine za rfl (kt aRz ?_);intro gc w9 Bc Ec Gc;replace Bc:aB w9 gc 229 (yo (xR false)):=Bc;have Gc:_≤gc:=Nat.le_trans E.size Gc;have GLc:=Nat.le_trans LW.size Gc;replace E:=E.trans Ec.no;replace HF:=HF.cons (gu Gc);replace E:=E.cons (some gc);replace ak:=aj.grow ak (fun k e=>Or.inr (Nat.le_trans LW.size ((gu Gc) k e)));have hg:=hT.below.le GLc;refine zp ?_;refine za rfl (vjx (l:=0) (h:=s.size) u9 rfl rfl ⟨_,rfl⟩ (Nat.zero_le _) (Nat.le_refl _) (zk 127 (.string s) rfl (by rw[extract_all]<;>rfl) (za rfl (ze aJz rfl ((ai6 _ gc s f neg hsg hs hl Bc).mono ?_)))));rintro e dI ⟨rfl,hB,hE⟩;refine ⟨_,rfl,?_⟩;replace Bc:=hB;clear hB;replace E:=E.step1 hE aj.head;clear hE;refine yk ?_;refine za rfl (ze aJx rfl ((Xd _ gc (fq s f neg) hdec bbq Bc (HF.on E).here.2 hg).mono ?_));rintro e dV ⟨rfl,⟨t9,hB⟩,hE⟩;refine ⟨_,rfl,?_⟩;replace Bc:=hB;clear hB;replace E:=E.step1 hE aj.head;clear hE;refine zv ?_;refine za rfl (vq (b:=KV (fq s f neg)) jK rfl (qc ?_));refine zf rfl (fun h7=>?_) (fun h7=>?_)
       ·
        refine aK ?_;refine za rfl (FN kr rfl (kh ?_));refine zyq ?_;exact ⟨by rw[show iI s f neg=KV (fq s f neg) by unfold iI;rw[if_neg h1,if_neg h2,if_neg h3,if_neg h4,if_neg h6],show mE s f neg=dL by unfold mE;rw[if_neg h1,if_neg h2,if_neg h3,if_neg h4,if_neg h6,if_pos h7]];rfl,aP LW E ak⟩
       ·
        refine ja ?_;refine zyq ?_;exact ⟨by rw[show iI s f neg=KV (fq s f neg) by unfold iI;rw[if_neg h1,if_neg h2,if_neg h3,if_neg h4,if_neg h6],show mE s f neg= .nilIface by unfold mE;rw[if_neg h1,if_neg h2,if_neg h3,if_neg h4,if_neg h6,if_neg (by rw[h7];decide)]];rfl,aP LW E ak⟩
theorem yE (s:ByteArray) (f:Nat) (neg:Bool) {p Z q:Nat} (hsg:dO s f neg) (hs:Nm s f p Z q) (hl:s.size<100000) (hT:bV bp op cp bf of cf bl ol cl w):Calls prog 186 #[.string s,.int .i64 64] w (aF w (.tuple #[.float .f64 (iI s f neg),.int .i64 (s.size:Int),mE s f neg])):=by
 refine zd func186 rfl ntmps186 rfl ?_;have LW:=aC (No) w;have ak:=aN (No) w;have E:=aC (No) w;refine quv ?_;refine zb aJ5 (XR _ s f neg hsg hs hl hT) E fun w1 E=>(qc ?_);refine ks (rs:=[.tmp 4,.tmp 5,.tmp 6]) (vs:=[_,_,_]) rfl ⟨rfl,rfl,rfl,trivial⟩ ?_;exact xq
theorem Pv (s:ByteArray) (f:Nat) (neg:Bool) {p Z q:Nat} (hsg:dO s f neg) (hs:Nm s f p Z q) (hl:s.size<100000) (hT:bV bp op cp bf of cf bl ol cl w):Calls prog 155 #[.string s,.int .i64 64] w (aF w (.tuple #[.float .f64 (iI s f neg),mE s f neg])):=by
 refine zd func155 rfl ntmps155 rfl ?_;have LW:=aC (No) w;have ak:=aN (No) w;have E:=aC (No) w;refine zv ?_;refine zb aJ3 (yE _ s f neg hsg hs hl hT) E fun w1 E=>(kh ?_);refine vm ?_;refine zr ?_;refine zw 19 rfl (by simp) (ja ?_);exact xq
theorem nH (s:ByteArray) (f:Nat) (neg:Bool) {p Z q:Nat} (hsg:dO s f neg) (hs:Nm s f p Z q) (hl:s.size<100000) (hT:bV bp op cp bf of cf bl ol cl w) (hE:∃te pe,w.cell? ⟨4,0,none⟩=some (.iface te pe)):Calls prog 102 #[.string s,.int .i64 64] w fun e w'=>(∃er,e= .returned (.tuple #[.float .f64 (iI s f neg),er]))∧Below w.heap.size w w':=by
 obtain ⟨te,pe,hE⟩:=hE;have hor:=aBz s f neg;obtain ⟨er,her⟩:∃er,er=mE s f neg:=⟨_,rfl⟩;rw[←her] at hor;refine zj func102 ntmps102 fun HF LW ak E=>?_;replace HF:=HF.and (Per.bY hE (fun _ h=>h.elim));refine zv ?_;refine zb aIx (Pv _ s f neg hsg hs hl hT) E fun w1 E=>?_;rw[←her];by_cases hn:er= .nilIface
 ·
  subst hn;refine yv ?_;refine za rfl (ZP u83 rfl (kh ?_));exact ⟨⟨_,rfl⟩,aP LW E ak⟩
 ·
  obtain rfl:er=dL:=hor.resolve_left hn;refine yv ?_;refine za rfl (ai7 u83 rfl (qc ?_));refine za rfl (ze aIz rfl ((O6 _ s 0 64 _ hl ⟨te,pe,(HF.on E).here.2⟩).mono ?_));rintro e w2 ⟨⟨er2,rfl⟩,hb⟩;refine ⟨_,rfl,?_⟩;replace E:=yK E hb;refine zp ?_;exact ⟨⟨_,rfl⟩,aP LW E ak⟩
end
theorem Jj (w:World) (g off:Nat) (dk:Array UInt8) (n:Nat):Ext (aj [some g]) w ((Sort.putRow (fun (b:UInt8)=>Value.int .u8 (b.toNat:Int)) w g off dk).drewN n):=by
 refine ⟨rfl,rfl,rfl,?_,?_⟩
 · simp[Sort.putRow,Sort.mapBlock,World.drewN]
 · intro i hi hx;have hne:g≠i:=fun e=>hx (Or.inl (congrArg some e.symm));simp[Sort.putRow,Sort.mapBlock,World.drewN,Array.getElem?_modify,hne]
theorem Ez (i:Nat) (h:i<100) (w:World):Calls prog 202 #[.int .i64 i] w fun e w'=>e= .returned (.string ⟨(Lib.decDigits i).toArray⟩)∧Below w.heap.size w w':=
 (Tryz.internal_strconv_small i h w).mono fun _ _ ⟨a,b⟩=>⟨a,b▸Below.refl _ _⟩
theorem Px (u:Nat) (hu:u<100) (w:World):Calls prog 187 #[.int .u64 u,.int .i64 10] w (aF w (.string ⟨(Lib.decDigits u).toArray⟩)):=by
 have hd:decide (((u:Nat):Int)<100)=true:=decide_eq_true om;refine zd func187 rfl ntmps187 rfl ?_;have LW:=aC (No) w;have ak:=aN (No) w;have E:=aC (No) w;refine quv ?_;refine qm 12 rfl (by rw[hd]<;>rfl) (ye ?_);refine yxk ?_;refine zb aJ6 (Ez u hu _) E fun w1 E=>(zp ?_);exact xq
theorem yF (u:Nat) (h1:1≤u) (h2:u<18446744073709551616) (w:World) (htab:Lib.TabIs prog w "internal/strconv.uint64pow10" .u64 Lib.pow10Tab):Calls prog 203 #[.int .u64 u] w fun e w'=>e= .returned (.int .i64 ((Lib.nDigits u:Nat):Int))∧Below w.heap.size w w':=
 (Tryz.internal_strconv_numDigits u h1 h2 w htab).mono fun _ _ ⟨a,b⟩=>⟨a,b▸Below.refl _ _⟩
theorem aj3 (u:Nat) (hu:100≤u) (hu64:u<18446744073709551616) (w:World) (g:Nat) (hB0:aB w g 201 (Array.replicate 24 (.int .u8 0))) :
 Calls prog 204 #[.slice (some ⟨g,0,none⟩) (Lib.nDigits u) 24,.int .u64 u] w fun e w'=>e= .returned (.tuple #[])∧ ∃cs,aB w' g 201 cs∧Ext (aj [some g]) w w'∧ ∀j (hj:j<(Lib.decDigits u).length),w'.cell? ⟨g,0+j,none⟩=some (.int .u8 ((Lib.decDigits u)[j].toNat:Int)):=by
 have bbz:Lib.nDigits u≤20:=by have:=Lib.numDigits_eq u om hu64;split at this<;>omega
 have hsz:(Array.replicate (Lib.nDigits u) (0:UInt8)).size=Lib.nDigits u:=by simp
 have hH:Sort.Holds (fun (b:UInt8)=>Value.int .u8 (b.toNat:Int)) w g 0 (Array.replicate (Lib.nDigits u) 0):=by
  intro j hj;rw[hsz] at hj;have bbx:j<24:=om;refine ⟨?_,?_⟩
  · rw[hB0.cell];simp[hj,bbx]
  · unfold World.frozen?;simp[show w.heap[g]? =some (.cells (Array.replicate 24 (.int .u8 0)) 201 (0,0)) from hB0]
 have h:=Tryz.internal_strconv_formatBase10 g 0 24 u (Array.replicate (Lib.nDigits u) 0) w hH (by rw[hsz];exact Lib.lt_pow_nDigits u) hu64 (by rw[hsz];omega);rw[hsz] at h;refine h.mono fun e w' ⟨he,n,v',dk,hw,hF⟩=>⟨he,?_⟩;have hdk:dk.size=Lib.nDigits u:=hF.size;subst hw;refine ⟨Sort.putCells (fun (b:UInt8)=>Value.int .u8 (b.toNat:Int)) 0 dk (Array.replicate 24 (.int .u8 0)),?_,Jj w g 0 dk n,fun j hj=>?_⟩
 · show (Array.modify w.heap g _)[g]? =_
   rw[Array.getElem?_modify,if_pos rfl,show w.heap[g]? =some (.cells (Array.replicate 24 (.int .u8 0)) 201 (0,0)) from hB0];rfl
 · have hjn:j<Lib.nDigits u:=by rw[Lib.decDigits_length] at hj;exact hj
   rw[Lib.row_is_numeral hF j hj,World.cell?_drewN];exact Sort.cell?_putRow (fun (b:UInt8)=>Value.int .u8 (b.toNat:Int)) w g 0 _ dk hH (by rw[hdk,hsz]) j (by rw[hdk];exact hjn)
theorem aj4 (u:Nat) (hu:100≤u) (hu64:u<18446744073709551616) (w:World) (htab:∀b,Below w.heap.size w b→Lib.TabIs prog b "internal/strconv.uint64pow10" .u64 Lib.pow10Tab):Calls prog 187 #[.int .u64 u,.int .i64 10] w (aF w (.string ⟨(Lib.decDigits u).toArray⟩)):=by
 have hd:decide (((u:Nat):Int)<100)=false:=decide_eq_false om;refine zd func187 rfl ntmps187 rfl ?_;have LW:=aC (No) w;have ak:=aN (No) w;have E:=aC (No) w;refine quv ?_;refine zw 12 rfl (by rw[hd]<;>rfl) (zn ?_);refine za rfl (kt aG8 ?_);intro aO w2 aT Uy yQ;have yQ:_≤aO:=Nat.le_trans E.size yQ;have aP9:=Nat.le_trans LW.size yQ;replace E:=E.trans Uy.no;replace E:=E.cons (some aO);replace ak:=aj.grow ak (fun k e=>Or.inr (Nat.le_trans LW.size ((gu yQ) k e)));refine zn ?_;refine zh aJ7 (yF u om hu64 _ (htab _ (LW.step E ak).toBelow)) E aT fun w3 E aT=>(zo ?_);have bbz:Lib.nDigits u≤20:=by have:=Lib.numDigits_eq u om hu64;split at this<;>omega
 refine za rfl (qF underlying201 gF rfl rfl om (aK ?_));refine za rfl (ze aJ8 rfl ((aj3 u hu hu64 _ aO aT).mono ?_));rintro e w4 ⟨rfl,cs1,hB,hE,hcs⟩;refine ⟨_,rfl,?_⟩;replace aT:=hB;clear hB;replace E:=E.step1 hE aj.head;clear hE;refine zn ?_;refine za rfl (qF underlying201 gF rfl rfl om ?_);have hlen:(Lib.decDigits u).length=Lib.nDigits u:=Lib.decDigits_length u;refine za rfl (qak (l:=Lib.decDigits u) (A:=some ⟨aO,0,none⟩) (c:=24) u46 u5 u9 (by rw[hlen];rfl) (fun _↦⟨aO,0,rfl,hcs⟩) (zo ?_));exact ⟨rfl,aP LW E ak⟩
theorem aj5 (u:Nat) (hu64:u<18446744073709551616) (w:World) (htab:∀b,Below w.heap.size w b→Lib.TabIs prog b "internal/strconv.uint64pow10" .u64 Lib.pow10Tab):Calls prog 187 #[.int .u64 u,.int .i64 10] w (aF w (.string ⟨(Lib.decDigits u).toArray⟩)):=by
 rcases Nat.lt_or_ge u 100 with h | h
 · exact Px u h w
 · exact aj4 u h hu64 w htab
theorem aSx {P:Prop} (h:P:=by
 refine yr 4 (.int .i64 (((limbs i).length:Int)-1-((0:Nat):Int))) rfl (by simp) ?_;replace HF:=HF.on E;replace LW:=LW.step E ak;replace E:=aC (No) w3;refine qw (ι:=Nat) (fun k=>[(1,.pointer (some ⟨aO,0,none⟩)),(3,.string ⟨(xk i k).toArray⟩),(4,.int .i64 (((limbs i).length:Int)-1-(k:Int)))]) (fun k w'=>Ext (No) w3 w'∧(k≤(limbs i).length)) (fun k=>(limbs i).length-k) 0 ⟨rfl,rfl,rfl,trivial⟩ ⟨Ext.refl _ _,Nat.zero_le _⟩ ?_;rintro k w5 ⟨M4,hk⟩;have XM4:=aN (No) w3;replace E:=E.trans M4;replace HF:=HF.on E;replace LW:=LW.step E ak;replace E:=aC (No) w5;refine zp ?_;refine zf rfl (fun q=>?_) (fun q=>?_)
 ·
  have q:=of_decide_eq_true q;obtain ⟨m,hm⟩:∃m,m=i.natAbs/av^((limbs i).length-1-k)%av:=⟨_,rfl⟩;have hm18:m<av:=by rw[hm];exact Nat.mod_lt _ (by unfold av;omega)
  have ab0:m<18446744073709551616:=by unfold av at hm18;omega
  have hnd:=ny hm18;have hlt:=Jd (i:=i) hk hl2;have hdl:=Lib.decDigits_length m;refine qc ?_;refine za rfl (jk (j:=(limbs i).length-1-k) u22 zP rfl rfl om om ?_);obtain ⟨b9,o9,hA9,_,hc9⟩:=((HF.on E).here.1.2).2 hpos;obtain ⟨rfl,rfl⟩:b9=bx∧o9=ox:=by simpa using hA9.symm
  have hc8:=hc9 ((limbs i).length-1-k) om;rw[Xy,←hm] at hc8;refine za rfl (jo u25 rfl rfl hc8 (zb aJ0 (bbj m ab0 _ (ht.below (LW.step E ak).toBelow)) E fun w6 E=>(zv ?_)));refine za rfl (jn rfl rfl (yt om) (zr ?_));refine zf rfl (fun h2=>?_) (fun h2=>?_)
  ·
   have h2:=of_decide_eq_true h2;have hk0:0<k:=om;refine zi ?_;refine za rfl (qyk u9 rfl (zk 36 (.int .i64 ((Lib.nDigits m:Nat):Int)) rfl (by rw[ytv,hdl]) (za rfl (vjx (l:=Lib.nDigits m) (h:=18) u9 rfl ⟨_,rfl⟩ rfl hnd (Nat.le_refl _) (zk 37 (.string ⟨(List.replicate (18-Lib.nDigits m) (48:UInt8)).toArray⟩) rfl (by rw[EA]<;>rfl) (aK ?_))))));refine za rfl (qhz rfl rfl (by rw[ytv,ytv,List.length_replicate,hdl];omega) (zk 39 (.string ⟨(List.replicate (18-Lib.nDigits m) (48:UInt8)++Lib.decDigits m).toArray⟩) rfl (by rw[Jk]<;>rfl) (zo ?_)));refine za rfl (qhz rfl rfl (by rw[ytv,ytv,List.length_append,List.length_replicate,hdl];omega) (zk 42 (.string ⟨(xk i (k+1)).toArray⟩) rfl (by rw[Jk,hm,vox hk0 om]<;>rfl) (zo ?_)));refine za rfl (jn rfl rfl (yt om) (zi ?_));refine qf 4 (.int .i64 (((limbs i).length:Int)-1-((k+1:Nat):Int))) rfl ((by rw[show ((limbs i).length:Int)-1-(k:Int)-1=((limbs i).length:Int)-1-((k+1:Nat):Int) from om]:(.int .i64 ((((limbs i).length:Int)-1-(k:Int))-1):Value)=_)) ?_;exact zx (k+1) (by show (limbs i).length-(k+1)<(limbs i).length-k;omega) ⟨rfl,rfl,rfl,trivial⟩ ⟨M4.step E XM4,(by omega:k+1≤(limbs i).length)⟩
  ·
   have h2:=of_decide_eq_false h2;have hk0:k=0:=om;have hone:xk i k++Lib.decDigits m=xk i (k+1):=by rw[hm,hk0];exact nA hpos
   refine zn ?_;refine za rfl (qhz rfl rfl (by rw[ytv,ytv,hdl];omega) (zk 42 (.string ⟨(xk i (k+1)).toArray⟩) rfl (by rw[Jk,hone]<;>rfl) (zo ?_)));refine za rfl (jn rfl rfl (yt om) (zi ?_));refine qf 4 (.int .i64 (((limbs i).length:Int)-1-((k+1:Nat):Int))) rfl ((by rw[show ((limbs i).length:Int)-1-(k:Int)-1=((limbs i).length:Int)-1-((k+1:Nat):Int) from om]:(.int .i64 ((((limbs i).length:Int)-1-(k:Int))-1):Value)=_)) ?_;exact zx (k+1) (by show (limbs i).length-(k+1)<(limbs i).length-k;omega) ⟨rfl,rfl,rfl,trivial⟩ ⟨M4.step E XM4,(by omega:k+1≤(limbs i).length)⟩
 ·
  have q:=of_decide_eq_false q;obtain rfl:k=(limbs i).length:=om;refine ja ?_;exact ⟨by rw[Jc hpos];rfl,aP LW E ak⟩):P:=h
def Tab (w:World):Prop:=∀b,Below w.heap.size w b→Lib.TabIs prog b "internal/strconv.uint64pow10" .u64 Lib.pow10Tab
theorem Tab.below {w w':World} (h:Tab w) (hb:Below w.heap.size w w'):Tab w':=fun b hb'=>h b (hb.trans (hb'.mono hb.size))
theorem ytv (l:List UInt8):(⟨l.toArray⟩:ByteArray).size=l.length:=by simp[ByteArray.size]
theorem Jk (a b:List UInt8):(⟨a.toArray⟩:ByteArray)++ ⟨b.toArray⟩= ⟨(a++b).toArray⟩:=by
 apply ByteArray.ext
 rw[ByteArray.data_append];simp
theorem aD3 (a:List UInt8) (l h:Nat):(⟨a.toArray⟩:ByteArray).extract l h= ⟨((a.take h).drop l).toArray⟩:=by
 apply ByteArray.ext
 rw[ByteArray.data_extract];apply Array.ext'
 simp[List.extract,List.drop_take]
theorem EA {n:Nat}:(⟨#[48,48,48,48,48,48,48,48,48,48,48,48,48,48,48,48,48,48]⟩:ByteArray).extract n 18= ⟨(List.replicate (18-n) (48:UInt8)).toArray⟩:=by
 have h:=aD3 (List.replicate 18 48) n 18;rw[List.take_of_length_le (by simp),List.drop_replicate] at h;exact h
theorem bbj (u:Nat) (hu64:u<18446744073709551616) (w:World) (ht:Tab w):Calls prog 160 #[.int .u64 u,.int .i64 10] w (aF w (.string ⟨(Lib.decDigits u).toArray⟩)):=by
 refine zd func160 rfl ntmps160 rfl ?_;have LW:=aC (No) w;have ak:=aN (No) w;have E:=aC (No) w;refine qc ?_;refine zb aJ4 (aj5 u hu64 _ (ht.below (LW.step E ak).toBelow)) E fun w1 E=>?_;exact Qg
section
variable (i:Int) (A:Option Addr) (c:Nat) (w:World) (hi:i.natAbs<av^30) (hx:aA w A (limbs i)) (ht:Tab w)
include hi hx ht
theorem Py (h0:i=0):Calls prog 110 #[.agg #[.bool (decide (i<0)),.slice A (limbs i).length c]] w (aF w (.string ⟨(Lib.itoa i).toArray⟩)):=by
 have _:=ht;have hl:((limbs i).length:Int)=0:=by rw[h0,qt];rfl
 refine zj func110 ntmps110 fun HF LW ak E=>?_;replace HF:=HF.and (Per.aD hx);refine zi ?_;refine zg HF LW E ak fun aO w2 HF LW E=>?_;refine zp ?_;refine zb oP (E9 A c _ hi (HF.on E).here.1.2) E fun w3 E=>(xf ?_);refine qm 12 rfl (by rw[hl];rfl) ?_;exact Xw
theorem XU (hn:i<0):Calls prog 110 #[.agg #[.bool (decide (i<0)),.slice A (limbs i).length c]] w (aF w (.string ⟨(Lib.itoa i).toArray⟩)):=by
 have hpos:=zwx (j:=i) om;have hl:((limbs i).length:Int)≠0:=om;have hl2:=zt hi;have hdi:decide (i<0)=true:=decide_eq_true hn;obtain ⟨bx,ox,rfl,hbx,hcx⟩:=hx.2 hpos;refine zj func110 ntmps110 fun HF LW ak E=>?_;replace HF:=HF.and (Per.aD hx);refine zi ?_;refine zg HF LW E ak fun aO w2 HF LW E=>?_;refine zp ?_;refine zb oP (E9 _ c _ hi (HF.on E).here.1.2) E fun w3 E=>(xf ?_);refine zw 12 rfl (by rw[beq_eq_false_iff_ne.2 hl]<;>rfl) (xf ?_);refine qm 14 rfl (by rw[hdi]<;>rfl) (yv ?_);refine yp ?_;refine ye ?_;refine yr 3 (.string ⟨(xk i 0).toArray⟩) rfl (by rw[ywv,if_pos hn]<;>rfl) ?_;exact aSx
theorem XV (hn:0<i):Calls prog 110 #[.agg #[.bool (decide (i<0)),.slice A (limbs i).length c]] w (aF w (.string ⟨(Lib.itoa i).toArray⟩)):=by
 have hpos:=zwx (j:=i) om;have hl:((limbs i).length:Int)≠0:=om;have hl2:=zt hi;have hdi:decide (i<0)=false:=decide_eq_false om;obtain ⟨bx,ox,rfl,hbx,hcx⟩:=hx.2 hpos;refine zj func110 ntmps110 fun HF LW ak E=>?_;replace HF:=HF.and (Per.aD hx);refine zi ?_;refine zg HF LW E ak fun aO w2 HF LW E=>?_;refine zp ?_;refine zb oP (E9 _ c _ hi (HF.on E).here.1.2) E fun w3 E=>(xf ?_);refine zw 12 rfl (by rw[beq_eq_false_iff_ne.2 hl]<;>rfl) (xf ?_);refine zw 14 rfl (by rw[hdi]<;>rfl) (qc ?_);refine yp ?_;refine ye ?_;refine yr 3 (.string ⟨(xk i 0).toArray⟩) rfl (by rw[ywv,if_neg om]<;>rfl) ?_;exact aSx
theorem aSj:Calls prog 110 #[.agg #[.bool (decide (i<0)),.slice A (limbs i).length c]] w (aF w (.string ⟨(Lib.itoa i).toArray⟩)):=by
 rcases Int.lt_trichotomy i 0 with h | h | h
 · exact XU i A c w hi hx ht h
 · exact Py i A c w hi hx ht h
 · exact XV i A c w hi hx ht h
end
theorem XW {P:Prop} (h:P:=by
 have h:=of_decide_eq_true h;refine qc ?_;exact ⟨by unfold Zy ofE;rw[if_pos h,if_pos h];rfl,aP LW E ak⟩):P:=h
section
variable (w:World) {bp op cp bf of cf bl ol cl:Nat}
theorem aD4 (n1:Bool) (A:Option Addr) (c:Nat) (xs:List Nat) (hl:xs.length≤9223372036854775807) (hx:aA w A xs) (hg:zm n1 xs=false):Calls prog 98 #[.agg #[.bool n1,.slice A xs.length c]] w (aF w (.tuple #[.int .u64 0,.int .i64 3])):=by
 refine zj func98 ntmps98 fun HF LW ak E=>?_;replace HF:=HF.and (Per.aD hx);refine zi ?_;refine zg HF LW E ak fun aO w2 HF LW E=>?_;refine yk ?_;refine zb oP (yf _ c _ A xs hl (HF.on E).here.1.2) E fun w3 E=>(yu 7 rfl (by rw[hg]<;>rfl) (ja ?_));exact xq
theorem aj6 (i:Int) (A:Option Addr) (c:Nat) (hi:i.natAbs<av^30) (hx:aA w A (limbs i)) (hD:∀b,Below w.heap.size w b→iC b) (hT:bV bp op cp bf of cf bl ol cl w) (hE:∃te pe,w.cell? ⟨4,0,none⟩=some (.iface te pe)):Calls prog 98 #[.agg #[.bool (decide (i<0)),.slice A (limbs i).length c]] w (aF w (.tuple #[.int .u64 ((Zy i:Nat):Int),.int .i64 (ofE i)])):=by
 obtain ⟨te,pe,hE⟩:=hE;refine zj func98 ntmps98 fun HF LW ak E=>?_;replace HF:=HF.and (Per.aD hx);replace HF:=HF.and (Per.tabs hT (fun _ h=>h.elim));replace HF:=HF.and (Per.bY hE (fun _ h=>h.elim));refine zi ?_;refine zg HF LW E ak fun aO w2 HF LW E=>?_;refine yk ?_;refine zb oP (E9 _ c _ hi (HF.on E).here.1.1.1.2) E fun w3 E=>(qc ?_);refine zb aI3 (aSj i A c _ hi (HF.on E).here.1.1.1.2 (later hD (LW.step E ak).toBelow)) E fun w4 E=>(za rfl (ze an4 rfl ((nH _ (Je i) (Pn i) (decide (i<0)) (Xz i) (XA i) (Lc hi) (HF.on E).here.1.1.2 ⟨te,pe,(HF.on E).here.1.2⟩).mono ?_)));rintro e w5 ⟨⟨er,rfl⟩,hb⟩;refine ⟨_,rfl,?_⟩;replace E:=yK E hb;clear hb;refine yv ?_;refine zb yM (vg _ (ofN i) (vtv i).lt) E fun w6 E=>(zi ?_);refine zf rfl (fun h=>?_) (fun h=>?_)
 ·
  exact XW
 ·
  have h:=of_decide_eq_false h;refine zn ?_;refine zb FZ (ycx _ (ofN i)) E fun w7 E=>(zo ?_);exact ⟨by unfold Zy ofE;rw[if_neg h,if_neg h,XB];rfl,aP LW E ak⟩
theorem XY (n1:Bool) (A:Option Addr) (c:Nat) (xs:List Nat) (hl:xs.length≤9223372036854775807) (hx:aA w A xs) (hg:zm n1 xs=false):Calls prog 107 #[.agg #[.bool n1,.slice A xs.length c]] w (aF w (.tuple #[.int .u64 0,.int .i64 3])):=by
 refine zj func107 ntmps107 fun HF LW ak E=>?_;replace HF:=HF.and (Per.aD hx);refine zi ?_;refine zg HF LW E ak fun aO w2 HF LW E=>?_;refine yk ?_;refine zb aw8 (vhk _ c _ A xs hl (HF.on E).here.1.2) E fun w3 E=>(yu 8 rfl (by rw[hg]<;>rfl) (ja ?_));exact xq
theorem Pz (i:Int) (A:Option Addr) (c:Nat) (hi:i.natAbs<av^30) (hx:aA w A (limbs i)) (hT:bV bp op cp bf of cf bl ol cl w) (hE:∃te pe,w.cell? ⟨4,0,none⟩=some (.iface te pe)):Calls prog 107 #[.agg #[.bool (decide (i<0)),.slice A (limbs i).length c]] w (aF w (.tuple #[.int .u64 ((Zy i:Nat):Int),.int .i64 (ofE i)])):=by
 obtain ⟨te,pe,hE⟩:=hE;refine zj func107 ntmps107 fun HF LW ak E=>?_;replace HF:=HF.and (Per.aD hx);replace HF:=HF.and (Per.tabs hT (fun _ h=>h.elim));replace HF:=HF.and (Per.bY hE (fun _ h=>h.elim));refine zi ?_;refine zg HF LW E ak fun aO w2 HF LW E=>?_;refine yk ?_;refine zb aw8 (az4 _ c _ hi (HF.on E).here.1.1.1.2) E fun w3 E=>(qc ?_);refine zzz aI1 (aY7 _ c _ hi (HF.on E).here.1.1.1.2) HF LW E ak (fun o=>Per.eO o aj.none_) fun A2 c2 w4 HF LW E=>(zb aIj (Pj i A2 c2 _ hi (HF.on E).here.2) E fun w5 E=>(za rfl (ze an4 rfl ((nH _ (Je i) (Pn i) (decide (i<0)) (Xz i) (XA i) (Lc hi) (HF.on E).here.1.1.1.2 ⟨te,pe,(HF.on E).here.1.1.2⟩).mono ?_))));rintro e w6 ⟨⟨er,rfl⟩,hb⟩;refine ⟨_,rfl,?_⟩;replace E:=yK E hb;clear hb;refine zv ?_;refine Zj ?_;refine zp ?_;refine zb qL (zxx _ (ofN i) (vtv i).lt) E fun w7 E=>(zi ?_);refine zf rfl (fun h=>?_) (fun h=>?_)
 ·
  exact XW
 ·
  have h:=of_decide_eq_false h;refine yv ?_;exact ⟨by unfold Zy ofE;rw[if_neg h,if_neg h];rfl,aP LW E ak⟩
noncomputable def wV (a:Nat):Int:=if aW a then 0 else if rg a=9218868437227405312 then 0 else oi a
noncomputable def wE (a:Nat):Int:=if aW a then 1 else if rg a=9218868437227405312 then 7 else 0
theorem aj7 (n1:Bool) (A:Option Addr) (c:Nat) (xs:List Nat) (hl:xs.length≤9223372036854775807) (hx:aA w A xs) (V:Nat) (F:Int) (hV:V=(if zm n1 xs then Zy (num n1 xs) else 0)) (hF:F=(if zm n1 xs then ofE (num n1 xs) else 3)) (hD:∀b,Below w.heap.size w b→iC b) (hT:bV bp op cp bf of cf bl ol cl w) (hE:∃te pe,w.cell? ⟨4,0,none⟩=some (.iface te pe)):Calls prog 98 #[.agg #[.bool n1,.slice A xs.length c]] w (aF w (.tuple #[.int .u64 ((V:Nat):Int),.int .i64 F])):=by
 subst hV;subst hF;cases hg:zm n1 xs with
 | false=>exact aD4 w n1 A c xs hl hx hg
 | true=>
  obtain ⟨i,rfl,rfl,hi⟩:=vaz hg;rw[if_pos rfl,if_pos rfl,jr];exact aj6 w i A c hi hx hD hT hE
theorem PD (n1:Bool) (A:Option Addr) (c:Nat) (xs:List Nat) (hl:xs.length≤9223372036854775807) (hx:aA w A xs) (V:Nat) (F:Int) (hV:V=(if zm n1 xs then Zy (num n1 xs) else 0)) (hF:F=(if zm n1 xs then ofE (num n1 xs) else 3)) (hT:bV bp op cp bf of cf bl ol cl w) (hE:∃te pe,w.cell? ⟨4,0,none⟩=some (.iface te pe)):Calls prog 107 #[.agg #[.bool n1,.slice A xs.length c]] w (aF w (.tuple #[.int .u64 ((V:Nat):Int),.int .i64 F])):=by
 subst hV;subst hF;cases hg:zm n1 xs with
 | false=>exact XY w n1 A c xs hl hx hg
 | true=>
  obtain ⟨i,rfl,rfl,hi⟩:=vaz hg;rw[if_pos rfl,if_pos rfl,jr];exact Pz w i A c hi hx hT hE
end
theorem EB {P Q:Prop} (k:Q) (h:(Unit→Q)→P:=by
 intro zK;refine zr ?_;refine ks (rs:=[.cell 2 28]) (vs:=[_]) rfl ⟨⟨_,rfl,ypq u28 rfl qj (HF.on E).here.2 rfl⟩,trivial⟩ ?_;exact zK ()):P:=h fun _=>k
theorem XZ {P:Prop} (h:P:=by
 rw[if_pos hk] at hV hf;subst hV hf;refine zi ?_;refine zg HF LW E ak fun aO w2 HF LW E=>?_;refine vp ?_;refine qm 6 rfl (sw hk) (vp ?_);exact xq):P:=h
section
variable (w:World) (ua:PV) (A1 B1:Option Addr) (c1 d1:Nat) (hx:aA w A1 ua.xs) (hl:ua.xs.length≤9223372036854775807) (ha:ua.bits<18446744073709551616)
include hx hl ha
omit hx hl in
theorem Lh (b:Nat) (hb0:b<18446744073709551616):Calls prog 47 #[.int .u64 ((b:Nat):Int)] w (aF w (.agg #[.int .i64 3,.bool false,.bool false,.slice none 0 0,.int .u64 ((qu b:Nat):Int),.string ⟨#[]⟩,.slice none 0 0])):=by
 have _:=ha;refine zj func47 ntmps47 fun HF LW ak E=>?_;refine zi ?_;refine yb ko HF LW E ak fun aO w2 aT yQ HF E ak=>(zn ?_);refine zh aH2 (ru _ b) E aT fun w3 E aT=>(zh aH2 (ru _ (qu (qg b))) E aT fun w4 E aT=>(za rfl (qz (cs:=#[.int .i64 3,.bool false,.bool false,.slice none 0 0,.int .u64 ((qu (qg (qu (qg b))):Nat):Int),.string ⟨#[]⟩,.slice none 0 0]) nU ko rfl rfl (yi qj aT E aj.head fun w5 aT E=>?_))));obtain ⟨HF,LW,ak,E⟩:=d9 HF LW E ak (Y:=No) (aj.skip aj.bI) (Per.bH aT au.nil);refine EB ?_;exact ⟨by rw[N9 hb0];rfl,aP LW E ak⟩
variable {bp op cp bf of cf bl ol cl:Nat} (hD:∀b,Below w.heap.size w b→iC b) (aV:bV bp op cp bf of cf bl ol cl w) (hE:∃te pe,w.cell? ⟨4,0,none⟩=some (.iface te pe))
include hD aV hE
theorem qxv (hg:ua.good=true) (hn:og ua.k=true) (V:Nat) (f:Int) (hV:V=(fZ ua).1) (hf:f=(fZ ua).2):Calls prog 49 #[bG ua A1 c1 B1 d1] w (aF w (.tuple #[.int .u64 ((V:Nat):Int),.int .i64 f])):=by
 obtain ⟨te,pe,hE⟩:=hE;have _:=ha;have hkk:=qhq hn;have hcl:=PV.wZ hl;unfold fZ at hV hf;refine zj func49 ntmps49 fun HF LW ak E=>?_;replace HF:=HF.and (Per.aD hx);replace HF:=HF.and (Per.tabs aV (fun _ h=>h.elim));replace HF:=HF.and (Per.bY hE (fun _ h=>h.elim));by_cases hk:ua.k=3
 ·
  exact XZ
 ·
  have hk2:ua.k=1∨ua.k=2:=om;have hgc:=PV.aSq hg hk2;rw[if_neg hk] at hV hf;refine zi ?_;refine zg HF LW E ak fun bM w4 HF LW E=>?_;refine vp ?_;refine zw 6 rfl (sw hk) (zo ?_);refine za rfl (ze gY rfl ((zzk _ ua A1 B1 c1 d1).mono ?_));rintro e w5 ⟨A3,c3,rfl,hN,hb⟩;refine ⟨_,rfl,?_⟩;have XC:∀q9,(No) q9→q9<w4.heap.size:=aj.none_;replace E:=yK E hb;obtain ⟨HF,LW,E⟩:=dG HF LW E ak (Zm hN XC);refine zb aW5 (aj7 _ ua.cn A3 c3 ua.cx hcl (((HF.on E).here.2).nums (HF.on E).here.1.1.1.1.2) V f (by rw[hV,if_pos hgc];rfl) (by rw[hf,if_pos hgc];rfl) (later hD (LW.step E ak).toBelow) (HF.on E).here.1.1.1.2 ⟨te,pe,(HF.on E).here.1.1.2⟩) E fun w6 E=>?_;exact ytx
end
section
variable (w:World)
def signed (s:ByteArray):Bool:=decide (aL s 0=45)
def bcx (s:ByteArray):Nat:=if aL s 0=45 then 1 else 0
end
noncomputable def prX (s:ByteArray):ByteArray:=s.extract (bcx s) s.size
noncomputable def au4 (s:ByteArray):Bool:=(prX s).toList==(⟨#[105,110,102]⟩:ByteArray).toList
noncomputable def au5 (s:ByteArray):Bool:=(prX s).toList==(⟨#[110,97,110]⟩:ByteArray).toList
noncomputable def prV (s:ByteArray):Nat:=
 if 1000<s.size then 0
 else if au4 s then dY (signed s)+9218868437227405312
 else if au5 s then 9221120237041090560
 else if aQx (prX s) 0 then dY (signed s)+iI (prX s) 0 false
 else 0
noncomputable def prE (s:ByteArray):Int:=
 if 1000<s.size then 2
 else if au4 s then 0
 else if au5 s then 0
 else if aQx (prX s) 0 then 0
 else 4
section
variable (w:World) {bp op cp bf of cf bl ol cl:Nat}
end
end
noncomputable def unP (op:Int) (v:PV):PV×Int:=
 if v.good then (if og v.k&&(op==1 || op==2) then (if v.k=3 then (vFl (if op=1 then qu (qg v.bits) else qu v.bits),0) else (vI (if op=2 then vb v else -vb v),0)) else (vZ,9)) else (vZ,3)
noncomputable def bgq (v:PV):PV×Int:=
 if v.good then (if v.k=1∨v.k=2 then (vI (vb v),0)
  else if v.k=3 then (if wE v.bits=0 then (vI (wV v.bits),0) else (vZ,wE v.bits))
  else if v.k=4 then (if aS8 (as9 v.s.data.toList)=0 then (vI (aS7 (aS9 v.s.data.toList) (as9 v.s.data.toList)),0) else (vZ,4))
  else (vZ,9)) else (vZ,3)
noncomputable def bgz (v:PV):PV×Int:=
 if v.good then (if og v.k then (if (fZ v).2=0 then (vFl (qu (fZ v).1),0) else (vZ,(fZ v).2))
  else if v.k=4 then (if prE v.s=0 then (vFl (qu (prV v.s)),0) else (vZ,4)) else (vZ,9)) else (vZ,3)
section
attribute [local irreducible] OW RS CW EW
section
variable (w:World) (v:PV) (A B:Option Addr) (c d:Nat) (hx:aA w A v.xs) (hy:aA w B v.xs) (hl:v.xs.length≤1048576)
include hx hy hl
theorem aE6:Calls prog 14 #[.agg #[.int .i64 v.k,.bool v.yes,.bool v.neg,.slice A v.xs.length c,.int .u64 (v.bits:Int),.string v.s,.slice none 0 0],.agg #[.int .i64 v.k,.bool v.yes,.bool v.neg,.slice B v.xs.length d,.int .u64 (v.bits:Int),.string v.s,.slice none 0 0]] w (aF w (.bool true)):=by
 refine zj func14 ntmps14 fun HF LW ak E=>?_;replace HF:=HF.and (Per.aD hx);replace HF:=HF.and (Per.aD hy);refine zi ?_;refine zg HF LW E ak fun aO w2 HF LW E=>(zg HF LW E ak fun bM w4 HF LW E=>?_);refine vp ?_;refine yu 11 rfl (by simp) (ye ?_);refine bZ rfl (qyz u4 rfl rfl (zi ?_));refine yu 18 rfl (by simp) (zp ?_);refine yu 25 rfl (by simp) (ye ?_);refine bZ rfl (qgv rfl rfl (zi ?_));refine yu 32 rfl (by simp) (aK ?_);refine bZ rfl (iP u24 rfl oc rfl (HF.on E).here.1.2 rfl rfl (aK ?_));refine bZ rfl (iP u24 rfl oc rfl (HF.on E).here.2 rfl rfl (zb aH4 (lQ v.neg v.xs▸qX A B c d v.xs v.xs _ v.neg v.neg (HF.on E).here.1.1.1.2 (HF.on E).here.1.1.2 hl hl) E fun w5 E=>(CO ?_)));refine ZN (zp ?_);refine zk 52 (.int .i64 0) rfl (by kernel_rfl:(.int .i64 (0:Nat):Value)=_) (nW ?_);exact xq
theorem Yn (f:Int):Calls prog 9 #[.agg #[.int .i64 v.k,.bool v.yes,.bool v.neg,.slice A v.xs.length c,.int .u64 (v.bits:Int),.string v.s,.slice none 0 0],.int .i64 f,.agg #[.int .i64 v.k,.bool v.yes,.bool v.neg,.slice B v.xs.length d,.int .u64 (v.bits:Int),.string v.s,.slice none 0 0],.int .i64 f] w (aF w (.bool true)):=by
 refine zj func9 ntmps9 fun HF LW ak E=>?_;replace HF:=HF.and (Per.aD hx);replace HF:=HF.and (Per.aD hy);refine zi ?_;refine zg HF LW E ak fun aO w2 HF LW E=>(zg HF LW E ak fun bM w4 HF LW E=>?_);refine zp ?_;refine zb aGz (aE6 _ v A B c d (HF.on E).here.1.1.1.2 (HF.on E).here.1.1.2 hl) E fun w5 E=>(ye ?_);refine vf 15 rfl (by simp:(.bool (f==f):Value)=_) ?_;exact qdq
end
section
variable (w:World) (ua:PV) (A1 B1:Option Addr) (c1 d1:Nat) (hx:aA w A1 ua.xs) (hl:ua.xs.length≤9223372036854775807) (ha:ua.bits<18446744073709551616)
include hx hl ha
end
section
variable (bs r:List UInt8) (w:World)
end
section
variable (w:World)
end
section
variable (w:World) (ua:PV) (A1 B1:Option Addr) (c1 d1:Nat) (hx:aA w A1 ua.xs) (hl:ua.xs.length≤9223372036854775807) (ha:ua.bits<18446744073709551616)
include hx hl ha
variable {bp op cp bf of cf bl ol cl:Nat} (hD:∀b,Below w.heap.size w b→iC b) (aV:bV bp op cp bf of cf bl ol cl w) (hE:∃te pe,w.cell? ⟨4,0,none⟩=some (.iface te pe))
include hD aV hE
end
theorem Jo {K J:Int} (h:J= -K):ah J=ah K:=by rw[h,qa,qa,Int.natAbs_neg]
theorem ak1 {w:World} (A:Option Addr) (c:Nat) (K:Int) (hl:(ah K).length≤1048576) (J:Int) (hJ:J= -K):Calls prog 52 #[.agg #[.bool (decide (K<0)),.slice A (ah K).length c]] w (aF w (.agg #[.bool (decide (J<0)),.slice A (ah J).length c])):=by
 rw[Jo hJ,hJ];exact NJ A c K w hl
section
variable (w:World) (ua:PV) (A1 B1:Option Addr) (c1 d1:Nat) (hx:aA w A1 ua.xs) (hl:ua.xs.length≤9223372036854775807) (ha:ua.bits<18446744073709551616) (hg:ua.good=true)
include hx hl ha hg
variable {bp op cp bf of cf bl ol cl:Nat} (aV:bV bp op cp bf of cf bl ol cl w) (hE:∃te pe,w.cell? ⟨4,0,none⟩=some (.iface te pe))
include aV hE
theorem Lj (hn:og ua.k=true) (V:Nat) (f:Int) (hV:V=(fZ ua).1) (hf:f=(fZ ua).2):Calls prog 55 #[bG ua A1 c1 B1 d1] w (aF w (.tuple #[.int .u64 ((V:Nat):Int),.int .i64 f])):=by
 obtain ⟨te,pe,hE⟩:=hE;have _:=ha;have _:=hl;have hkk:=qhq hn;unfold fZ at hV hf;refine zj func55 ntmps55 fun HF LW ak E=>?_;replace HF:=HF.and (Per.aD hx);replace HF:=HF.and (Per.tabs aV (fun _ h=>h.elim));replace HF:=HF.and (Per.bY hE (fun _ h=>h.elim));by_cases hk:ua.k=3
 ·
  exact XZ
 ·
  have hk2:ua.k=1∨ua.k=2:=om;obtain ⟨K,hK⟩:∃K,K=vb ua:=⟨_,rfl⟩;have hcan:=(PV.canon hg hk2).2.2;have hKb:K.natAbs<av^30:=by rw[hK];exact hcan
  have htl:(ah K).length≤1048576:=by have:=(yix K).2 hKb;omega
  have hgc:=vh hKb;have hll:=zt hKb;rw[if_neg hk,←hK] at hV hf;refine zi ?_;refine zg HF LW E ak fun bM w4 HF LW E=>?_;refine vp ?_;refine zw 6 rfl (sw hk) (zo ?_);refine zzz Rm (yyv _ ua A1 B1 c1 d1 (HF.on E).here.1.1.1.2 hg K hK hk2) HF LW E ak (fun o=>Per.eO o aj.none_) fun A3 c3 w5 HF LW E=>(zzz aH7 (J3 A3 c3 K _ (HF.on E).here.2 htl) HF LW E ak (fun o=>Per.bK o aj.none_) fun A4 c4 w6 HF LW E=>(zb aI2 (PD _ (decide (K<0)) A4 c4 (limbs K) om ((HF.on E).here.2).nums V f (by rw[hV,if_pos hgc,jr]) (by rw[hf,if_pos hgc,jr]) (HF.on E).here.1.1.1.1.2 ⟨te,pe,(HF.on E).here.1.1.1.2⟩) E fun w7 E=>?_));exact ytx
end
section
variable (w:World) (ua ub:PV) (A1 B1 A2 B2:Option Addr) (c1 d1 c2 d2:Nat) (hx:aA w A1 ua.xs) (hl:ua.xs.length≤9223372036854775807) (ha:ua.bits<18446744073709551616) (hy:aA w A2 ub.xs) (hl':ub.xs.length≤9223372036854775807) (hb0:ub.bits<18446744073709551616)
include hx hl hy hl'
omit hy hl' in
theorem nO (r:Bool) (hr:PV.good ua=r):Calls prog 12 #[bG ua A1 c1 B1 d1] w (aF w (.bool r)):=by
 subst hr;exact Ih w ua.k ua.yes ua.neg A1 B1 ua.xs c1 ua.bits ua.ni d1 ua.s hx hl
theorem YJ (g1:ua.good=false):Calls prog 8 #[bG ua A1 c1 B1 d1,bG ub A2 c2 B2 d2] w (aF w (.bool false)):=by
 have _:=hx;have _:=hl;have _:=hy;have _:=hl';refine zj func8 ntmps8 fun HF LW ak E=>?_;replace HF:=HF.and (Per.aD hx);replace HF:=HF.and (Per.aD hy);refine zi ?_;refine zg HF LW E ak fun aO w2 HF LW E=>(zg HF LW E ak fun bM w4 HF LW E=>?_);refine zo ?_;refine zb aw5 (nO _ ua A1 B1 c1 d1 (HF.on E).here.1.1.1.2 hl false g1) E fun w5 E=>(qc ?_);exact xq
theorem YK (g1:ua.good=true) (r:Bool) (g2:ub.good=r):Calls prog 8 #[bG ua A1 c1 B1 d1,bG ub A2 c2 B2 d2] w (aF w (.bool r)):=by
 have _:=hx;have _:=hl;have _:=hy;have _:=hl';refine zj func8 ntmps8 fun HF LW ak E=>?_;replace HF:=HF.and (Per.aD hx);replace HF:=HF.and (Per.aD hy);refine zi ?_;refine zg HF LW E ak fun aO w2 HF LW E=>(zg HF LW E ak fun bM w4 HF LW E=>?_);refine zo ?_;refine zb aw5 (nO _ ua A1 B1 c1 d1 (HF.on E).here.1.1.1.2 hl true g1) E fun w5 E=>(zi ?_);refine zb aw5 (nO _ ub A2 B2 c2 d2 (HF.on E).here.1.1.2 hl' r g2) E fun w6 E=>?_;exact qdq
theorem LA (r:Bool) (hr:(ua.good&&ub.good)=r):Calls prog 8 #[bG ua A1 c1 B1 d1,bG ub A2 c2 B2 d2] w (aF w (.bool r)):=by
 cases g1:ua.good
 · rw[g1] at hr;subst hr;exact YJ w ua ub A1 B1 A2 B2 c1 d1 c2 d2 hx hl hy hl' g1
 · rw[g1,Bool.true_and] at hr;exact YK w ua ub A1 B1 A2 B2 c1 d1 c2 d2 hx hl hy hl' g1 r hr
include ha hb0
end
end
end Go.Proofs.YtmnmebdmpigddaaGreatDoor
