/- Texts of this claim. -/
import Derived.Test.YtmnmebdmpigddaaGreatDoorL22
import Derived.Shelf.Strings.Builder1
import Derived.Shelf.Strings.Builder2
import Derived.Shelf.Small.Strs
import Derived.Shelf.Strings.BuilderF
import Derived.Shelf.Strconv.Itoa0
import Derived.Shelf.Strconv.Itoa1
import Derived.Shelf.LaysM
import Derived.Shelf.Strconv.Itoa2
import Derived.Shelf.Pu.ParseUintPublic10
import Derived.Shelf.Strings.Search1
import Derived.Shelf.Strings.Search2
import Derived.Shelf.Strings.Search3
import Derived.Shelf.Strings.Shaped
import Derived.Shelf.Strings.Prefix
import Derived.Shelf.Strings.Repeat
import Derived.Test.YtmnmebdmpigddaaGreatDoorProg
import Derived.Lib.SmallJoins
set_option maxRecDepth 100000
set_option maxHeartbeats 20000000
namespace Go.Proofs
open Go.Shelf
def Tryz.lays169_ren:Go.Shelf.Ren:=⟨fun | 169=>61 | n=>n,fun | 70=>79 | 9=>9 | 0=>0 | 72=>81 | 37=>46 | 127=>139 | 3=>3 | 5=>5 | n=>n,fun | n=>n⟩
theorem Tryz.lays169:Go.Proofs.Lays.n169 Tryz.prog Tryz.lays169_ren:={
 mixed:=by kernel_rfl
 f169:=Tryz.func61.trans (congrArg some (by kernel_rfl))
 t0:=Tryz.underlying0
 a0:=Tryz.isAgg0
 z0:=Tryz.sizeOf0
 v0:=Tryz.zeroValue0
 t3:=Tryz.underlying3
 a3:=Tryz.isAgg3
 z3:=Tryz.sizeOf3
 v3:=Tryz.zeroValue3
 t9:=Tryz.underlying9
 a9:=Tryz.isAgg9
 z9:=Tryz.sizeOf9
 v9:=Tryz.zeroValue9
 t37:=Tryz.underlying46
 a37:=Tryz.isAgg46
 z37:=Tryz.sizeOf46
 v37:=Tryz.zeroValue46
 t70:=Tryz.underlying79
 a70:=Tryz.isAgg79
 z70:=Tryz.sizeOf79
 v70:=Tryz.zeroValue79
 t72:=Tryz.underlying81
 a72:=Tryz.isAgg81
 z72:=Tryz.sizeOf81
 v72:=Tryz.zeroValue81
 t127:=Tryz.underlying139
 a127:=Tryz.isAgg139
 z127:=Tryz.sizeOf139
 v127:=Tryz.zeroValue139 }
theorem Tryz.Builder_Extra_169:Builder.Extra Tryz.prog Tryz.lays169_ren:={
 sizeBuilder:=by kernel_rfl
 liesBuilder:=by kernel_rfl
 t5:=Tryz.underlying5
 a5:=Tryz.isAgg5
 z5:=Tryz.sizeOf5
 v5:=Tryz.zeroValue5
 infoByte:=by kernel_rfl
 cellsByte:=by kernel_rfl
 sizeByte:=by kernel_rfl
 neB5:=by decide }
open Go.RowKit in
theorem Tryz.Builder_String_any (B b:Nat) (l:List UInt8) (w:World) (h:Lib.IsBuilder 81 5 B b (Lib.byteCells l) w) (hBw:B≤w.heap.size) :
 Calls Tryz.prog 61 #[.pointer (some ⟨b,0,none⟩)] w fun e w'=>e= .returned (.string ⟨l.toArray⟩)∧Below B w w':=Any.Builder_String_any Tryz.lays169 Tryz.Builder_Extra_169 B b l w h hBw
def Tryz.lays283_ren:Go.Shelf.Ren:=⟨fun | 283=>202 | n=>n,fun | 3=>3 | 9=>9 | 4=>4 | n=>n,fun | n=>n⟩
theorem Tryz.lays283:Go.Proofs.Lays.n283 Tryz.prog Tryz.lays283_ren:={
 mixed:=by kernel_rfl
 f283:=Tryz.func202.trans (congrArg some (by kernel_rfl))
 t3:=Tryz.underlying3
 a3:=Tryz.isAgg3
 z3:=Tryz.sizeOf3
 v3:=Tryz.zeroValue3
 t4:=Tryz.underlying4
 a4:=Tryz.isAgg4
 z4:=Tryz.sizeOf4
 v4:=Tryz.zeroValue4
 t9:=Tryz.underlying9
 a9:=Tryz.isAgg9
 z9:=Tryz.sizeOf9
 v9:=Tryz.zeroValue9 }
open Go.Lib in
theorem Tryz.internal_strconv_small (i:Nat) (h:i<100) (w:World) :
 Calls Tryz.prog 202 #[.int .i64 i] w fun e w'=>e= .returned (.string ⟨(Lib.decDigits i).toArray⟩)∧w'=w:=Any.internal_strconv_small Tryz.lays283 i h w
def Tryz.laysM284_ren:Go.Shelf.Ren:=⟨fun | 284=>203 | 129=>196 | 317=>228 | 318=>229 | n=>n,fun | 53=>25 | 3=>3 | 212=>238 | 0=>0 | 4=>4 | 46=>87 | 5=>5 | 9=>9 | n=>n,fun | 17=>9 | n=>n⟩
theorem Tryz.laysM284:Go.Proofs.LaysM.n284 Tryz.prog Tryz.laysM284_ren:={
 mixed:=by kernel_rfl
 f129:=Tryz.func196.trans (congrArg some (by kernel_rfl))
 f284:=Tryz.func203.trans (congrArg some (by kernel_rfl))
 f317:=Tryz.func228.trans (congrArg some (by kernel_rfl))
 f318:=Tryz.func229.trans (congrArg some (by kernel_rfl))
 t0:=Tryz.underlying0
 a0:=Tryz.isAgg0
 z0:=Tryz.sizeOf0
 v0:=Tryz.zeroValue0
 t3:=Tryz.underlying3
 a3:=Tryz.isAgg3
 z3:=Tryz.sizeOf3
 v3:=Tryz.zeroValue3
 t4:=Tryz.underlying4
 a4:=Tryz.isAgg4
 z4:=Tryz.sizeOf4
 v4:=Tryz.zeroValue4
 t5:=Tryz.underlying5
 a5:=Tryz.isAgg5
 z5:=Tryz.sizeOf5
 v5:=Tryz.zeroValue5
 t9:=Tryz.underlying9
 a9:=Tryz.isAgg9
 z9:=Tryz.sizeOf9
 v9:=Tryz.zeroValue9
 t46:=Tryz.underlying87
 a46:=Tryz.isAgg87
 z46:=Tryz.sizeOf87
 v46:=Tryz.zeroValue87
 t53:=Tryz.underlying25
 a53:=Tryz.isAgg25
 z53:=Tryz.sizeOf25
 v53:=Tryz.zeroValue25
 t212:=Tryz.underlying238
 a212:=Tryz.isAgg238
 z212:=Tryz.sizeOf238
 v212:=Tryz.zeroValue238
 g17:=by kernel_rfl
 i0:=by kernel_rfl
 i3:=by kernel_rfl
 i4:=by kernel_rfl
 i5:=by kernel_rfl
 i9:=by kernel_rfl
 i46:=by kernel_rfl
 i53:=by kernel_rfl
 i212:=by kernel_rfl
 m17:=by kernel_rfl }
open Go.Lib in
theorem Tryz.internal_strconv_numDigits (u:Nat) (h1:1≤u) (h2:u<18446744073709551616) (w:World) (htab:Lib.TabIs Tryz.prog w "internal/strconv.uint64pow10" .u64 Lib.pow10Tab) :
 Calls Tryz.prog 203 #[.int .u64 u] w fun e w'=>e= .returned (.int .i64 (Lib.nDigits u))∧w'=w:=Any.internal_strconv_numDigits Tryz.laysM284 u h1 h2 w htab
def Tryz.lays285_ren:Go.Shelf.Ren:=⟨fun | 285=>204 | n=>n,fun | 37=>46 | 53=>25 | 3=>3 | 4=>4 | 51=>174 | 9=>9 | 5=>5 | 0=>0 | n=>n,fun | n=>n⟩
theorem Tryz.lays285:Go.Proofs.Lays.n285 Tryz.prog Tryz.lays285_ren:={
 mixed:=by kernel_rfl
 f285:=Tryz.func204.trans (congrArg some (by kernel_rfl))
 t0:=Tryz.underlying0
 a0:=Tryz.isAgg0
 z0:=Tryz.sizeOf0
 v0:=Tryz.zeroValue0
 t3:=Tryz.underlying3
 a3:=Tryz.isAgg3
 z3:=Tryz.sizeOf3
 v3:=Tryz.zeroValue3
 t4:=Tryz.underlying4
 a4:=Tryz.isAgg4
 z4:=Tryz.sizeOf4
 v4:=Tryz.zeroValue4
 t5:=Tryz.underlying5
 a5:=Tryz.isAgg5
 z5:=Tryz.sizeOf5
 v5:=Tryz.zeroValue5
 t9:=Tryz.underlying9
 a9:=Tryz.isAgg9
 z9:=Tryz.sizeOf9
 v9:=Tryz.zeroValue9
 t37:=Tryz.underlying46
 a37:=Tryz.isAgg46
 z37:=Tryz.sizeOf46
 v37:=Tryz.zeroValue46
 t51:=Tryz.underlying174
 a51:=Tryz.isAgg174
 z51:=Tryz.sizeOf174
 v51:=Tryz.zeroValue174
 t53:=Tryz.underlying25
 a53:=Tryz.isAgg25
 z53:=Tryz.sizeOf25
 v53:=Tryz.zeroValue25 }
open Go.RowKit Go.Sort Go.Lib in
theorem Tryz.internal_strconv_formatBase10 (blk off cap:Nat) (u:Nat) (d:Array UInt8) (w:World) (hH:Holds (fun (b:UInt8)=>Value.int .u8 (b.toNat:Int)) w blk off d) (hu:u<10^d.size) (hu64:u<18446744073709551616) (hsz:d.size<4611686018427387904) :
 Calls Tryz.prog 204 #[.slice (some ⟨blk,off,none⟩) d.size cap,.int .u64 u] w fun e w'=>
  e= .returned (.tuple #[])∧ ∃(n v':Nat) (dk:Array UInt8),w'=(putRow (fun (b:UInt8)=>Value.int .u8 (b.toNat:Int)) w blk off dk).drewN n∧FmtInv d.size u 0 v' dk:=Any.internal_strconv_formatBase10 Tryz.lays285 blk off cap u d w hH hu hu64 hsz
def Tryz.laysPu14_ren:Go.Shelf.Ren:=⟨fun | 14=>96 | 16=>151 | 17=>152 | 19=>180 | 20=>181 | 21=>182 | 22=>183 | 23=>184 | 24=>185 | 25=>197 | 27=>199 | 26=>198 | 28=>214 | 29=>248 | 30=>202 | 31=>203 | 32=>204 | 33=>205 | 35=>196 | 34=>228 | 36=>229 | 37=>230 | 38=>231 | 39=>260 | 40=>261 | n=>n,fun | 9=>9 | 3=>3 | 22=>25 | 24=>83 | 25=>121 | 4=>4 | 34=>183 | 5=>5 | 36=>87 | 37=>46 | 0=>0 | 39=>185 | 21=>21 | 44=>194 | 47=>139 | 50=>212 | 48=>210 | 2=>2 | 52=>201 | 55=>203 | 59=>238 | 60=>174 | 20=>20 | 61=>239 | 65=>246 | 66=>278 | 67=>88 | n=>n,fun | 0=>3 | 1=>4 | 2=>9 | 3=>14 | 4=>15 | n=>n⟩
theorem Tryz.laysPu14:Go.Proofs.LaysPu.n14 Tryz.prog Tryz.laysPu14_ren:={
 mixed:=by kernel_rfl
 f14:=Tryz.func96.trans (congrArg some (by kernel_rfl))
 f16:=Tryz.func151.trans (congrArg some (by kernel_rfl))
 f17:=Tryz.func152.trans (congrArg some (by kernel_rfl))
 f19:=Tryz.func180.trans (congrArg some (by kernel_rfl))
 f20:=Tryz.func181.trans (congrArg some (by kernel_rfl))
 f21:=Tryz.func182.trans (congrArg some (by kernel_rfl))
 f22:=Tryz.func183.trans (congrArg some (by kernel_rfl))
 f23:=Tryz.func184.trans (congrArg some (by kernel_rfl))
 f24:=Tryz.func185.trans (congrArg some (by kernel_rfl))
 f25:=Tryz.func197.trans (congrArg some (by kernel_rfl))
 f26:=Tryz.func198.trans (congrArg some (by kernel_rfl))
 f27:=Tryz.func199.trans (congrArg some (by kernel_rfl))
 f28:=Tryz.func214.trans (congrArg some (by kernel_rfl))
 f29:=Tryz.func248.trans (congrArg some (by kernel_rfl))
 f30:=Tryz.func202.trans (congrArg some (by kernel_rfl))
 f31:=Tryz.func203.trans (congrArg some (by kernel_rfl))
 f32:=Tryz.func204.trans (congrArg some (by kernel_rfl))
 f33:=Tryz.func205.trans (congrArg some (by kernel_rfl))
 f34:=Tryz.func228.trans (congrArg some (by kernel_rfl))
 f35:=Tryz.func196.trans (congrArg some (by kernel_rfl))
 f36:=Tryz.func229.trans (congrArg some (by kernel_rfl))
 f37:=Tryz.func230.trans (congrArg some (by kernel_rfl))
 f38:=Tryz.func231.trans (congrArg some (by kernel_rfl))
 f39:=Tryz.func260.trans (congrArg some (by kernel_rfl))
 f40:=Tryz.func261.trans (congrArg some (by kernel_rfl))
 t0:=Tryz.underlying0
 a0:=Tryz.isAgg0
 z0:=Tryz.sizeOf0
 v0:=Tryz.zeroValue0
 i0:=by kernel_rfl
 t2:=Tryz.underlying2
 a2:=Tryz.isAgg2
 z2:=Tryz.sizeOf2
 v2:=Tryz.zeroValue2
 i2:=by kernel_rfl
 t3:=Tryz.underlying3
 a3:=Tryz.isAgg3
 z3:=Tryz.sizeOf3
 v3:=Tryz.zeroValue3
 i3:=by kernel_rfl
 t4:=Tryz.underlying4
 a4:=Tryz.isAgg4
 z4:=Tryz.sizeOf4
 v4:=Tryz.zeroValue4
 i4:=by kernel_rfl
 t5:=Tryz.underlying5
 a5:=Tryz.isAgg5
 z5:=Tryz.sizeOf5
 v5:=Tryz.zeroValue5
 i5:=by kernel_rfl
 t9:=Tryz.underlying9
 a9:=Tryz.isAgg9
 z9:=Tryz.sizeOf9
 v9:=Tryz.zeroValue9
 i9:=by kernel_rfl
 t20:=Tryz.underlying20
 a20:=Tryz.isAgg20
 z20:=Tryz.sizeOf20
 v20:=Tryz.zeroValue20
 i20:=by kernel_rfl
 t21:=Tryz.underlying21
 a21:=Tryz.isAgg21
 z21:=Tryz.sizeOf21
 v21:=Tryz.zeroValue21
 i21:=by kernel_rfl
 t22:=Tryz.underlying25
 a22:=Tryz.isAgg25
 z22:=Tryz.sizeOf25
 v22:=Tryz.zeroValue25
 i22:=by kernel_rfl
 t24:=Tryz.underlying83
 a24:=Tryz.isAgg83
 z24:=Tryz.sizeOf83
 v24:=Tryz.zeroValue83
 i24:=by kernel_rfl
 t25:=Tryz.underlying121
 a25:=Tryz.isAgg121
 z25:=Tryz.sizeOf121
 v25:=Tryz.zeroValue121
 i25:=by kernel_rfl
 t34:=Tryz.underlying183
 a34:=Tryz.isAgg183
 z34:=Tryz.sizeOf183
 v34:=Tryz.zeroValue183
 i34:=by kernel_rfl
 c34:=by kernel_rfl
 t36:=Tryz.underlying87
 a36:=Tryz.isAgg87
 z36:=Tryz.sizeOf87
 v36:=Tryz.zeroValue87
 i36:=by kernel_rfl
 t37:=Tryz.underlying46
 a37:=Tryz.isAgg46
 z37:=Tryz.sizeOf46
 v37:=Tryz.zeroValue46
 i37:=by kernel_rfl
 t39:=Tryz.underlying185
 a39:=Tryz.isAgg185
 z39:=Tryz.sizeOf185
 v39:=Tryz.zeroValue185
 i39:=by kernel_rfl
 t44:=Tryz.underlying194
 a44:=Tryz.isAgg194
 z44:=Tryz.sizeOf194
 v44:=Tryz.zeroValue194
 i44:=by kernel_rfl
 t47:=Tryz.underlying139
 a47:=Tryz.isAgg139
 z47:=Tryz.sizeOf139
 v47:=Tryz.zeroValue139
 i47:=by kernel_rfl
 t48:=Tryz.underlying210
 a48:=Tryz.isAgg210
 z48:=Tryz.sizeOf210
 v48:=Tryz.zeroValue210
 i48:=by kernel_rfl
 t50:=Tryz.underlying212
 a50:=Tryz.isAgg212
 z50:=Tryz.sizeOf212
 v50:=Tryz.zeroValue212
 i50:=by kernel_rfl
 t52:=Tryz.underlying201
 a52:=Tryz.isAgg201
 z52:=Tryz.sizeOf201
 v52:=Tryz.zeroValue201
 i52:=by kernel_rfl
 t55:=Tryz.underlying203
 a55:=Tryz.isAgg203
 z55:=Tryz.sizeOf203
 v55:=Tryz.zeroValue203
 i55:=by kernel_rfl
 t59:=Tryz.underlying238
 a59:=Tryz.isAgg238
 z59:=Tryz.sizeOf238
 v59:=Tryz.zeroValue238
 i59:=by kernel_rfl
 t60:=Tryz.underlying174
 a60:=Tryz.isAgg174
 z60:=Tryz.sizeOf174
 v60:=Tryz.zeroValue174
 i60:=by kernel_rfl
 t61:=Tryz.underlying239
 a61:=Tryz.isAgg239
 z61:=Tryz.sizeOf239
 t65:=Tryz.underlying246
 a65:=Tryz.isAgg246
 z65:=Tryz.sizeOf246
 v65:=Tryz.zeroValue246
 i65:=by kernel_rfl
 t66:=Tryz.underlying278
 a66:=Tryz.isAgg278
 z66:=Tryz.sizeOf278
 v66:=Tryz.zeroValue278
 i66:=by kernel_rfl
 t67:=Tryz.underlying88
 a67:=Tryz.isAgg88
 z67:=Tryz.sizeOf88
 v67:=Tryz.zeroValue88
 i67:=by kernel_rfl
 g0:=by kernel_rfl
 m0:=by kernel_rfl
 g1:=by kernel_rfl
 m1:=by kernel_rfl
 g2:=by kernel_rfl
 m2:=by kernel_rfl
 g3:=by kernel_rfl
 m3:=by kernel_rfl
 g4:=by kernel_rfl
 m4:=by kernel_rfl }
def Tryz.lays105_ren:Go.Shelf.Ren:=⟨fun | 105=>71 | 212=>127 | 99=>128 | 165=>129 | 166=>60 | 170=>130 | 169=>61 | 263=>167 | 264=>114 | 206=>168 | 240=>112 | 241=>169 | 276=>165 | 277=>193 | n=>n,fun | 9=>9 | 3=>3 | 4=>4 | 20=>20 | 0=>0 | 46=>87 | 109=>147 | 5=>5 | 72=>81 | 76=>85 | 51=>174 | 146=>175 | 53=>25 | 148=>140 | 70=>79 | 37=>46 | 75=>83 | 127=>139 | 164=>170 | 80=>88 | n=>n,fun | n=>n⟩
theorem Tryz.lays105:Go.Proofs.Lays.n105 Tryz.prog Tryz.lays105_ren:={
 mixed:=by kernel_rfl
 f99:=Tryz.func128.trans (congrArg some (by kernel_rfl))
 f105:=Tryz.func71.trans (congrArg some (by kernel_rfl))
 f165:=Tryz.func129.trans (congrArg some (by kernel_rfl))
 f166:=Tryz.func60.trans (congrArg some (by kernel_rfl))
 f169:=Tryz.func61.trans (congrArg some (by kernel_rfl))
 f170:=Tryz.func130.trans (congrArg some (by kernel_rfl))
 f206:=Tryz.func168.trans (congrArg some (by kernel_rfl))
 f212:=Tryz.func127.trans (congrArg some (by kernel_rfl))
 f240:=Tryz.func112.trans (congrArg some (by kernel_rfl))
 f241:=Tryz.func169.trans (congrArg some (by kernel_rfl))
 f263:=Tryz.func167.trans (congrArg some (by kernel_rfl))
 f264:=Tryz.func114.trans (congrArg some (by kernel_rfl))
 f276:=Tryz.func165.trans (congrArg some (by kernel_rfl))
 f277:=Tryz.func193.trans (congrArg some (by kernel_rfl))
 t0:=Tryz.underlying0
 a0:=Tryz.isAgg0
 z0:=Tryz.sizeOf0
 v0:=Tryz.zeroValue0
 t3:=Tryz.underlying3
 a3:=Tryz.isAgg3
 z3:=Tryz.sizeOf3
 v3:=Tryz.zeroValue3
 t4:=Tryz.underlying4
 a4:=Tryz.isAgg4
 z4:=Tryz.sizeOf4
 v4:=Tryz.zeroValue4
 t5:=Tryz.underlying5
 a5:=Tryz.isAgg5
 z5:=Tryz.sizeOf5
 v5:=Tryz.zeroValue5
 t9:=Tryz.underlying9
 a9:=Tryz.isAgg9
 z9:=Tryz.sizeOf9
 v9:=Tryz.zeroValue9
 t20:=Tryz.underlying20
 a20:=Tryz.isAgg20
 z20:=Tryz.sizeOf20
 v20:=Tryz.zeroValue20
 t37:=Tryz.underlying46
 a37:=Tryz.isAgg46
 z37:=Tryz.sizeOf46
 v37:=Tryz.zeroValue46
 t46:=Tryz.underlying87
 a46:=Tryz.isAgg87
 z46:=Tryz.sizeOf87
 v46:=Tryz.zeroValue87
 t51:=Tryz.underlying174
 a51:=Tryz.isAgg174
 z51:=Tryz.sizeOf174
 v51:=Tryz.zeroValue174
 t53:=Tryz.underlying25
 a53:=Tryz.isAgg25
 z53:=Tryz.sizeOf25
 v53:=Tryz.zeroValue25
 t70:=Tryz.underlying79
 a70:=Tryz.isAgg79
 z70:=Tryz.sizeOf79
 v70:=Tryz.zeroValue79
 t72:=Tryz.underlying81
 a72:=Tryz.isAgg81
 z72:=Tryz.sizeOf81
 v72:=Tryz.zeroValue81
 t75:=Tryz.underlying83
 a75:=Tryz.isAgg83
 z75:=Tryz.sizeOf83
 v75:=Tryz.zeroValue83
 t76:=Tryz.underlying85
 a76:=Tryz.isAgg85
 z76:=Tryz.sizeOf85
 v76:=Tryz.zeroValue85
 t109:=Tryz.underlying147
 a109:=Tryz.isAgg147
 z109:=Tryz.sizeOf147
 v109:=Tryz.zeroValue147
 t127:=Tryz.underlying139
 a127:=Tryz.isAgg139
 z127:=Tryz.sizeOf139
 v127:=Tryz.zeroValue139
 t146:=Tryz.underlying175
 a146:=Tryz.isAgg175
 z146:=Tryz.sizeOf175
 v146:=Tryz.zeroValue175
 t148:=Tryz.underlying140
 a148:=Tryz.isAgg140
 z148:=Tryz.sizeOf140
 v148:=Tryz.zeroValue140
 t164:=Tryz.underlying170
 a164:=Tryz.isAgg170
 z164:=Tryz.sizeOf170
 v164:=Tryz.zeroValue170 }
theorem Tryz.Builder_Extra_105:Builder.Extra Tryz.prog Tryz.lays105_ren:={
 sizeBuilder:=by kernel_rfl
 liesBuilder:=by kernel_rfl
 t5:=Tryz.underlying5
 a5:=Tryz.isAgg5
 z5:=Tryz.sizeOf5
 v5:=Tryz.zeroValue5
 infoByte:=by kernel_rfl
 cellsByte:=by kernel_rfl
 sizeByte:=by kernel_rfl
 neB5:=by decide }
open Go.RowKit Go.Lib in
theorem Tryz.strings_Repeat (s:ByteArray) (c:Nat) (w:World) (hc:c≤9223372036854775807) (hlen:s.size*c≤140737488355328) :
 Calls Tryz.prog 71 #[.string s,.int .i64 c] w fun e w'=>e= .returned (.string ⟨(Lib.repeatL s.data.toList c).toArray⟩)∧Below w.heap.size w w':=Any.strings_Repeat Tryz.lays105 Tryz.Builder_Extra_105 s c w hc hlen
end Go.Proofs
namespace Go.Proofs.YtmnmebdmpigddaaGreatDoor
open Go.RowKit Proofs.Tryz
theorem yK {P Q:Prop} (k:Q) (h:(Unit→Q)→P:=by
 intro zK;refine zv ?_;refine za rfl (ya ZU rfl rfl hb rfl (za rfl (Vz ZU rfl rfl ?_)));exact zK ()):P:=h fun _=>k
attribute [local irreducible] OW RS CW EW
theorem OM:nY prog 165 Extern.AbiNoEscape.same:=⟨_,func165,kr,kr,kr,kr⟩
theorem jO:(prog.info? 81).map (·.size)=some 2:=kr
theorem OO:liesAt prog prog.depth 81 (2/prog.cellsOf 81) 0 81 1=true:=kr
def MZ (w:World) (lo b:Nat) (p:Value) (l:List UInt8) (F:Nat→Prop):Prop:=∃A c,aB w b 81 #[p,.slice A l.length c]∧w.ownsRow lo 5 1 (.slice A l.length c) l.length (Lib.byteCells l)∧ ∀q,(Value.slice A l.length c).ownBlock=some q→F q
def Adr (b:Nat) (p:Value):Prop:=p= .pointer none∨p= .pointer (some ⟨b,0,none⟩)
theorem MZ.lib {w:World} {lo b:Nat} {p:Value} {l:List UInt8} {F:Nat→Prop} (h:MZ w lo b p l F) (hp:Adr b p) (hb:lo≤b):Lib.IsBuilder 81 5 lo b (Lib.byteCells l) w:=by
 obtain ⟨A,c,h1,h2,_⟩:=h;have hl:(Lib.byteCells l).length=l.length:=by unfold Lib.byteCells;simp
 have hne:(Value.slice A l.length c).ownBlock≠some b:=fun e=>by
  obtain ⟨cur,h3⟩:=jI h2 e;have h4:=h1.symm.trans h3;injection h4 with h4
  injection h4 with _ h4
  exact absurd h4 de
 rcases hp with rfl | rfl
 · exact Or.inl ⟨hb,_,h1,by rw[hl];exact h2,hne⟩
 · exact Or.inr ⟨hb,_,h1,by rw[hl];exact h2,hne⟩
theorem MZ.no {w w':World} {lo b:Nat} {p:Value} {l:List UInt8} {F:Nat→Prop} (h:MZ w lo b p l F) (E:Ext No w w'):MZ w' lo b p l F:=by
 obtain ⟨A,c,h1,h2,h3⟩:=h;exact ⟨A,c,h1.ext E (fun h=>h.elim),ZT h2 E (fun _ _ h=>h.elim),h3⟩
section
variable (w:World) (lo b:Nat) (p:Value) (hp:Adr b p)
theorem VL (s0:Value) (hb:aB w b 81 #[.pointer none,s0]):Calls prog 112 #[.pointer (some ⟨b,0,none⟩)] w fun e w'=>e= .returned (.tuple #[])∧aB w' b 81 #[.pointer (some ⟨b,0,none⟩),s0]∧Ext (ak [some b]) w w':=by
 refine zc func112 rfl ntmps112 rfl (yK ?_);refine zt ?_;refine za rfl (ahz ZU underlying170 jO de rfl hb (Nat.zero_lt_succ 1) (za rfl (jE (args:=[.pointer (some ⟨b,0,none⟩)]) (v:=.pointer (some ⟨b,0,none⟩)) OM rfl (Lib.run_noEscape _ _) (za rfl (Ol underlying170 ZU jO rfl hb OO (zu ?_))))));refine zp (qq (cs':=#[.pointer (some ⟨b,0,none⟩),s0]) aH9 rfl rfl hb rfl rfl (Nat.le_of_ble_eq_true rfl) rfl ?_);rintro wB B2 E2;refine aQ ?_;refine Vo rfl ?_;exact ⟨rfl,B2,E2⟩
theorem VN (s0:Value) (hb:aB w b 81 #[.pointer (some ⟨b,0,none⟩),s0]):Calls prog 112 #[.pointer (some ⟨b,0,none⟩)] w fun e w'=>e= .returned (.tuple #[])∧aB w' b 81 #[.pointer (some ⟨b,0,none⟩),s0]∧Ext (ak [some b]) w w':=by
 refine zc func112 rfl ntmps112 rfl (yK ?_);refine yu ?_;refine za rfl (ya ZU rfl rfl hb rfl (aQ ?_));refine za rfl (JL ZU jO rfl rfl (ye ?_));refine Vo rfl ?_;exact ⟨rfl,hb,Ext.refl _ _⟩
include hp
theorem OP (s0:Value) (hb:aB w b 81 #[p,s0]):Calls prog 112 #[.pointer (some ⟨b,0,none⟩)] w fun e w'=>e= .returned (.tuple #[])∧aB w' b 81 #[.pointer (some ⟨b,0,none⟩),s0]∧Ext (ak [some b]) w w':=by
 rcases hp with rfl | rfl
 · exact VL w b s0 hb
 · exact VN w b s0 hb
variable (l:List UInt8) (hl:l.length≤900000) (F:Nat→Prop) (h:MZ w lo b p l F) (hbl:lo≤b) (hF:∀q,w.heap.size≤q→F q)
include hl h hbl hF
theorem OQ (x:UInt8):Calls prog 59 #[.pointer (some ⟨b,0,none⟩),.int .u8 (x.toNat:Int)] w fun e w'=>e= .returned .nilIface∧MZ w' lo b (.pointer (some ⟨b,0,none⟩)) (l++ [x]) F∧Ext (fun q=>q=b∨F q) w w':=by
 obtain ⟨A,c,hB,hO,hFb⟩:=h;have hlt:=hB.lt;refine zc func59 rfl ntmps59 rfl (yu ?_);refine za rfl (zb Z6 rfl ((OP _ b p hp _ hB).mono ?_));rintro e w1 ⟨rfl,hB2,hE⟩;refine ⟨_,rfl,?_⟩;have hO2:=zdq hO hB de hE;have hs:=hE.size;refine yu ?_;refine za rfl (ya u46 rfl rfl hB2 rfl (aQ ?_));refine za rfl (ysk (cs:=#[.int .u8 (x.toNat:Int)]) u46 oH zr5 de rfl (by rw[iW];rfl) ?_);rintro gx wI Bx E17 Gx;have O17:=ZT hO2 E17 (fun _ _ h=>h.elim);have B17:=hB2.ext E17 (fun h=>h.elim);have aO0:=E17.size;refine za rfl (D8 (n':=(l++ [x]).length) (xs':=Lib.byteCells (l++ [x])) u46 au1 rfl de rfl O17 rfl (DV Bx Bx.lt rfl) (by simp[Value.oneCell']) (by rw[List.length_append];rfl) (by unfold Lib.byteCells;rw[List.map_append];rfl) (by rw[List.length_append];unfold maxLen;simp;omega) (by rw[List.length_append];simp;omega) om ?_);rintro A5 c5 wJ O18 E18 N18;have au:=p8 B17 O17 de E18;refine zu ?_;refine zp (qq (cs':=#[.pointer (some ⟨b,0,none⟩),.slice A5 (l++ [x]).length c5]) atz rfl rfl au rfl rfl (Nat.le_of_ble_eq_true rfl) rfl ?_);rintro wK B19 E19;have O19:=zdq O18 au de E19;refine qo ?_;exact ⟨rfl,⟨A5,c5,B19,O19,fun q hq=>(N18 q hq).elim (hFb q) (fun h=>hF q om)⟩,(((hE.mono (Y:=fun q=>q=b∨F q) (fun q hq _=>Or.inl (ug hq))).step E17 (fun _ h=>h.elim)).step E18 (fun q hq=>Or.inl (Or.inr (hFb q (uh hq))))).step E19 (fun q hq=>Or.inl (Or.inl (ug hq)))⟩
theorem qyk (s:ByteArray) (hs1:s.size≤1000) (hl0:0<l.length):Calls prog 60 #[.pointer (some ⟨b,0,none⟩),.string s] w fun e w'=>e= .returned (.tuple #[.int .i64 (s.size:Int),.nilIface])∧MZ w' lo b (.pointer (some ⟨b,0,none⟩)) (l++s.data.toList) F∧Ext (fun q=>q=b∨F q) w w':=by
 obtain ⟨A,c,hB,hO,hFb⟩:=h;have hlt:=hB.lt;have hsl:s.data.toList.length=s.size:=by rw[Array.length_toList];rfl
 refine zc func60 rfl ntmps60 rfl (qo ?_);refine za rfl (zb Z6 rfl ((OP _ b p hp _ hB).mono ?_));rintro e w1 ⟨rfl,hB2,hE⟩;refine ⟨_,rfl,?_⟩;have hO2:=zdq hO hB de hE;have hs:=hE.size;refine yu ?_;refine za rfl (ya u46 rfl rfl hB2 rfl (aQ ?_));refine za rfl (uj (n':=(l++s.data.toList).length) u46 u9 au1 rfl hO2 hl0 rfl (by rw[List.length_append,hsl]) (by rw[List.length_append,hsl];omega) om ?_);rintro A5 c5 wJ O18 E18 N18;have O18:wJ.ownsRow lo 5 1 (.slice A5 (l++s.data.toList).length c5) (l++s.data.toList).length (Lib.byteCells (l++s.data.toList)):=by
  have e:Lib.byteCells (l++s.data.toList)=Lib.byteCells l++Lib.strCells s:=by unfold Lib.byteCells Lib.strCells;rw[List.map_append]
  rw[e];exact O18
 have au:=p8 hB2 hO2 de E18;refine zu ?_;refine zp (qq (cs':=#[.pointer (some ⟨b,0,none⟩),.slice A5 (l++s.data.toList).length c5]) atz rfl rfl au rfl rfl (Nat.le_of_ble_eq_true rfl) rfl ?_);rintro wK B19 E19;have O19:=zdq O18 au de E19;refine zv ?_;refine ve ?_;refine zt ?_;exact ⟨rfl,⟨A5,c5,B19,O19,fun q hq=>(N18 q hq).elim (hFb q) (fun h=>hF q om)⟩,((hE.mono (Y:=fun q=>q=b∨F q) (fun q hq _=>Or.inl (ug hq))).step E18 (fun q hq=>Or.inl (Or.inr (hFb q (uh hq))))).step E19 (fun q hq=>Or.inl (Or.inl (ug hq)))⟩
end
end Go.Proofs.YtmnmebdmpigddaaGreatDoor
namespace Go.Proofs.YtmnmebdmpigddaaGreatDoor
open Go.RowKit Proofs.Tryz
theorem AB {P Q:Prop} (k:Q) (h:(Unit→Q)→P:=by
 intro zK;refine zq ?_;refine bV rfl (zb gH rfl ((vc _ ub A2 B2 c2 d2 (HF.on E).here.1.1.2 hl' false h2).mono ?_));exact zK ()):P:=h fun _=>k
theorem lG {P Q:Prop} (k:Q) (h:(Unit→Q)→P:=by
 intro zK;refine ki (rs:=[.cell 2 24]) (vs:=[_]) rfl ⟨⟨_,rfl,ymv u24 rfl kz QL rfl⟩,trivial⟩ ?_;exact zK ()):P:=h fun _=>k
theorem lH {P Q:Prop} (k:Q) (h:(Unit→Q)→P:=by
 intro zK;refine yq ?_;refine ze 19 (.bool false) rfl (by show Value.bool (!(ua.k==ub.k))=_;rw[h3];rfl) (Ed ?_);exact zK ()):P:=h fun _=>k
theorem zmk {P Q:Prop} (k:Q) (h:(Unit→Q)→P:=by
 intro zK;refine zq ?_;refine bV rfl (zb gH rfl ((vc _ ub A2 B2 c2 d2 (HF.on E).here.1.1.2 hl' true h2).mono ?_));exact zK ()):P:=h fun _=>k
theorem QM {P:Prop} (h:P:=by
 refine qo ?_;exact ⟨by unfold La;rw[h1,h2,h3,h4,ho];rfl,(LW.step E aj).toBelow⟩):P:=h
theorem QN {P:Prop} (h:P:=by
 refine yq ?_;exact ⟨by unfold La eqS;rw[h1,h2,h3,ho];rfl,(LW.step E aj).toBelow⟩):P:=h
theorem QO {P:Prop} (h:P:=by
 refine yq ?_;exact ⟨by unfold La eqS;rw[h1,h2,h3,h4,ho];rfl,(LW.step E aj).toBelow⟩):P:=h
theorem QS {P:Prop} (h:P:=by
 refine yq ?_;exact ⟨by unfold Fu;rw[h1,h2,h3,if_neg h4,if_neg h5,ho];rfl,(LW.step E aj).toBelow⟩):P:=h
theorem acj {P:Prop} (h:P:=by
 refine qo ?_;exact ⟨by refine congrArg (fun z=>Ending.returned (.bool z)) ?_;unfold qd;first | (simp_all;done) | (simp_all;omega),(LW.step E aj).toBelow⟩):P:=h
theorem ad1 {P:Prop} (h:P:=by
 refine qh ?_;intro vs X wq K;have XN:=K.2.1;refine zb jJ rfl ((ztk _ ua A1 B1 c1 d1).mono ?_);rintro e w2 ⟨A3,c3,rfl,hN,hb⟩;exact ⟨_,rfl,hb,⟨(A3,c3),rfl,QJ hN XN⟩⟩):P:=h
attribute [local irreducible] OW RS CW EW
section
variable (w:World) (ua ub:PV) (A1 B1 A2 B2:Option Addr) (c1 d1 c2 d2:Nat) (hx:aA w A1 ua.xs) (hl:ua.xs.length≤9223372036854775807) (ha:ua.bits<18446744073709551616) (hy:aA w A2 ub.xs) (hl':ub.xs.length≤9223372036854775807) (hb0:ub.bits<18446744073709551616)
theorem Lc:Calls prog 29 #[aP ua A1 c1 B1 d1] w (aH w (.bool (qd ua.k))):=by
 refine zc func29 rfl ntmps29 rfl ?_;obtain ⟨HF,LW,aj,E⟩:=bg w;refine zf ?_;intro aO w2 aD aI aW;obtain ⟨HF,LW,E⟩:=aK HF LW E aj aD aI;refine qo ?_;refine zz 6 rfl (fun h1=>?_) (fun h1=>?_)
 ·
  replace h1:=of_decide_eq_true h1;exact acj
 ·
  replace h1:=of_decide_eq_false h1;exact acj
include hx hl
theorem vc (r:Bool) (hr:PV.good ua=r):Calls prog 28 #[aP ua A1 c1 B1 d1] w (aH w (.bool r)):=by
 subst hr;exact Lb w ua.k ua.yes ua.neg A1 B1 ua.xs c1 ua.bits ua.ni d1 ua.s hx hl
omit hx hl in
theorem kl (r:Bool) (hr:qd ua.k=r):Calls prog 29 #[aP ua A1 c1 B1 d1] w (aH w (.bool r)):=by
 subst hr;exact Lc w ua A1 B1 c1 d1
omit hx hl
theorem ztk:Calls prog 33 #[aP ua A1 c1 B1 d1] w (Fv w A1 ua.cn ua.xs ua.cx):=by
 refine zc func33 rfl ntmps33 rfl (zf ?_);rintro g1 wA BX E1 G1;refine yn ?_;rintro g2 wB BY E2 G2;have Ld:=BX.ext E2 (fun h=>h.elim);have gF:=E1.trans E2;refine zy ?_;refine zj rfl (fun hk=>?_) (fun hk=>?_)
 ·
  have hk1:ua.k=1:=by simpa using hk
  have e1:ua.cn=false:=by unfold PV.cn;rw[if_pos hk1]
  refine zr ?_;refine zj rfl (fun hyes=>?_) (fun hyes=>?_)
  ·
   have e2:ua.cx= [1]:=by unfold PV.cx;rw[if_pos hk1,if_pos hyes]
   refine zu ?_;refine za rfl (zb JO rfl ((qmk 1 _ de de).mono ?_));rintro e w1 ⟨A3,c3,rfl,hO,hb⟩;refine ⟨_,rfl,?_⟩;have E3:=Ext.of_below hb No;have BYc:=BY.ext E3 (fun h=>h.elim);refine zp (zo kz rfl rfl BYc rfl rfl rfl ?_);rintro wC QL E4;have hs:=gF.size;have h3:=ztv hO E4 BY.lt hs;refine zv ?_;refine lG ?_;exact ⟨A3,c3,by rw[e1,e2,←Xq];rfl,Or.inr (by rw[e2,←Xq];exact h3),((gF.trans E3).step E4 (fun q hq=>Or.inr (by have:=ug hq;have:=E1.size;omega))).toBelow⟩
  ·
   have e2:ua.cx= []:=by unfold PV.cx;rw[if_pos hk1,if_neg (by rw[hyes];decide)]
   refine ye ?_;refine za rfl (ja (cs:=#[.bool false,.slice none 0 0]) Ot JN rfl rfl (zp (zo kz rfl rfl BY rfl rfl rfl ?_)));rintro wC QL E4;refine ye ?_;refine lG ?_;exact ⟨none,0,by rw[e1,e2];rfl,Or.inr (by rw[e2];exact qvx),(gF.step E4 (fun q hq=>Or.inr (by have:=ug hq;have:=E1.size;omega))).toBelow⟩
 ·
  have hk1:ua.k≠1:=by simpa using hk
  have e1:ua.cn=ua.neg:=by unfold PV.cn;rw[if_neg hk1]
  have e2:ua.cx=ua.xs:=by unfold PV.cx;rw[if_neg hk1]
  refine zv ?_;refine za rfl (yix (cs:=#[.bool ua.neg,.slice A1 ua.xs.length c1]) u24 rfl kz rfl rfl (qjk (Ld.cell 2) (Ld.cell 3)) (zp (zo kz rfl rfl BY rfl rfl rfl ?_)));rintro wC QL E4;refine zq ?_;have E5:Ext No w wC:=gF.step E4 (fun q hq=>Or.inr (by have:=ug hq;have:=E1.size;omega));refine lG ?_;exact ⟨A1,c1,by rw[e1,e2];rfl,Or.inl ⟨rfl,e2⟩,E5.toBelow⟩
include hx hl ha hy hl' hb0
theorem QT:Calls prog 64 #[aP ua A1 c1 B1 d1,aP ub A2 c2 B2 d2] w (aH w (.tuple #[.int .i64 (Fq ua ub),.bool (vD ua ub)])):=by
 have hcl:=PV.lF hl;have hcl':=PV.lF hl';refine zc func64 rfl ntmps64 rfl ?_;obtain ⟨HF,LW,aj,E⟩:=bg w;replace HF:=HF.and (Per.ay hx);replace HF:=HF.and (Per.ay hy);by_cases hk3:ua.k=3
 ·
  by_cases hj3:ub.k=3
  ·
   refine zf ?_;intro aO w2 aD aI aW;obtain ⟨HF,LW,E⟩:=aK HF LW E aj aD aI;refine za rfl (zn rfl ?_);intro bM w4 aJ aM bN;obtain ⟨HF,LW,E⟩:=aK HF LW E aj aJ aM;refine jm ?_;refine zd 12 (.bool true) rfl ((by simp[hk3]:(.bool (ua.k==3):Value)=_)) (zr ?_);refine ze 8 (.bool true) rfl (by simp[hj3]) (zr ?_);refine zh rfl Z7 rfl (qM _ ua.bits ub.bits) E fun w5 E=>(zy ?_);exact ⟨by unfold Fq vD;rw[if_pos hk3,if_pos hk3,if_pos hj3,if_pos hj3];rfl,(LW.step E aj).toBelow⟩
  ·
   refine zf ?_;intro gb6 w7 QI Eb6 Gb6;obtain ⟨HF,LW,E⟩:=aK HF LW E aj QI Eb6;refine za rfl (zn rfl ?_);intro dB w9 bJ dN fO;obtain ⟨HF,LW,E⟩:=aK HF LW E aj bJ dN;refine jm ?_;refine zd 12 (.bool true) rfl ((by simp[hk3]:(.bool (ua.k==3):Value)=_)) (zr ?_);refine ze 8 (.bool false) rfl (by simp[hj3]) (qo ?_);refine ze 24 (.bool true) rfl (by simp[hk3]) (zu ?_);have OY:∀q9,(ak (km [])) q9→q9<(World.drew w9).heap.size→(No) q9:=fun k h _=>(ak.none_) k h;refine yx (No) ak.none_ [] [] (xq [Fx.of (.pointer (some ⟨gb6,4,none⟩)),
    Fx.of (.int .u64 (ua.bits:Int)),
    Fx.of (aP ub A2 c2 B2 d2),
    ⟨(Option Addr×Nat),fun (A3,c3)=>.agg #[.bool ub.cn,.slice A3 ub.cx.length c3],fun (A3,c3) b=>(eH b A2 A3 ub.xs (PV.cx ub))⟩,
    Fx.of (.tuple #[.int .i64 (wW ua.bits ub.cn ub.cx),.bool (vC ua.bits ub.cn ub.cx)]),
    Fx.of (.int .i64 (wW ua.bits ub.cn ub.cx)),
    Fx.of (.bool (vC ua.bits ub.cn ub.cx)),
    Fx.of (.int .i64 (wW ua.bits ub.cn ub.cx)),
    Fx.of (.bool (vC ua.bits ub.cn ub.cx))]) mixed rfl trivial (fun _ h=>by cases h) ?_ ?_
   · refine ⟨arm,arm,arm,?_,?_,arm,arm,arm,arm,trivial⟩
     · refine qh ?_;intro vs X wq K;have XN:=K.2.1;refine zb jJ rfl ((ztk _ ub A2 B2 c2 d2).mono ?_);rintro e w2 ⟨A3,c3,rfl,hN,hb⟩;exact ⟨_,rfl,hb,⟨(A3,c3),rfl,QJ hN XN⟩⟩
     · refine qh ?_;intro vs X wq K;have LE:=K.1;obtain ⟨⟨A3,c3⟩,e3,k3⟩:=K.dep 3 rfl rfl rfl;refine vd 31 _ rfl e3 (zb Z8 rfl ((lD _ ua.bits ha ub.cn A3 c3 ub.cx ((k3.here).nums (HF.on (E.drew.trans (LE.mono OY))).here.1.1.2) hcl').mono ?_));exact II
   intro vs dI LE AO AL AF AA;replace E:=E.drew.trans (LE.mono OY);obtain ⟨_,e7,k7⟩:=AL.2.2.2.2.2.2.2.1;obtain ⟨_,e8,k8⟩:=AL.2.2.2.2.2.2.2.2.1;refine vo (τ:=[(2,_),(3,_),(4,.int .i64 (wW ua.bits ub.cn ub.cx)),(5,.bool (vC ua.bits ub.cn ub.cx))]) ⟨rfl,rfl,congrArg some e7,congrArg some e8,trivial⟩ ?_;clear AL AF AA LE AO OY e7 e8 k7 k8;refine zv ?_;exact ⟨by unfold Fq vD;rw[if_pos hk3,if_pos hk3,if_neg hj3,if_neg hj3];rfl,(LW.step E aj).toBelow⟩
 ·
  refine zf ?_;intro gL eB dU dV iw;obtain ⟨HF,LW,E⟩:=aK HF LW E aj dU dV;refine za rfl (zn rfl ?_);intro Le dL iy lI Fy;obtain ⟨HF,LW,E⟩:=aK HF LW E aj iy lI;refine jm ?_;refine zd 12 (.bool false) rfl ((by simp[hk3]:(.bool (ua.k==3):Value)=_)) (qA ?_);refine ze 24 (.bool false) rfl (by simp[hk3]) ?_;by_cases hj3:ub.k=3
  ·
   refine qo ?_;refine ze 35 (.bool true) rfl (by simp[hj3]) (zu ?_);have OY:∀q9,(ak (km [])) q9→q9<(World.drew dL).heap.size→(No) q9:=fun k h _=>(ak.none_) k h;refine yx (No) ak.none_ [] [] (xq [Fx.of (.pointer (some ⟨Le,4,none⟩)),
    Fx.of (.int .u64 (ub.bits:Int)),
    Fx.of (aP ua A1 c1 B1 d1),
    ⟨(Option Addr×Nat),fun (A3,c3)=>.agg #[.bool ua.cn,.slice A3 ua.cx.length c3],fun (A3,c3) b=>(eH b A1 A3 ua.xs (PV.cx ua))⟩,
    Fx.of (.tuple #[.int .i64 (wW ub.bits ua.cn ua.cx),.bool (vC ub.bits ua.cn ua.cx)]),
    Fx.of (.tuple #[.int .i64 (wW ub.bits ua.cn ua.cx),.bool (vC ub.bits ua.cn ua.cx)]),
    Fx.of (.int .i64 (wW ub.bits ua.cn ua.cx)),
    Fx.of (.bool (vC ub.bits ua.cn ua.cx)),
    Fx.of (.int .i64 (wW ub.bits ua.cn ua.cx)),
    Fx.of (.bool (vC ub.bits ua.cn ua.cx))]) mixed rfl trivial (fun _ h=>by cases h) ?_ ?_
   · refine ⟨arm,arm,arm,?_,?_,arm,arm,arm,arm,arm,trivial⟩
     · exact ad1
     · refine qh ?_;intro vs X wq K;have LE:=K.1;obtain ⟨⟨A3,c3⟩,e3,k3⟩:=K.dep 3 rfl rfl rfl;refine vd 43 _ rfl e3 (zb Z8 rfl ((lD _ ub.bits hb0 ua.cn A3 c3 ua.cx ((k3.here).nums (HF.on (E.drew.trans (LE.mono OY))).here.1.1.1.2) hcl).mono ?_));exact II
   intro vs fM LE AO AL AF AA;replace E:=E.drew.trans (LE.mono OY);obtain ⟨_,e8,k8⟩:=AL.2.2.2.2.2.2.2.2.1;obtain ⟨_,e9,k9⟩:=AL.2.2.2.2.2.2.2.2.2.1;refine vo (τ:=[(2,_),(3,_),(4,_),(5,_),(6,.int .i64 (wW ub.bits ua.cn ua.cx)),(7,.bool (vC ub.bits ua.cn ua.cx))]) ⟨rfl,rfl,rfl,rfl,congrArg some e8,congrArg some e9,trivial⟩ ?_;clear AL AF AA LE AO OY e8 e9 k8 k9;have hcv:=Xp ub.bits ua.cn ua.cx;refine ye ?_;refine zhq ?_;refine qo ?_;exact ⟨by unfold Fq vD;rw[if_neg hk3,if_neg hk3,if_pos hj3,if_pos hj3];rfl,(LW.step E aj).toBelow⟩
  ·
   refine qo ?_;refine ze 35 (.bool false) rfl (by simp[hj3]) (zv ?_);have OY:∀q9,(ak (km [])) q9→q9<(World.drew dL).heap.size→(No) q9:=fun k h _=>(ak.none_) k h;refine yx (No) ak.none_ [] [] (xq [Fx.of (aP ua A1 c1 B1 d1),
    ⟨(Option Addr×Nat),fun (A3,c3)=>.agg #[.bool ua.cn,.slice A3 ua.cx.length c3],fun (A3,c3) b=>(eH b A1 A3 ua.xs (PV.cx ua))⟩,
    Fx.of (aP ub A2 c2 B2 d2),
    ⟨(Option Addr×Nat),fun (A4,c4)=>.agg #[.bool ub.cn,.slice A4 ub.cx.length c4],fun (A4,c4) b=>(eH b A2 A4 ub.xs (PV.cx ub))⟩,
    Fx.of (.int .i64 (gJ (zm ua.cn ua.cx&&zm ub.cn ub.cx) (num ua.cn ua.cx) (num ub.cn ub.cx))),
    Fx.of (.int .i64 (gJ (zm ua.cn ua.cx&&zm ub.cn ub.cx) (num ua.cn ua.cx) (num ub.cn ub.cx))),
    Fx.of (.bool true)]) mixed rfl trivial (fun _ h=>by cases h) ?_ ?_
   · refine ⟨arm,?_,arm,?_,?_,arm,arm,trivial⟩
     · exact ad1
     · refine qh ?_;intro vs X wq K;have XN:=K.2.1;refine zb jJ rfl ((ztk _ ub A2 B2 c2 d2).mono ?_);rintro e w2 ⟨A4,c4,rfl,hN,hb⟩;exact ⟨_,rfl,hb,⟨(A4,c4),rfl,QJ hN XN⟩⟩
     · intro vs X wq K;have LE:=K.1;obtain ⟨⟨A3,c3⟩,e1,k1⟩:=K.dep 1 rfl rfl rfl;refine vd 51 _ rfl e1 ?_;obtain ⟨⟨A4,c4⟩,e3,k3⟩:=K.dep 3 rfl rfl rfl;refine vd 53 _ rfl e3 (zb ai0 rfl ((uN A3 A4 c3 c4 ua.cx ub.cx _ ua.cn ub.cn ((k1.here).nums (HF.on (E.drew.trans (LE.mono OY))).here.1.1.1.2) ((k3.here).nums (HF.on (E.drew.trans (LE.mono OY))).here.1.1.2) hcl hcl').mono ?_));exact II
   intro vs w16 LE AO AL AF AA;replace E:=E.drew.trans (LE.mono OY);obtain ⟨_,e5,k5⟩:=AL.2.2.2.2.2.1;obtain ⟨_,e6,k6⟩:=AL.2.2.2.2.2.2.1;refine vo (τ:=[(4,.int .i64 (gJ (zm ua.cn ua.cx&&zm ub.cn ub.cx) (num ua.cn ua.cx) (num ub.cn ub.cx))),(5,.bool true)]) ⟨congrArg some e5,congrArg some e6,trivial⟩ ?_;clear AL AF AA LE AO OY e5 e6 k5 k6;refine zq ?_;exact ⟨by unfold Fq vD;rw[if_neg hk3,if_neg hk3,if_neg hj3,if_neg hj3];rfl,(LW.step E aj).toBelow⟩
theorem al5 (h1:ua.good=false):Calls prog 26 #[aP ua A1 c1 B1 d1,aP ub A2 c2 B2 d2] w (aH w (.bool (La ua ub))):=by
 have _:=hx;have _:=hl;have _:=ha;have _:=hy;have _:=hl';have _:=hb0;refine zc func26 rfl ntmps26 rfl ?_;obtain ⟨HF,LW,aj,E⟩:=bg w;replace HF:=HF.and (Per.ay hx);replace HF:=HF.and (Per.ay hy);refine zf ?_;intro aO w2 aD aI aW;obtain ⟨HF,LW,E⟩:=aK HF LW E aj aD aI;refine za rfl (zn rfl ?_);intro bM w4 aJ aM bN;obtain ⟨HF,LW,E⟩:=aK HF LW E aj aJ aM;refine zr ?_;refine zh rfl gH rfl (vc _ ua A1 B1 c1 d1 (HF.on E).here.1.1.1.2 hl false h1) E fun w5 E=>(Ed ?_);exact ⟨by unfold La;rw[h1];rfl,(LW.step E aj).toBelow⟩
theorem al6 (h1:ua.good=true) (h2:ub.good=false):Calls prog 26 #[aP ua A1 c1 B1 d1,aP ub A2 c2 B2 d2] w (aH w (.bool (La ua ub))):=by
 have _:=hx;have _:=hl;have _:=ha;have _:=hy;have _:=hl';have _:=hb0;refine zc func26 rfl ntmps26 rfl ?_;obtain ⟨HF,LW,aj,E⟩:=bg w;replace HF:=HF.and (Per.ay hx);replace HF:=HF.and (Per.ay hy);refine zf ?_;intro aO w2 aD aI aW;obtain ⟨HF,LW,E⟩:=aK HF LW E aj aD aI;refine za rfl (zn rfl ?_);intro bM w4 aJ aM bN;obtain ⟨HF,LW,E⟩:=aK HF LW E aj aJ aM;refine zr ?_;refine zh rfl gH rfl (vc _ ua A1 B1 c1 d1 (HF.on E).here.1.1.1.2 hl true h1) E fun w5 E=>(AB ?_);rintro e w6 ⟨rfl,hb⟩;refine ⟨_,rfl,?_⟩;replace E:=bQ E hb;refine gf ?_;exact ⟨by unfold La;rw[h1,h2];rfl,(LW.step E aj).toBelow⟩
theorem al7 (h1:ua.good=true) (h2:ub.good=true) (h3:qd ua.k=true) (h4:qd ub.k=true):Calls prog 26 #[aP ua A1 c1 B1 d1,aP ub A2 c2 B2 d2] w (aH w (.bool (La ua ub))):=by
 have _:=hx;have _:=hl;have _:=ha;have _:=hy;have _:=hl';have _:=hb0;refine zc func26 rfl ntmps26 rfl ?_;obtain ⟨HF,LW,aj,E⟩:=bg w;replace HF:=HF.and (Per.ay hx);replace HF:=HF.and (Per.ay hy);refine zf ?_;intro aO w2 aD aI aW;obtain ⟨HF,LW,E⟩:=aK HF LW E aj aD aI;refine za rfl (zn rfl ?_);intro bM w4 aJ aM bN;obtain ⟨HF,LW,E⟩:=aK HF LW E aj aJ aM;refine zr ?_;refine zh rfl gH rfl (vc _ ua A1 B1 c1 d1 (HF.on E).here.1.1.1.2 hl true h1) E fun w5 E=>(zmk ?_);rintro e w6 ⟨rfl,hb⟩;refine ⟨_,rfl,?_⟩;replace E:=bQ E hb;refine yq ?_;refine zh rfl um rfl (kl _ ua A1 B1 c1 d1 true h3) E fun w7 E=>(zu ?_);refine bV rfl (zb um rfl ((kl _ ub A2 B2 c2 d2 true h4).mono ?_));rintro e w8 ⟨rfl,hb⟩;refine ⟨_,rfl,?_⟩;replace E:=bQ E hb;refine yu ?_;refine zh rfl aIz rfl (QT _ ua ub A1 B1 A2 B2 c1 d1 c2 d2 (HF.on E).here.1.1.1.2 hl ha (HF.on E).here.1.1.2 hl' hb0) E fun w9 E=>(yq ?_);by_cases ho:vD ua ub=true
 ·
  refine zd 28 (.bool true) rfl (by rw[ho]<;>rfl) ?_;exact QM
 ·
  have ho:=Bool.eq_false_iff.2 ho;refine zd 28 (.bool false) rfl (by rw[ho]<;>rfl) ?_;exact QM
theorem al8 (h1:ua.good=true) (h2:ub.good=true) (h3:qd ua.k=false):Calls prog 26 #[aP ua A1 c1 B1 d1,aP ub A2 c2 B2 d2] w (aH w (.bool (La ua ub))):=by
 have _:=hx;have _:=hl;have _:=ha;have _:=hy;have _:=hl';have _:=hb0;refine zc func26 rfl ntmps26 rfl ?_;obtain ⟨HF,LW,aj,E⟩:=bg w;replace HF:=HF.and (Per.ay hx);replace HF:=HF.and (Per.ay hy);refine zf ?_;intro aO w2 aD aI aW;obtain ⟨HF,LW,E⟩:=aK HF LW E aj aD aI;refine za rfl (zn rfl ?_);intro bM w4 aJ aM bN;obtain ⟨HF,LW,E⟩:=aK HF LW E aj aJ aM;refine zr ?_;refine zh rfl gH rfl (vc _ ua A1 B1 c1 d1 (HF.on E).here.1.1.1.2 hl true h1) E fun w5 E=>(zmk ?_);rintro e w6 ⟨rfl,hb⟩;refine ⟨_,rfl,?_⟩;replace E:=bQ E hb;refine yq ?_;refine zh rfl um rfl (kl _ ua A1 B1 c1 d1 false h3) E fun w7 E=>(Ed ?_);by_cases ho:(ua.k==ub.k)=true
 ·
  refine zd 37 (.bool true) rfl (by rw[ho]<;>rfl) ?_;exact QN
 ·
  have ho:=Bool.eq_false_iff.2 ho;refine zd 37 (.bool false) rfl (by rw[ho]<;>rfl) ?_;exact QN
theorem al9 (h1:ua.good=true) (h2:ub.good=true) (h3:qd ua.k=true) (h4:qd ub.k=false):Calls prog 26 #[aP ua A1 c1 B1 d1,aP ub A2 c2 B2 d2] w (aH w (.bool (La ua ub))):=by
 have _:=hx;have _:=hl;have _:=ha;have _:=hy;have _:=hl';have _:=hb0;refine zc func26 rfl ntmps26 rfl ?_;obtain ⟨HF,LW,aj,E⟩:=bg w;replace HF:=HF.and (Per.ay hx);replace HF:=HF.and (Per.ay hy);refine zf ?_;intro aO w2 aD aI aW;obtain ⟨HF,LW,E⟩:=aK HF LW E aj aD aI;refine za rfl (zn rfl ?_);intro bM w4 aJ aM bN;obtain ⟨HF,LW,E⟩:=aK HF LW E aj aJ aM;refine zr ?_;refine zh rfl gH rfl (vc _ ua A1 B1 c1 d1 (HF.on E).here.1.1.1.2 hl true h1) E fun w5 E=>(zmk ?_);rintro e w6 ⟨rfl,hb⟩;refine ⟨_,rfl,?_⟩;replace E:=bQ E hb;refine yq ?_;refine zh rfl um rfl (kl _ ua A1 B1 c1 d1 true h3) E fun w7 E=>(zu ?_);refine bV rfl (zb um rfl ((kl _ ub A2 B2 c2 d2 false h4).mono ?_));rintro e w8 ⟨rfl,hb⟩;refine ⟨_,rfl,?_⟩;replace E:=bQ E hb;refine go ?_;by_cases ho:(ua.k==ub.k)=true
 ·
  refine zd 37 (.bool true) rfl (by rw[ho]<;>rfl) ?_;exact QO
 ·
  have ho:=Bool.eq_false_iff.2 ho;refine zd 37 (.bool false) rfl (by rw[ho]<;>rfl) ?_;exact QO
theorem QU:Calls prog 26 #[aP ua A1 c1 B1 d1,aP ub A2 c2 B2 d2] w (aH w (.bool (La ua ub))):=by
 cases h1:ua.good
 · exact al5 w ua ub A1 B1 A2 B2 c1 d1 c2 d2 hx hl ha hy hl' hb0 h1
 cases h2:ub.good
 · exact al6 w ua ub A1 B1 A2 B2 c1 d1 c2 d2 hx hl ha hy hl' hb0 h1 h2
 cases h3:qd ua.k
 · exact al8 w ua ub A1 B1 A2 B2 c1 d1 c2 d2 hx hl ha hy hl' hb0 h1 h2 h3
 cases h4:qd ub.k
 · exact al9 w ua ub A1 B1 A2 B2 c1 d1 c2 d2 hx hl ha hy hl' hb0 h1 h2 h3 h4
 · exact al7 w ua ub A1 B1 A2 B2 c1 d1 c2 d2 hx hl ha hy hl' hb0 h1 h2 h3 h4
theorem alq (h1:ua.good=false):Calls prog 11 #[aP ua A1 c1 B1 d1,aP ub A2 c2 B2 d2] w (aH w (.bool (Fu ua ub))):=by
 have _:=hx;have _:=hl;have _:=ha;have _:=hy;have _:=hl';have _:=hb0;refine zc func11 rfl ntmps11 rfl ?_;obtain ⟨HF,LW,aj,E⟩:=bg w;replace HF:=HF.and (Per.ay hx);replace HF:=HF.and (Per.ay hy);refine zf ?_;intro aO w2 aD aI aW;obtain ⟨HF,LW,E⟩:=aK HF LW E aj aD aI;refine za rfl (zn rfl ?_);intro bM w4 aJ aM bN;obtain ⟨HF,LW,E⟩:=aK HF LW E aj aJ aM;refine zr ?_;refine zh rfl gH rfl (vc _ ua A1 B1 c1 d1 (HF.on E).here.1.1.1.2 hl false h1) E fun w5 E=>(yI ?_);exact ⟨by unfold Fu;rw[h1];rfl,(LW.step E aj).toBelow⟩
theorem alz (h1:ua.good=true) (h2:ub.good=false):Calls prog 11 #[aP ua A1 c1 B1 d1,aP ub A2 c2 B2 d2] w (aH w (.bool (Fu ua ub))):=by
 have _:=hx;have _:=hl;have _:=ha;have _:=hy;have _:=hl';have _:=hb0;refine zc func11 rfl ntmps11 rfl ?_;obtain ⟨HF,LW,aj,E⟩:=bg w;replace HF:=HF.and (Per.ay hx);replace HF:=HF.and (Per.ay hy);refine zf ?_;intro aO w2 aD aI aW;obtain ⟨HF,LW,E⟩:=aK HF LW E aj aD aI;refine za rfl (zn rfl ?_);intro bM w4 aJ aM bN;obtain ⟨HF,LW,E⟩:=aK HF LW E aj aJ aM;refine zr ?_;refine zh rfl gH rfl (vc _ ua A1 B1 c1 d1 (HF.on E).here.1.1.1.2 hl true h1) E fun w5 E=>(AB ?_);rintro e w6 ⟨rfl,hb⟩;refine ⟨_,rfl,?_⟩;replace E:=bQ E hb;refine OI ?_;exact ⟨by unfold Fu;rw[h1,h2];rfl,(LW.step E aj).toBelow⟩
theorem alj (h1:ua.good=true) (h2:ub.good=true) (h3:(ua.k==ub.k)=false):Calls prog 11 #[aP ua A1 c1 B1 d1,aP ub A2 c2 B2 d2] w (aH w (.bool (Fu ua ub))):=by
 have _:=hx;have _:=hl;have _:=ha;have _:=hy;have _:=hl';have _:=hb0;refine zc func11 rfl ntmps11 rfl ?_;obtain ⟨HF,LW,aj,E⟩:=bg w;replace HF:=HF.and (Per.ay hx);replace HF:=HF.and (Per.ay hy);refine zf ?_;intro aO w2 aD aI aW;obtain ⟨HF,LW,E⟩:=aK HF LW E aj aD aI;refine za rfl (zn rfl ?_);intro bM w4 aJ aM bN;obtain ⟨HF,LW,E⟩:=aK HF LW E aj aJ aM;refine zr ?_;refine zh rfl gH rfl (vc _ ua A1 B1 c1 d1 (HF.on E).here.1.1.1.2 hl true h1) E fun w5 E=>(zmk ?_);rintro e w6 ⟨rfl,hb⟩;refine ⟨_,rfl,?_⟩;replace E:=bQ E hb;refine yq ?_;refine ze 19 (.bool true) rfl (by show Value.bool (!(ua.k==ub.k))=_;rw[h3];rfl) (qo ?_);exact ⟨by unfold Fu;rw[h1,h2,h3];rfl,(LW.step E aj).toBelow⟩
theorem am0 (h1:ua.good=true) (h2:ub.good=true) (h3:(ua.k==ub.k)=true) (h4:ua.k=2):Calls prog 11 #[aP ua A1 c1 B1 d1,aP ub A2 c2 B2 d2] w (aH w (.bool (Fu ua ub))):=by
 have _:=hx;have _:=hl;have _:=ha;have _:=hy;have _:=hl';have _:=hb0;refine zc func11 rfl ntmps11 rfl ?_;obtain ⟨HF,LW,aj,E⟩:=bg w;replace HF:=HF.and (Per.ay hx);replace HF:=HF.and (Per.ay hy);refine zf ?_;intro aO w2 aD aI aW;obtain ⟨HF,LW,E⟩:=aK HF LW E aj aD aI;refine za rfl (zn rfl ?_);intro bM w4 aJ aM bN;obtain ⟨HF,LW,E⟩:=aK HF LW E aj aJ aM;refine zr ?_;refine zh rfl gH rfl (vc _ ua A1 B1 c1 d1 (HF.on E).here.1.1.1.2 hl true h1) E fun w5 E=>(zmk ?_);rintro e w6 ⟨rfl,hb⟩;refine ⟨_,rfl,?_⟩;replace E:=bQ E hb;refine lH ?_;refine ze 22 (.bool true) rfl (by simp[h4]) (ye ?_);refine za rfl (qdk u24 rfl kz rfl (HF.on E).here.1.2 rfl rfl (aQ ?_));refine yyk ?_;refine zh rfl ai0 rfl (uN A1 A2 c1 c2 ua.xs ub.xs _ ua.neg ub.neg (HF.on E).here.1.1.1.2 (HF.on E).here.1.1.2 hl hl') E fun w7 E=>(yu ?_);exact ⟨by unfold Fu;rw[h1,h2,h3,if_pos h4];rfl,(LW.step E aj).toBelow⟩
theorem am1 (h1:ua.good=true) (h2:ub.good=true) (h3:(ua.k==ub.k)=true) (h4:ua.k=3):Calls prog 11 #[aP ua A1 c1 B1 d1,aP ub A2 c2 B2 d2] w (aH w (.bool (Fu ua ub))):=by
 have _:=hx;have _:=hl;have _:=ha;have _:=hy;have _:=hl';have _:=hb0;refine zc func11 rfl ntmps11 rfl ?_;obtain ⟨HF,LW,aj,E⟩:=bg w;replace HF:=HF.and (Per.ay hx);replace HF:=HF.and (Per.ay hy);refine zf ?_;intro aO w2 aD aI aW;obtain ⟨HF,LW,E⟩:=aK HF LW E aj aD aI;refine za rfl (zn rfl ?_);intro bM w4 aJ aM bN;obtain ⟨HF,LW,E⟩:=aK HF LW E aj aJ aM;refine zr ?_;refine zh rfl gH rfl (vc _ ua A1 B1 c1 d1 (HF.on E).here.1.1.1.2 hl true h1) E fun w5 E=>(zmk ?_);rintro e w6 ⟨rfl,hb⟩;refine ⟨_,rfl,?_⟩;replace E:=bQ E hb;refine lH ?_;refine ze 22 (.bool false) rfl (by simp[h4]) (zr ?_);refine ze 30 (.bool true) rfl (by simp[h4]) (zu ?_);have OY:∀q9,(ak (km [])) q9→q9<(World.drew w6).heap.size→(No) q9:=fun k h _=>(ak.none_) k h;refine yx (No) ak.none_ [] [] (xq [Fx.of (.pointer (some ⟨aO,4,none⟩)),
  Fx.of (.int .u64 (ua.bits:Int)),
  Fx.of (.int .u64 ((qz (qa ua.bits):Nat):Int)),
  Fx.of (.pointer (some ⟨bM,4,none⟩)),
  Fx.of (.int .u64 (ub.bits:Int)),
  Fx.of (.int .u64 ((qz (qa ub.bits):Nat):Int)),
  Fx.of (.bool (((qz (qa ua.bits):Nat):Int)==((qz (qa ub.bits):Nat):Int))),
  Fx.of (.bool (((qz (qa ua.bits):Nat):Int)==((qz (qa ub.bits):Nat):Int)))]) mixed rfl trivial (fun _ h=>by cases h) ?_ ?_
 · refine ⟨arm,arm,?_,arm,arm,?_,arm,arm,trivial⟩
   · refine qh ?_;intro vs X wq K;refine zb VA rfl ((yox _ ua.bits).mono ?_);exact II
   · refine qh ?_;intro vs X wq K;refine zb VA rfl ((yox _ ub.bits).mono ?_);exact II
 intro vs w7 LE AO AL AF AA;replace E:=E.drew.trans (LE.mono OY);obtain ⟨_,e7,k7⟩:=AL.2.2.2.2.2.2.2.1;refine vo (τ:=[(2,_),(3,_),(4,.bool (((qz (qa ua.bits):Nat):Int)==((qz (qa ub.bits):Nat):Int)))]) ⟨rfl,rfl,congrArg some e7,trivial⟩ ?_;clear AL AF AA LE AO OY e7 k7;refine zv ?_;exact ⟨by unfold Fu;rw[h1,h2,h3,if_neg (show ¬ua.k=2 from om),if_pos h4];rfl,(LW.step E aj).toBelow⟩
theorem am2 (h1:ua.good=true) (h2:ub.good=true) (h3:(ua.k==ub.k)=true) (h4:ua.k≠2) (h5:ua.k≠3):Calls prog 11 #[aP ua A1 c1 B1 d1,aP ub A2 c2 B2 d2] w (aH w (.bool (Fu ua ub))):=by
 have _:=hx;have _:=hl;have _:=ha;have _:=hy;have _:=hl';have _:=hb0;refine zc func11 rfl ntmps11 rfl ?_;obtain ⟨HF,LW,aj,E⟩:=bg w;replace HF:=HF.and (Per.ay hx);replace HF:=HF.and (Per.ay hy);refine zf ?_;intro aO w2 aD aI aW;obtain ⟨HF,LW,E⟩:=aK HF LW E aj aD aI;refine za rfl (zn rfl ?_);intro bM w4 aJ aM bN;obtain ⟨HF,LW,E⟩:=aK HF LW E aj aJ aM;refine zr ?_;refine zh rfl gH rfl (vc _ ua A1 B1 c1 d1 (HF.on E).here.1.1.1.2 hl true h1) E fun w5 E=>(zmk ?_);rintro e w6 ⟨rfl,hb⟩;refine ⟨_,rfl,?_⟩;replace E:=bQ E hb;refine lH ?_;refine ze 22 (.bool false) rfl (by simp[h4]) (zr ?_);refine ze 30 (.bool false) rfl (by simp[h5]) (zy ?_);refine za rfl (tH u4 rfl rfl (aQ ?_));by_cases ho:(ua.yes==ub.yes)=true
 ·
  refine zd 44 (.bool true) rfl (by rw[ho]<;>rfl) ?_;exact QS
 ·
  have ho:=Bool.eq_false_iff.2 ho;refine zd 44 (.bool false) rfl (by rw[ho]<;>rfl) ?_;exact QS
theorem vE:Calls prog 11 #[aP ua A1 c1 B1 d1,aP ub A2 c2 B2 d2] w (aH w (.bool (Fu ua ub))):=by
 cases h1:ua.good
 · exact alq w ua ub A1 B1 A2 B2 c1 d1 c2 d2 hx hl ha hy hl' hb0 h1
 cases h2:ub.good
 · exact alz w ua ub A1 B1 A2 B2 c1 d1 c2 d2 hx hl ha hy hl' hb0 h1 h2
 cases h3:(ua.k==ub.k)
 · exact alj w ua ub A1 B1 A2 B2 c1 d1 c2 d2 hx hl ha hy hl' hb0 h1 h2 h3
 by_cases h4:ua.k=2
 · exact am0 w ua ub A1 B1 A2 B2 c1 d1 c2 d2 hx hl ha hy hl' hb0 h1 h2 h3 h4
 by_cases h5:ua.k=3
 · exact am1 w ua ub A1 B1 A2 B2 c1 d1 c2 d2 hx hl ha hy hl' hb0 h1 h2 h3 h5
 · exact am2 w ua ub A1 B1 A2 B2 c1 d1 c2 d2 hx hl ha hy hl' hb0 h1 h2 h3 h4 h5
end
end Go.Proofs.YtmnmebdmpigddaaGreatDoor
namespace Go.Proofs.YtmnmebdmpigddaaGreatDoor
open Go.RowKit Proofs.Tryz
theorem AJ {P Q:Prop} (k:Q) (h:(Unit→Q)→P:=by
 intro zK;refine ye ?_;refine za rfl (kg rfl rfl (aC5 x) (za rfl (qmz (j:=x.toNat%16) u9 rfl rfl rfl (QV om) ?_)));exact zK ()):P:=h fun _=>k
theorem AP {P Q:Prop} (k:Q) (h:(Unit→Q)→P:=by
 intro zK;refine zt ?_;refine za rfl (kw (j:=i) u46 oH rfl rfl rfl hil (za rfl (jj u5 rfl rfl (hcell _ XI) ?_)));exact zK ()):P:=h fun _=>k
theorem AQ {P Q:Prop} (k:Q) (h:(Unit→Q)→P:=by
 intro zK;refine zv ?_;refine za rfl (jo rfl rfl de (aL7 x) (za rfl (qmz (j:=x.toNat/16) u9 rfl rfl rfl (QV (by have:=x.toNat_lt;omega)) ?_)));exact zK ()):P:=h fun _=>k
attribute [local irreducible] OW RS CW EW
def aL8:List UInt8:=[48,49,50,51,52,53,54,55,56,57,97,98,99,100,101,102]
def Dw (n:Nat):UInt8:=aL8.getD n 0
def qb (x:UInt8):List UInt8:=
 if x.toNat=10 then [92,110] else if x.toNat=9 then [92,116] else if x.toNat=92 then [92,x] else if x.toNat=39 then [92,x]
 else if x.toNat<32 then [92,120,Dw (x.toNat/16),Dw (x.toNat%16)] else if 126<x.toNat then [92,120,Dw (x.toNat/16),Dw (x.toNat%16)] else [x]
def xk (l:List UInt8):List UInt8:=39::l.flatMap qb
theorem am3 (x:UInt8):(qb x).length≤4:=by unfold qb;(repeat' split)<;>simp
theorem ru:∀(l:List UInt8),(xk l).length≤1+4*l.length
 | []=>de
 | x::l=>by
  have h:=ru l;have h2:=am3 x;unfold xk at h ⊢;simp only[List.length_cons,List.flatMap_cons,List.length_append] at h ⊢
  omega
theorem oo {l:List UInt8} {i:Nat} {x:UInt8} (h:l[i]? =some x):xk (l.take (i+1))=xk (l.take i)++qb x:=by
 unfold xk;obtain ⟨hi,he⟩:=List.getElem?_eq_some_iff.1 h;rw[List.take_succ_eq_append_getElem hi,List.flatMap_append,he];simp
theorem aL7 (x:UInt8):(x.toNat:Int).fdiv (2^(min (4:Int).toNat IntKind.u8.bits))=((x.toNat/16:Nat):Int):=by
 have key:∀n:Fin 256,(n.val:Int).fdiv (2^(min (4:Int).toNat IntKind.u8.bits))=((n.val/16:Nat):Int):=by decide +kernel
 exact key ⟨x.toNat,x.toNat_lt⟩
theorem aC5 (x:UInt8):IntKind.u8.wrap (BitVec.ofInt IntKind.u8.bits (x.toNat:Int) &&& BitVec.ofInt IntKind.u8.bits 15).toNat=((x.toNat%16:Nat):Int):=by
 have key:∀n:Fin 256,IntKind.u8.wrap (BitVec.ofInt IntKind.u8.bits (n.val:Int) &&& BitVec.ofInt IntKind.u8.bits 15).toNat=((n.val%16:Nat):Int):=by decide +kernel
 exact key ⟨x.toNat,x.toNat_lt⟩
theorem QV {j:Nat} (h:j<16):(⟨#[48,49,50,51,52,53,54,55,56,57,97,98,99,100,101,102]⟩:ByteArray)[j]? =some (Dw j):=by
 have key:∀n:Fin 16,(#[48,49,50,51,52,53,54,55,56,57,97,98,99,100,101,102]:Array UInt8)[n.val]? =some (Dw n.val):=by decide +kernel
 exact key ⟨j,h⟩
section
variable (w:World) (ua:PV) (A1 B1:Option Addr) (c1 d1:Nat) (hx:aA w A1 ua.xs) (hl:ua.xs.length≤9223372036854775807) (g1:ua.good=true) (h4:ua.k=4) (hsl:ua.s.size≤20000)
include hx hl g1 h4 hsl
theorem QW:Calls prog 23 #[aP ua A1 c1 B1 d1] w (aH w (.string ⟨(xk ua.s.data.toList++ [39]).toArray⟩)):=by
 have hsn:ua.s.data.toList.length=ua.s.size:=by rw[Array.length_toList];rfl
 obtain ⟨lo,hlo⟩:∃lo,lo=w.heap.size:=⟨_,rfl⟩;refine zc func23 rfl ntmps23 rfl (zf ?_);rintro gv wA BX E1 G1;refine zy ?_;refine zd 9 (.bool false) rfl (by rw[h4];rfl) (bV rfl (yix (cs:=#[.int .i64 ua.k,.bool ua.yes,.bool ua.neg,.slice A1 ua.xs.length c1,.int .u64 (ua.bits:Int),.string ua.s,.slice B1 ua.ni d1]) u28 rfl jf rfl rfl (fun j v hj↦by have h:=(BX.cell j).trans hj;rw[Nat.zero_add];exact h) (bV rfl (zb gH rfl ((vc _ ua A1 B1 c1 d1 (Per.ay hx _ E1) hl true g1).mono ?_)))));rintro e w1 ⟨rfl,hb⟩;refine ⟨_,rfl,?_⟩;have E2:=E1.trans (Ext.of_below hb No);have BX2:=BX.ext (Ext.of_below hb No) (fun h=>h.elim);refine qo ?_;refine za rfl (zkv aHq ?_);rintro gb wB BB E3 G3;have E4:=E2.trans E3;have BX3:=BX2.ext E3 (fun h=>h.elim);have hs2:=E2.size;have hgb:lo≤gb:=om;obtain ⟨hi,hhi⟩:∃hi,hi=wB.heap.size:=⟨_,rfl⟩;have hs4:=E4.size;have hlh:lo≤hi:=om;refine ye ?_;refine za rfl (zb jK rfl ((OQ _ lo gb (.pointer none) (Or.inl rfl) [] de (fun q=>hi≤q) ⟨none,0,BB,NY,fun q hq=>(by cases hq)⟩ hgb (fun q hq=>by show hi≤q;omega) 39).mono ?_));rintro e w2 ⟨rfl,M0,X0⟩;refine ⟨_,rfl,?_⟩;have T0:Ext (fun q=>lo≤q) w w2:=(E4.noL lo).step X0 (fun q hq=>Or.inl (hq.elim (fun h=>by show lo≤q;omega) (fun h=>by have h:hi≤q:=h;show lo≤q;omega)));obtain ⟨A3,c3,MB,MO,MF⟩:=M0;have hvb:gv<gb:=by have:=BX2.lt;omega
 have hbh:gb<hi:=by have:=BB.lt;omega
 have BX4:=BX3.ext X0 (fun hq=>hq.elim (fun h=>om) (fun h=>by have h:hi≤gv:=h;omega));refine zr ?_;refine za rfl (qsk u9 u46 u5 rfl rfl rfl ?_);rintro gx cx wC RX E5 GX;have T1:=T0.step E5 (fun _ h=>h.elim);have hsX:=X0.size;have M1:MZ wC lo gb (.pointer (some ⟨gb,0,none⟩)) (xk (ua.s.data.toList.take 0)) (fun q=>hi≤q∧(0<ua.s.size→q≠gx)):=MZ.no ⟨A3,c3,MB,MO,fun q hq=>⟨MF q hq,fun _ e=>by have:=GU MO q hq;omega⟩⟩ E5;have aL9:0<ua.s.size→gx<wC.heap.size:=fun h0=>World.block_lt_of_cell? _ _ (RX 0 _ (by rw[List.getElem?_map,List.getElem?_eq_getElem (show 0<ua.s.data.toList.length from om)];rfl));have IJ:∀ {z},Ext (fun q=>q=gb∨(hi≤q∧(0<ua.s.size→q≠gx))) wC z→ ∀q,z.heap.size≤q→hi≤q∧(0<ua.s.size→q≠gx):=fun h q hq=>by
  have h1:=h.size;have h2:=E5.size;exact ⟨om,fun h0 e=>by have:=aL9 h0;omega⟩
 refine zv ?_;refine jd (ι:=Nat) (fun i=>[(3,.pointer (some ⟨gb,0,none⟩)),(19,.slice (some ⟨gx,0,none⟩) ua.s.size cx),(20,.int .i64 (ua.s.size:Int)),(21,.int .i64 ((i:Nat):Int))]) (fun i w'=>i≤ua.s.size∧Ext (fun q=>q=gb∨(hi≤q∧(0<ua.s.size→q≠gx))) wC w'∧MZ w' lo gb (.pointer (some ⟨gb,0,none⟩)) (xk (ua.s.data.toList.take i)) (fun q=>hi≤q∧(0<ua.s.size→q≠gx))) (fun i=>ua.s.size-i) 0 ⟨rfl,rfl,rfl,rfl,trivial⟩ (⟨Nat.zero_le _,Ext.refl _ _,M1⟩) ?_;rintro i w4 ⟨hin,XI,MI⟩;have hML:=ru (ua.s.data.toList.take i);rw[List.length_take] at hML;have hM0:0<(xk (ua.s.data.toList.take i)).length:=Nat.zero_lt_succ _;refine zt ?_;refine zj rfl (fun hic=>?_) (fun hic=>?_)
 ·
  have hic:=of_decide_eq_true hic;have hil:i<ua.s.size:=om;obtain ⟨x,hxl⟩:∃x,ua.s.data.toList[i]? =some x:=⟨_,List.getElem?_eq_getElem om⟩;have hcell:∀z,Ext (fun q=>q=gb∨(hi≤q∧(0<ua.s.size→q≠gx))) wC z→z.cell? ⟨gx,0+i,none⟩=some (.int .u8 (x.toNat:Int)):=fun z hz=>by
   have h1:=RX i (.int .u8 (x.toNat:Int)) (by rw[List.getElem?_map,hxl];rfl);rw[Nat.zero_add];refine (hz.cell (World.block_lt_of_cell? _ _ h1) (fun hq=>hq.elim (fun h=>?_) (fun h=>h.2 om rfl))).trans h1;have h:gx=gb:=h;have:=hsX;omega
  refine AP ?_;refine yq ?_;by_cases h10:x.toNat=10
  ·
   refine ze 27 (.bool true) rfl (by rw[h10];rfl) (zu ?_);refine za rfl (zb VB rfl ((qyk _ lo gb _ (Or.inr rfl) (xk (ua.s.data.toList.take i)) (by first | omega | (simp only[List.length_append,List.length_cons,List.length_nil];omega)) (fun q=>hi≤q∧(0<ua.s.size→q≠gx)) MI hgb (IJ XI) ⟨#[92,110]⟩ de (by first | omega | (simp only[List.length_append];omega))).mono ?_));rintro e w5 ⟨rfl,M1,X1⟩;refine ⟨_,rfl,?_⟩;have T1:=XI.step X1 (fun q hq=>Or.inl hq);refine ji ?_;exact yc (i+1) (by show ua.s.size-(i+1)<ua.s.size-i;omega) ⟨rfl,rfl,rfl,rfl,trivial⟩ (⟨om,T1,by rw[oo hxl];rw[show qb x= [92,110] from (by unfold qb;rw[if_pos h10])];first | exact M1 | (have h:=M1;simp only[List.append_assoc] at h;exact h)⟩)
  ·
   refine ze 27 (.bool false) rfl (congrArg Value.bool (beq_eq_false_iff_ne.2 (fun h=>h10 om))) (yu ?_);by_cases h9:x.toNat=9
   ·
    refine ze 31 (.bool true) rfl (by rw[h9];rfl) (zu ?_);refine za rfl (zb VB rfl ((qyk _ lo gb _ (Or.inr rfl) (xk (ua.s.data.toList.take i)) (by first | omega | (simp only[List.length_append,List.length_cons,List.length_nil];omega)) (fun q=>hi≤q∧(0<ua.s.size→q≠gx)) MI hgb (IJ XI) ⟨#[92,116]⟩ de (by first | omega | (simp only[List.length_append];omega))).mono ?_));rintro e w6 ⟨rfl,M2,X2⟩;refine ⟨_,rfl,?_⟩;have T2:=XI.step X2 (fun q hq=>Or.inl hq);refine ji ?_;exact yc (i+1) (by show ua.s.size-(i+1)<ua.s.size-i;omega) ⟨rfl,rfl,rfl,rfl,trivial⟩ (⟨om,T2,by rw[oo hxl];rw[show qb x= [92,116] from (by unfold qb;rw[if_neg h10,if_pos h9])];first | exact M2 | (have h:=M2;simp only[List.append_assoc] at h;exact h)⟩)
   ·
    refine ze 31 (.bool false) rfl (congrArg Value.bool (beq_eq_false_iff_ne.2 (fun h=>h9 om))) (zt ?_);by_cases h92:x.toNat=92
    ·
     refine zd 38 (.bool true) rfl (by rw[h92];rfl) (qo ?_);refine za rfl (zb jK rfl ((OQ _ lo gb _ (Or.inr rfl) (xk (ua.s.data.toList.take i)) (by first | omega | (simp only[List.length_append,List.length_cons,List.length_nil];omega)) (fun q=>hi≤q∧(0<ua.s.size→q≠gx)) MI hgb (IJ XI) 92).mono ?_));rintro e w7 ⟨rfl,M3,X3⟩;refine ⟨_,rfl,?_⟩;have T3:=XI.step X3 (fun q hq=>Or.inl hq);refine ye ?_;refine za rfl (zb jK rfl ((OQ _ lo gb _ (Or.inr rfl) ((xk (ua.s.data.toList.take i))++ [92]) (by first | omega | (simp only[List.length_append,List.length_cons,List.length_nil];omega)) (fun q=>hi≤q∧(0<ua.s.size→q≠gx)) M3 hgb (IJ T3) x).mono ?_));rintro e w8 ⟨rfl,M4,X4⟩;refine ⟨_,rfl,?_⟩;have T4:=T3.step X4 (fun q hq=>Or.inl hq);refine ji ?_;exact yc (i+1) (by show ua.s.size-(i+1)<ua.s.size-i;omega) ⟨rfl,rfl,rfl,rfl,trivial⟩ (⟨om,T4,by rw[oo hxl];rw[show qb x= [92,x] from (by unfold qb;rw[if_neg h10,if_neg h9,if_pos h92])];first | exact M4 | (have h:=M4;simp only[List.append_assoc] at h;exact h)⟩)
    ·
     refine zd 38 (.bool false) rfl (congrArg Value.bool (beq_eq_false_iff_ne.2 (fun h=>h92 om))) (zt ?_);by_cases h39:x.toNat=39
     ·
      refine ze 35 (.bool true) rfl (by rw[h39];rfl) (zq ?_);refine za rfl (zb jK rfl ((OQ _ lo gb _ (Or.inr rfl) (xk (ua.s.data.toList.take i)) (by first | omega | (simp only[List.length_append,List.length_cons,List.length_nil];omega)) (fun q=>hi≤q∧(0<ua.s.size→q≠gx)) MI hgb (IJ XI) 92).mono ?_));rintro e w9 ⟨rfl,M5,X5⟩;refine ⟨_,rfl,?_⟩;have T5:=XI.step X5 (fun q hq=>Or.inl hq);refine ye ?_;refine za rfl (zb jK rfl ((OQ _ lo gb _ (Or.inr rfl) ((xk (ua.s.data.toList.take i))++ [92]) (by first | omega | (simp only[List.length_append,List.length_cons,List.length_nil];omega)) (fun q=>hi≤q∧(0<ua.s.size→q≠gx)) M5 hgb (IJ T5) x).mono ?_));rintro e dI ⟨rfl,M6,X6⟩;refine ⟨_,rfl,?_⟩;have T6:=T5.step X6 (fun q hq=>Or.inl hq);refine ji ?_;exact yc (i+1) (by show ua.s.size-(i+1)<ua.s.size-i;omega) ⟨rfl,rfl,rfl,rfl,trivial⟩ (⟨om,T6,by rw[oo hxl];rw[show qb x= [92,x] from (by unfold qb;rw[if_neg h10,if_neg h9,if_neg h92,if_pos h39])];first | exact M6 | (have h:=M6;simp only[List.append_assoc] at h;exact h)⟩)
     ·
      refine ze 35 (.bool false) rfl (congrArg Value.bool (beq_eq_false_iff_ne.2 (fun h=>h39 om))) (zt ?_);by_cases h32:x.toNat<32
      ·
       refine zd 48 (.bool true) rfl (congrArg Value.bool (decide_eq_true (show (x.toNat:Int)<32 from om))) (qo ?_);refine za rfl (zb VB rfl ((qyk _ lo gb _ (Or.inr rfl) (xk (ua.s.data.toList.take i)) (by first | omega | (simp only[List.length_append,List.length_cons,List.length_nil];omega)) (fun q=>hi≤q∧(0<ua.s.size→q≠gx)) MI hgb (IJ XI) ⟨#[92,120]⟩ de (by first | omega | (simp only[List.length_append];omega))).mono ?_));rintro e dS ⟨rfl,M7,X7⟩;refine ⟨_,rfl,?_⟩;have T7:=XI.step X7 (fun q hq=>Or.inl hq);refine AQ ?_;refine za rfl (zb jK rfl ((OQ _ lo gb _ (Or.inr rfl) ((xk (ua.s.data.toList.take i))++ [92,120]) (by first | omega | (simp only[List.length_append,List.length_cons,List.length_nil];omega)) (fun q=>hi≤q∧(0<ua.s.size→q≠gx)) M7 hgb (IJ T7) (Dw (x.toNat/16))).mono ?_));rintro e eB ⟨rfl,M8,X8⟩;refine ⟨_,rfl,?_⟩;have T8:=T7.step X8 (fun q hq=>Or.inl hq);refine AJ ?_;refine za rfl (zb jK rfl ((OQ _ lo gb _ (Or.inr rfl) (((xk (ua.s.data.toList.take i))++ [92,120])++ [(Dw (x.toNat/16))]) (by first | omega | (simp only[List.length_append,List.length_cons,List.length_nil];omega)) (fun q=>hi≤q∧(0<ua.s.size→q≠gx)) M8 hgb (IJ T8) (Dw (x.toNat%16))).mono ?_));rintro e fK ⟨rfl,M9,X9⟩;refine ⟨_,rfl,?_⟩;have T9:=T8.step X9 (fun q hq=>Or.inl hq);refine ji ?_;exact yc (i+1) (by show ua.s.size-(i+1)<ua.s.size-i;omega) ⟨rfl,rfl,rfl,rfl,trivial⟩ (⟨om,T9,by rw[oo hxl];rw[show qb x= [92,120,Dw (x.toNat/16),Dw (x.toNat%16)] from (by unfold qb;rw[if_neg h10,if_neg h9,if_neg h92,if_neg h39,if_pos h32])];first | exact M9 | (have h:=M9;simp only[List.append_assoc] at h;exact h)⟩)
      ·
       refine zd 48 (.bool false) rfl (congrArg Value.bool (decide_eq_false (show ¬(x.toNat:Int)<32 from om))) (zt ?_);by_cases aC6:126<x.toNat
       ·
        refine ze 45 (.bool true) rfl (congrArg Value.bool (decide_eq_true (show (126:Int)<(x.toNat:Int) from om))) (zq ?_);refine za rfl (zb VB rfl ((qyk _ lo gb _ (Or.inr rfl) (xk (ua.s.data.toList.take i)) (by first | omega | (simp only[List.length_append,List.length_cons,List.length_nil];omega)) (fun q=>hi≤q∧(0<ua.s.size→q≠gx)) MI hgb (IJ XI) ⟨#[92,120]⟩ de (by first | omega | (simp only[List.length_append];omega))).mono ?_));rintro e dL ⟨rfl,Xt,X10⟩;refine ⟨_,rfl,?_⟩;have T10:=XI.step X10 (fun q hq=>Or.inl hq);refine AQ ?_;refine za rfl (zb jK rfl ((OQ _ lo gb _ (Or.inr rfl) ((xk (ua.s.data.toList.take i))++ [92,120]) (by first | omega | (simp only[List.length_append,List.length_cons,List.length_nil];omega)) (fun q=>hi≤q∧(0<ua.s.size→q≠gx)) Xt hgb (IJ T10) (Dw (x.toNat/16))).mono ?_));rintro e fM ⟨rfl,M11,X11⟩;refine ⟨_,rfl,?_⟩;have T11:=T10.step X11 (fun q hq=>Or.inl hq);refine AJ ?_;refine za rfl (zb jK rfl ((OQ _ lo gb _ (Or.inr rfl) (((xk (ua.s.data.toList.take i))++ [92,120])++ [(Dw (x.toNat/16))]) (by first | omega | (simp only[List.length_append,List.length_cons,List.length_nil];omega)) (fun q=>hi≤q∧(0<ua.s.size→q≠gx)) M11 hgb (IJ T11) (Dw (x.toNat%16))).mono ?_));rintro e w16 ⟨rfl,IK,X12⟩;refine ⟨_,rfl,?_⟩;have T12:=T11.step X12 (fun q hq=>Or.inl hq);refine ji ?_;exact yc (i+1) (by show ua.s.size-(i+1)<ua.s.size-i;omega) ⟨rfl,rfl,rfl,rfl,trivial⟩ (⟨om,T12,by rw[oo hxl];rw[show qb x= [92,120,Dw (x.toNat/16),Dw (x.toNat%16)] from (by unfold qb;rw[if_neg h10,if_neg h9,if_neg h92,if_neg h39,if_neg h32,if_pos aC6])];first | exact IK | (have h:=IK;simp only[List.append_assoc] at h;exact h)⟩)
       ·
        refine ze 45 (.bool false) rfl (congrArg Value.bool (decide_eq_false (show ¬(126:Int)<(x.toNat:Int) from om))) (zq ?_);refine za rfl (zb jK rfl ((OQ _ lo gb _ (Or.inr rfl) (xk (ua.s.data.toList.take i)) (by first | omega | (simp only[List.length_append,List.length_cons,List.length_nil];omega)) (fun q=>hi≤q∧(0<ua.s.size→q≠gx)) MI hgb (IJ XI) x).mono ?_));rintro e nS ⟨rfl,iJ,X13⟩;refine ⟨_,rfl,?_⟩;have T13:=XI.step X13 (fun q hq=>Or.inl hq);refine ji ?_;exact yc (i+1) (by show ua.s.size-(i+1)<ua.s.size-i;omega) ⟨rfl,rfl,rfl,rfl,trivial⟩ (⟨om,T13,by rw[oo hxl];rw[show qb x= [x] from (by unfold qb;rw[if_neg h10,if_neg h9,if_neg h92,if_neg h39,if_neg h32,if_neg aC6])];first | exact iJ | (have h:=iJ;simp only[List.append_assoc] at h;exact h)⟩)
 ·
  have hic:=of_decide_eq_false hic;obtain rfl:i=ua.s.size:=om;rw[List.take_of_length_le om] at MI hML hM0;refine zr ?_;refine za rfl (zb jK rfl ((OQ _ lo gb _ (Or.inr rfl) (xk ua.s.data.toList) (by first | omega | (simp only[List.length_append,List.length_cons,List.length_nil];omega)) (fun q=>hi≤q∧(0<ua.s.size→q≠gx)) MI hgb (IJ XI) 39).mono ?_));rintro e fF ⟨rfl,M14,X14⟩;refine ⟨_,rfl,?_⟩;have T14:=XI.step X14 (fun q hq=>Or.inl hq);refine ye ?_;refine za rfl (zb aI8 rfl (((Tryz.Builder_String_any lo gb _ _ (MZ.lib M14 (Or.inr rfl) hgb) (by have:=T14.size;have:=T1.size;omega))).mono ?_));rintro e nT ⟨rfl,hb⟩;refine ⟨_,rfl,(zv ?_)⟩;exact ⟨rfl,((T1.step T14 (fun q hq=>Or.inl (hq.elim (fun h=>by show lo≤q;omega) (fun h=>by show lo≤q;omega)))).step (show Ext (fun q=>lo≤q) _ _ from ⟨hb.os,hb.tape,hb.output,hb.size,fun k _ hk=>hb.block k (Nat.lt_of_not_le hk)⟩) (fun q hq=>Or.inl hq)).below (fun q hq=>by rw[←hlo];exact hq)⟩
end
end Go.Proofs.YtmnmebdmpigddaaGreatDoor
namespace Go.Proofs.YtmnmebdmpigddaaGreatDoor
open Go.RowKit Proofs.Tryz
theorem lT {P Q:Prop} (k:Q) (h:(Unit→Q)→P:=by
 intro zK;refine za rfl (zb jJ rfl ((ztk _ ua A1 B1 c1 d1).mono ?_));exact zK ()):P:=h fun _=>k
theorem lU {P Q:Prop} (k:Q) (h:(Unit→Q)→P:=by
 intro zK;refine OI ?_;refine ze 11 (.bool false) rfl (by simp[h0]) (zr ?_);exact zK ()):P:=h fun _=>k
attribute [local irreducible] OW RS CW EW
def zoz (h:Nat) (x:UInt8):Nat:=(31*h+x.toNat+1)%2147483647
def ad5 (l:List UInt8):Nat:=l.foldl zoz l.length
noncomputable def Lm (v:PV):Int:=if v.good then (if v.k=0 then 1 else if v.k=3 then Q5 v.bits else if v.k=4 then ((ad5 v.s.data.toList:Nat):Int) else IL v.cn v.cx) else 0
def aLq (v:PV):Bool:=if v.good then (if v.k=1 then v.yes else if v.k=2 then decide ((0:Int)<(v.xs.length:Int)) else if v.k=3 then (IntKind.u64.wrap ((v.bits:Int)*2) !=0) else !(v.s.toList==(⟨#[]⟩:ByteArray).toList)) else false
theorem Xy (l:List UInt8) (h:Nat) (hh:h<2147483647):l.foldl zoz h<2147483647:=by
 induction l generalizing h with
 | nil=>exact hh
 | cons x l ih=>exact ih _ (Nat.mod_lt _ de)
theorem Lp {l:List UInt8} {i:Nat} {x:UInt8} (h:l[i]? =some x) (n:Nat):(l.take (i+1)).foldl zoz n=zoz ((l.take i).foldl zoz n) x:=by
 obtain ⟨hi,he⟩:=List.getElem?_eq_some_iff.1 h;rw[List.take_succ_eq_append_getElem hi,List.foldl_append,he];rfl
theorem am6 (m x:Nat):(31*((m:Nat):Int)+((x:Nat):Int)+1).tmod 2147483647=(((31*m+x+1)%2147483647:Nat):Int):=by
 rw[Int.tmod_eq_emod_of_nonneg om];omega
section
variable (w:World) (ua:PV) (A1 B1:Option Addr) (c1 d1:Nat) (hx:aA w A1 ua.xs) (hl:ua.xs.length≤9223372036854775807) (ha:ua.bits<18446744073709551616)
include hx hl ha
theorem ph0 (g1:ua.good=false):Calls prog 25 #[aP ua A1 c1 B1 d1] w (aH w (.int .i64 (Lm ua))):=by
 have _:=hx;have _:=hl;have _:=ha;refine zc func25 rfl ntmps25 rfl ?_;obtain ⟨HF,LW,aj,E⟩:=bg w;replace HF:=HF.and (Per.ay hx);refine zf ?_;intro aO w2 aD aI aW;obtain ⟨HF,LW,E⟩:=aK HF LW E aj aD aI;refine zr ?_;refine zh rfl gH rfl (vc _ ua A1 B1 c1 d1 (HF.on E).here.1.2 hl false g1) E fun w3 E=>(jm ?_);exact ⟨by unfold Lm;rw[g1];rfl,(LW.step E aj).toBelow⟩
theorem ph1 (g1:ua.good=true) (h0:ua.k=0):Calls prog 25 #[aP ua A1 c1 B1 d1] w (aH w (.int .i64 (Lm ua))):=by
 have _:=hx;have _:=hl;have _:=ha;refine zc func25 rfl ntmps25 rfl ?_;obtain ⟨HF,LW,aj,E⟩:=bg w;replace HF:=HF.and (Per.ay hx);refine zf ?_;intro aO w2 aD aI aW;obtain ⟨HF,LW,E⟩:=aK HF LW E aj aD aI;refine zr ?_;refine zh rfl gH rfl (vc _ ua A1 B1 c1 d1 (HF.on E).here.1.2 hl true g1) E fun w3 E=>(OI ?_);refine ze 11 (.bool true) rfl (by simp[h0]) (zy ?_);exact ⟨by unfold Lm;rw[g1,if_pos rfl,if_pos h0];rfl,(LW.step E aj).toBelow⟩
theorem ph2 (g1:ua.good=true) (h0:¬ua.k=0) (h3:ua.k=3):Calls prog 25 #[aP ua A1 c1 B1 d1] w (aH w (.int .i64 (Lm ua))):=by
 have _:=hx;have _:=hl;have _:=ha;refine zc func25 rfl ntmps25 rfl ?_;obtain ⟨HF,LW,aj,E⟩:=bg w;replace HF:=HF.and (Per.ay hx);refine zf ?_;intro aO w2 aD aI aW;obtain ⟨HF,LW,E⟩:=aK HF LW E aj aD aI;refine zr ?_;refine zh rfl gH rfl (vc _ ua A1 B1 c1 d1 (HF.on E).here.1.2 hl true g1) E fun w3 E=>(lU ?_);refine ze 13 (.bool true) rfl (by simp[h3]) (zv ?_);refine zh rfl aI9 rfl (Ra _ ua.bits ha) E fun w4 E=>(zr ?_);exact ⟨by unfold Lm;rw[g1,if_pos rfl,if_neg h0,if_pos h3];rfl,(LW.step E aj).toBelow⟩
theorem ph4 (g1:ua.good=true) (h0:¬ua.k=0) (h3:¬ua.k=3) (h4:¬ua.k=4):Calls prog 25 #[aP ua A1 c1 B1 d1] w (aH w (.int .i64 (Lm ua))):=by
 have _:=hx;have _:=hl;have _:=ha;have hcl:=PV.lF hl;refine zc func25 rfl ntmps25 rfl ?_;obtain ⟨HF,LW,aj,E⟩:=bg w;replace HF:=HF.and (Per.ay hx);refine zf ?_;intro aO w2 aD aI aW;obtain ⟨HF,LW,E⟩:=aK HF LW E aj aD aI;refine zr ?_;refine zh rfl gH rfl (vc _ ua A1 B1 c1 d1 (HF.on E).here.1.2 hl true g1) E fun w3 E=>(lU ?_);refine ze 13 (.bool false) rfl (by simp[h3]) (zr ?_);refine ze 18 (.bool false) rfl (by simp[h4]) (zr ?_);refine lT ?_;rintro e w4 ⟨A3,c3,rfl,hN,hb⟩;refine ⟨_,rfl,?_⟩;replace E:=bQ E hb;have hN3:aA w4 A3 ua.cx:=hN.elim (fun h=>by rw[h.1,h.2];exact (HF.on E).here.1.2) (fun h=>h.nums);refine zh rfl aIq rfl (A9 ua.cn A3 c3 ua.cx _ hN3 hcl) E fun w5 E=>(zv ?_);exact ⟨by unfold Lm;rw[g1,if_pos rfl,if_neg h0,if_neg h3,if_neg h4];rfl,(LW.step E aj).toBelow⟩
theorem ph3 (g1:ua.good=true) (h0:¬ua.k=0) (h3:¬ua.k=3) (h4:ua.k=4) (hsl:ua.s.size≤20000):Calls prog 25 #[aP ua A1 c1 B1 d1] w (aH w (.int .i64 (Lm ua))):=by
 have _:=ha;have hsn:ua.s.data.toList.length=ua.s.size:=by rw[Array.length_toList];rfl
 have hbx:∀x:UInt8,x.toNat<256:=fun x=>x.toNat_lt;refine zc func25 rfl ntmps25 rfl (zf ?_);rintro gv wA BX E1 G1;refine zt ?_;refine za rfl (yix (cs:=#[.int .i64 ua.k,.bool ua.yes,.bool ua.neg,.slice A1 ua.xs.length c1,.int .u64 (ua.bits:Int),.string ua.s,.slice B1 ua.ni d1]) u28 rfl jf rfl rfl (fun j v hj↦by have h:=(BX.cell j).trans hj;rw[Nat.zero_add];exact h) (za rfl (zb gH rfl ((vc _ ua A1 B1 c1 d1 (Per.ay hx _ E1) hl true g1).mono ?_))));rintro e w1 ⟨rfl,hb⟩;refine ⟨_,rfl,?_⟩;have E2:=E1.trans (Ext.of_below hb No);have BX2:=BX.ext (Ext.of_below hb No) (fun h=>h.elim);refine lU ?_;refine ze 13 (.bool false) rfl (by simp[h3]) (zr ?_);refine ze 18 (.bool true) rfl (by simp[h4]) (zv ?_);refine ve ?_;refine yu ?_;refine za rfl (qsk u9 u46 u5 rfl rfl rfl ?_);rintro gx cx wC RX E5 GX;have E6:=E2.trans E5;refine zv ?_;refine jd (ι:=Nat) (fun i=>[(3,.int .i64 (((ua.s.data.toList.take i).foldl zoz ua.s.size:Nat):Int)),(25,.slice (some ⟨gx,0,none⟩) ua.s.size cx),(26,.int .i64 (ua.s.size:Int)),(27,.int .i64 ((i:Nat):Int))]) (fun i w'=>i≤ua.s.size∧Ext No wC w') (fun i=>ua.s.size-i) 0 ⟨rfl,rfl,rfl,rfl,trivial⟩ (⟨Nat.zero_le _,Ext.refl _ _⟩) ?_;rintro i w3 ⟨hin,XI⟩;refine zt ?_;refine zj rfl (fun hic=>?_) (fun hic=>?_)
 ·
  have hic:=of_decide_eq_true hic;have hil:i<ua.s.size:=om;obtain ⟨x,hxl⟩:∃x,ua.s.data.toList[i]? =some x:=⟨_,List.getElem?_eq_getElem om⟩;have hxb:=hbx x;obtain ⟨m,hm⟩:∃m,m=(ua.s.data.toList.take i).foldl zoz ua.s.size:=⟨_,rfl⟩;have hml:m<2147483647:=by rw[hm];exact Xy _ _ om
  have hcell:∀z,Ext No wC z→z.cell? ⟨gx,0+i,none⟩=some (.int .u8 (x.toNat:Int)):=fun z hz=>by
   rw[Nat.zero_add];exact Per.aH4 RX z hz i (.int .u8 (x.toNat:Int)) (by rw[List.getElem?_map,hxl];rfl)
  rw[←hm];refine ze 3 (.int .i64 ((m:Nat):Int)) rfl (rfl) (AP ?_);refine zv ?_;refine yxv ?_;refine aQ ?_;refine qax ?_;refine yo ?_;refine za rfl (MV rfl rfl de (am6 m x.toNat) (ji ?_));exact yc (i+1) (by show ua.s.size-(i+1)<ua.s.size-i;omega) ⟨by rw[Lp hxl,←hm];rfl,rfl,rfl,rfl,trivial⟩ (⟨om,XI⟩)
 ·
  have hic:=of_decide_eq_false hic;obtain rfl:i=ua.s.size:=om;refine xd ?_;exact ⟨by unfold Lm ad5;rw[g1,if_pos rfl,if_neg h0,if_neg h3,if_pos h4,hsn,List.take_of_length_le om];rfl,(E6.trans XI).toBelow⟩
theorem Xz:Calls prog 25 #[aP ua A1 c1 B1 d1] w (aH w (.int .i64 (Lm ua))):=by
 cases g1:ua.good
 · exact ph0 w ua A1 B1 c1 d1 hx hl ha g1
 by_cases h0:ua.k=0
 · exact ph1 w ua A1 B1 c1 d1 hx hl ha g1 h0
 by_cases h3:ua.k=3
 · exact ph2 w ua A1 B1 c1 d1 hx hl ha g1 h0 h3
 by_cases h4:ua.k=4
 · exact ph3 w ua A1 B1 c1 d1 hx hl ha g1 h0 h3 h4 (PV.fq g1 h4)
 · exact ph4 w ua A1 B1 c1 d1 hx hl ha g1 h0 h3 h4
end
end Go.Proofs.YtmnmebdmpigddaaGreatDoor
namespace Go.Proofs.YtmnmebdmpigddaaGreatDoor
open Go.RowKit Proofs.Tryz
theorem Bb {P Q:Prop} (k:Q) (h:(Unit→Q)→P:=by
 intro zK;refine zq ?_;refine ki (rs:=[.cell 2 28]) (vs:=[_]) rfl ⟨⟨_,rfl,ymv u28 rfl jf QL rfl⟩,trivial⟩ ?_;exact zK ()):P:=h fun _=>k
theorem Bd {P Q:Prop} (k:Q) (h:(Unit→Q)→P:=by
 intro zK;refine zv ?_;refine za rfl (ja (cs:=#[.int .i64 4,.bool false,.bool false,.slice none 0 0,.int .u64 0,.string s,.slice none 0 0]) wS yB rfl rfl ?_);exact zK ()):P:=h fun _=>k
theorem Bf {P Q:Prop} (k:Q) (h:(Unit→Q)→P:=by
 intro zK;refine zt ?_;refine zd 43 (.int .i64 0) rfl (by kernel_rfl:(.int .i64 (0:Nat):Value)=_) (zq ?_);refine zd 46 (.int .i64 0) rfl (by kernel_rfl:(.int .i64 (0:Nat):Value)=_) (go ?_);exact zK ()):P:=h fun _=>k
theorem Ri {P:Prop} (h:P:=by
 refine qh ?_;intro vs X wq K;refine pI rfl (zb aI3 rfl ((XA _).mono ?_));exact II):P:=h
theorem ad6 {P:Prop} (h:P:=by
 refine zp (zo jf rfl rfl BY rfl rfl rfl ?_);rintro wC QL E4;refine zq ?_;refine ki (rs:=[.cell 2 28]) (vs:=[_]) rfl ⟨⟨_,rfl,ymv u28 rfl jf QL rfl⟩,trivial⟩ ?_;exact ⟨rfl,(E2.step E4 (fun q hq=>Or.inr (by have:=ug hq;omega))).toBelow⟩):P:=h
attribute [local irreducible] OW RS CW EW
theorem aC7:(2:Int)=bX (zm false [1]&&zm false [1]) (num false [1]+num false [1]):=by
 have h:=qy (i:=1) de;rw[Xq] at h;have h:zm false [1]=true:=h;rw[h,ad2];exact (PZ de).symm
theorem aC8:(0:Int)=bZ (zm false [1]&&zm false [1]) (num false [1]+num false [1]):=by
 have h:=qy (i:=1) de;rw[Xq] at h;have h:zm false [1]=true:=h;rw[h,ad2];exact (U5 de).symm
theorem eH.own {w:World} {A1 A:Option Addr} {xs ys:List Nat} (h:eH w A1 A xs ys) (hne:ys≠xs):aA w A ys:=h.resolve_left (fun e=>hne e.2)
def pvT:PV:=⟨1,true,false,[],0,⟨#[]⟩,0⟩
def pvO:PV:=⟨2,false,false,[1],0,⟨#[]⟩,0⟩
theorem lV (n:Bool) (xs:List Nat):U4 n xs n xs=true:=by unfold U4;simp
theorem Rj:PV.good pvT=true:=by unfold PV.good pvT;simp
theorem Rk:PV.good pvO=true:=by
 have h:=qy (i:=1) de;rw[Xq] at h;have h:zm false [1]=true:=h;unfold PV.good pvO;simp[h]
theorem qdq {X:Nat→Prop} {w:World} {lo base c:Nat} {A:Option Addr} {xs:List Nat} (h:Own w base A c xs) (hX:∀k,X k→k<base) (hb:lo≤base):Per X w (fun b=>Own b lo A c xs):=fun b E=>⟨pW (ZT h.1 E (fun q hq hx=>by have:=GV h.1 q hq;have:=hX q hx;omega)) hb,h.2⟩
section
variable (w:World)
theorem Rl (ua:PV) (A1 B1:Option Addr) (c1 d1:Nat) (n:Bool) (xs:List Nat) (hn:ua.cn=n) (hc:ua.cx=xs):Calls prog 33 #[aP ua A1 c1 B1 d1] w (Fv w A1 n ua.xs xs):=by
 subst hn hc;exact ztk w ua A1 B1 c1 d1
theorem Rm (b:Bool):Calls prog 20 #[.bool b] w (aH w (.agg #[.int .i64 1,.bool b,.bool false,.slice none 0 0,.int .u64 0,.string ⟨#[]⟩,.slice none 0 0])):=by
 refine zc func20 rfl ntmps20 rfl (zu ?_);refine zi ?_;rintro gR wB BY E2 G2;refine zv ?_;refine za rfl (ja (cs:=#[.int .i64 1,.bool b,.bool false,.slice none 0 0,.int .u64 0,.string ⟨#[]⟩,.slice none 0 0]) wS yB rfl rfl ?_);exact ad6
theorem IQ (s:ByteArray):Calls prog 24 #[.string s] w (aH w (.agg #[.int .i64 4,.bool false,.bool false,.slice none 0 0,.int .u64 0,.string s,.slice none 0 0])):=by
 refine zc func24 rfl ntmps24 rfl (zu ?_);refine zi ?_;rintro gR wB BY E2 G2;refine Bd ?_;exact ad6
def aC9 (W:World) (i:Int) (e:Ending) (w':World):Prop:=∃A c,e= .returned (.agg #[.int .i64 2,.bool false,.bool (decide (i<0)),.slice A (limbs i).length c,.int .u64 0,.string ⟨#[]⟩,.slice none 0 0])∧Own w' W.heap.size A c (limbs i)∧Below W.heap.size W w'
theorem IU (A:Option Addr) (c:Nat) (i:Int) (hx:aY w A (bC i)) (hl:(bC i).length≤1048576):Calls prog 21 #[.agg #[.bool (decide (i<0)),.slice A (bC i).length c]] w (aC9 w i):=by
 refine zc func21 rfl ntmps21 rfl (zf ?_);rintro gA wA BX E1 G1;refine zi ?_;rintro gR wB BY E2 G2;have Ld:=BX.ext E2 (fun h=>h.elim);have gF:=E1.trans E2;have hs:=gF.size;refine zv ?_;refine za rfl (zb aI7 rfl ((Wj A c i _ (Per.akq hx _ gF) hl).mono ?_));rintro e w1 ⟨A3,c3,rfl,hO,hb⟩;refine ⟨_,rfl,?_⟩;have E3:=Ext.of_below hb No;have BYc:=BY.ext E3 (fun h=>h.elim);refine za rfl (ja (cs:=#[.int .i64 2,.bool false,.bool (decide (i<0)),.slice A3 (limbs i).length c3,.int .u64 0,.string ⟨#[]⟩,.slice none 0 0]) wS yB rfl rfl (zp (zo jf rfl rfl BYc rfl rfl rfl ?_)));rintro wC QL E4;refine Bb ?_;exact ⟨A3,c3,rfl,ztv hO E4 BY.lt hs,((gF.trans E3).step E4 (fun q hq=>Or.inr (by have:=ug hq;have:=E1.size;omega))).toBelow⟩
theorem lW (A:Option Addr) (c:Nat) (n:Bool) (xs:List Nat):Calls prog 45 #[.agg #[.bool n,.slice A xs.length c]] w (aH w (.agg #[.int .i64 2,.bool false,.bool n,.slice A xs.length c,.int .u64 0,.string ⟨#[]⟩,.slice none 0 0])):=by
 refine zc func45 rfl ntmps45 rfl (zf ?_);rintro gA wA BX E1 G1;refine zi ?_;rintro gR wB BY E2 G2;have Ld:=BX.ext E2 (fun h=>h.elim);have gF:=E1.trans E2;have hs:=gF.size;refine zv ?_;refine za rfl (ja (cs:=#[.int .i64 2,.bool false,.bool n,.slice A xs.length c,.int .u64 0,.string ⟨#[]⟩,.slice none 0 0]) wS yB rfl rfl (zp (zo jf rfl rfl BY rfl rfl rfl ?_)));rintro wC QL E4;refine Bb ?_;exact ⟨rfl,(gF.step E4 (fun q hq=>Or.inr (by have:=ug hq;have:=E1.size;omega))).toBelow⟩
theorem XB (A B:Option Addr) (c d:Nat) (xs ys:List Nat) (n1 n2:Bool) (v f:Int) (hv:v=bX (zm n1 xs&&zm n2 ys) (num n1 xs+num n2 ys)) (hf:f=bZ (zm n1 xs&&zm n2 ys) (num n1 xs+num n2 ys)) (hx:aA w A xs) (hy:aA w B ys) (hl:xs.length≤9223372036854775807) (hl':ys.length≤9223372036854775807) :
 Calls prog 67 #[.int .i64 1,.agg #[.bool n1,.slice A xs.length c],.agg #[.bool n2,.slice B ys.length d]] w (zx w v f):=by
 refine zc func67 rfl ntmps67 rfl (zf ?_);rintro gA wA BX E1 G1;refine za rfl (zn rfl ?_);rintro gC wC BZ E2 G2;refine yn ?_;rintro gR wB BY E3 G3;have Ld:=(BX.ext E2 (fun h=>h.elim)).ext E3 (fun h=>h.elim);have BZb:=BZ.ext E3 (fun h=>h.elim);have gF:=(E1.trans E2).trans E3;have hs:=gF.size;refine jL ?_;have hadd:=uM A B c d xs ys wB n1 n2 (Per.ay hx _ gF) (Per.ay hy _ gF) hl hl';rw[←hv,←hf] at hadd;refine za rfl (zb aa0 rfl ((hadd).mono ?_));rintro e w1 ⟨A3,c3,rfl,hO,hb⟩;refine ⟨_,rfl,?_⟩;have E4:=Ext.of_below hb No;have BYc:=BY.ext E4 (fun h=>h.elim);refine zu ?_;refine zp (zo kz rfl rfl BYc rfl rfl rfl ?_);rintro wD QL E5;refine zr ?_;exact ⟨A3,c3,rfl,ztv hO E5 BY.lt hs,((gF.trans E4).step E5 (fun q hq=>Or.inr (by have:=ug hq;have:=E1.size;have:=E2.size;omega))).toBelow⟩
theorem Lr (A:Option Addr) (c:Nat) (hx:aA w A [1]):Calls prog 30 #[.int .i64 1,.agg #[.int .i64 1,.bool true,.bool false,.slice none 0 0,.int .u64 0,.string ⟨#[]⟩,.slice none 0 0],.agg #[.int .i64 2,.bool false,.bool false,.slice A 1 c,.int .u64 0,.string ⟨#[]⟩,.slice none 0 0]] w fun e w'=>∃A4 c4,e= .returned (.tuple #[.agg #[.int .i64 2,.bool false,.bool (decide (2<0)),.slice A4 (limbs 2).length c4,.int .u64 0,.string ⟨#[]⟩,.slice none 0 0],.int .i64 0])∧Own w' w.heap.size A4 c4 (limbs 2)∧Below w.heap.size w w':=by
 refine zc func30 rfl ntmps30 rfl (zf ?_);rintro gA wA BX E1 G1;refine za rfl (zn rfl ?_);rintro gC wC BZ E2 G2;refine zi ?_;rintro gR wB BY E3 G3;have Ld:=(BX.ext E2 (fun h=>h.elim)).ext E3 (fun h=>h.elim);have BZb:=BZ.ext E3 (fun h=>h.elim);have gF:=(E1.trans E2).trans E3;have hs:=gF.size;refine qrz ?_;refine zu ?_;refine yx (No) ak.none_ [⟨9,10,24,#[.bool false,.slice none 0 0]⟩] [] (xq [Fx.of (.int .i64 1),
  Fx.of (.agg #[.int .i64 1,.bool true,.bool false,.slice none 0 0,.int .u64 0,.string ⟨#[]⟩,.slice none 0 0]),
  ⟨(Option Addr×Nat),fun (A5,c5)=>.agg #[.bool false,.slice A5 1 c5],fun (A5,c5) b=>(eH b none A5 [] [1])⟩,
  Fx.of (.agg #[.int .i64 2,.bool false,.bool false,.slice A 1 c,.int .u64 0,.string ⟨#[]⟩,.slice none 0 0]),
  ⟨(Option Addr×Nat),fun (A6,c6)=>.agg #[.bool false,.slice A6 1 c6],fun (A6,c6) b=>(eH b A A6 [1] [1])⟩,
  ⟨(Option Addr×Nat),fun (A7,c7)=>.tuple #[.agg #[.bool (decide ((2:Int)<0)),.slice A7 (limbs 2).length c7],.int .i64 0],fun (A7,c7) b=>(Own b wB.heap.size A7 c7 (limbs 2))⟩,
  ⟨(Option Addr×Nat),fun (A7,c7)=>.tuple #[.agg #[.bool (decide ((2:Int)<0)),.slice A7 (limbs 2).length c7],.int .i64 0],fun (A7,c7) b=>(Own b wB.heap.size A7 c7 (limbs 2))⟩,
  ⟨(Option Addr×Nat),fun (A7,c7)=>.agg #[.bool (decide ((2:Int)<0)),.slice A7 (limbs 2).length c7],fun (A7,c7) b=>(Own b wB.heap.size A7 c7 (limbs 2))⟩,
  Fx.of (.int .i64 0),
  Fx.of undef,
  Fx.of undef,
  Fx.of (.int .i64 0)]) mixed rfl trivial (fun _ h=>by cases h) ?_ ?_
 · refine ⟨arm,?_,?_,?_,?_,?_,?_,?_,?_,?_,?_,arm,trivial⟩
   · intro vs X wq K;have LE:=K.1;exact qdv u28 rfl jf rfl (Ld.ext ((Ext.refl No _).drew.trans LE) (fun h↦h.elim)) rfl ⟨Below.refl _ _,Left.of rfl⟩
   · refine qh ?_;intro vs X wq K;have XN:=K.2.1;refine zb jJ rfl ((Rl _ pvT none none 0 0 false [1] rfl rfl).mono ?_);rintro e w2 ⟨A5,c5,rfl,hN,hb⟩;exact ⟨_,rfl,hb,⟨(A5,c5),rfl,QJ hN XN⟩⟩
   · intro vs X wq K;have LE:=K.1;exact qdv u28 rfl jf rfl (BZb.ext ((Ext.refl No _).drew.trans LE) (fun h↦h.elim)) rfl ⟨Below.refl _ _,Left.of rfl⟩
   · refine qh ?_;intro vs X wq K;have XN:=K.2.1;refine zb jJ rfl ((Rl _ pvO A none c 0 false [1] rfl rfl).mono ?_);rintro e w2 ⟨A6,c6,rfl,hN,hb⟩;exact ⟨_,rfl,hb,⟨(A6,c6),rfl,QJ hN XN⟩⟩
   · refine qh ?_;intro vs X wq K;have LE:=K.1;have XN:=K.2.1;obtain ⟨⟨A5,c5⟩,e2,k2⟩:=K.dep 2 rfl rfl rfl;refine vd 38 _ rfl e2 ?_;obtain ⟨⟨A6,c6⟩,e4,k4⟩:=K.dep 4 rfl rfl rfl;refine vd 40 _ rfl e4 (zb av0 rfl ((XB _ A5 A6 c5 c6 [1] [1] false false 2 0 aC7 aC8 ((k2.here).own de) ((k4.here).nums (Per.ay hx _ (gF.trans ((Ext.refl No _).drew.trans LE)))) de de).mono ?_));rintro e w2 ⟨A7,c7,rfl,hO,hb⟩;exact ⟨_,rfl,hb,⟨(A7,c7),rfl,qdq hO XN LE.size⟩⟩
   · intro vs X wq K;obtain ⟨⟨A7,c7⟩,e5,k5⟩:=K.dep 5 rfl rfl rfl;refine vd 41 _ rfl e5 ?_;exact ynq rfl ⟨Below.refl _ _,⟨⟨A7,c7⟩,rfl,(k5.map (fun _ h=>h))⟩⟩
   · intro vs X wq K;obtain ⟨⟨A7,c7⟩,e6,k6⟩:=K.dep 6 rfl rfl rfl;refine vd 35 _ rfl e6 ?_;exact jk rfl rfl ⟨Below.refl _ _,⟨⟨A7,c7⟩,rfl,(k6.map (fun _ h=>h))⟩⟩
   · intro vs X wq K;obtain ⟨⟨A7,c7⟩,e6,k6⟩:=K.dep 6 rfl rfl rfl;refine vd 35 _ rfl e6 ?_;exact jk rfl rfl ⟨Below.refl _ _,Left.of rfl⟩
   · exact uY
   · refine ⟨_,_,_,_,_,rfl,rfl,rfl,kz,fun vs X wq K=>?_⟩;obtain ⟨⟨A7,c7⟩,e0,_⟩:=K.dep 7 rfl rfl rfl;exact ⟨vs 7,rfl,by rw[e0];rfl,by rw[e0];rfl⟩
 intro vs w1 LE AO AL AF AA;have hbd:Below (wB).heap.size (wB) w1:=(((Ext.refl No (wB)).drew).trans LE).toBelow;obtain ⟨⟨A7,c7⟩,e7,k7⟩:=AL.2.2.2.2.2.2.2.1;obtain ⟨_,e11,k11⟩:=AL.2.2.2.2.2.2.2.2.2.2.2.1;have Wc5:=k7.here;obtain ⟨gX0,v0,y0,qX0,GX0,BX0,ey,wT⟩:=AF.1;cases ey
 obtain rfl:vs 7=v0:=Option.some.inj wT;rw[e7] at BX0;have BX0:aB w1 gX0 24 #[.bool (decide ((2:Int)<0)),.slice A7 (limbs 2).length c7]:=BX0;have e9:=qX0;refine vo (τ:=[(0,_),(4,_),(5,_),(6,_),(7,_),(8,_),(9,.pointer (some ⟨gX0,0,none⟩)),(10,.int .i64 0)]) ⟨rfl,rfl,rfl,rfl,rfl,rfl,congrArg some e9,congrArg some e11,trivial⟩ ?_;clear AL AF AA AO;have E5:=Ext.of_below hbd No;have BYc:=BY.ext E5 (fun h=>h.elim);refine go ?_;refine za rfl (zb ai1 rfl ((lW _ A7 c7 (decide ((2:Int)<0)) (limbs 2)).mono ?_));rintro e w2 ⟨rfl,hb⟩;refine ⟨_,rfl,?_⟩;have E6:=Ext.of_below hb No;have QL:=BYc.ext E6 (fun h=>h.elim);have hN7:Own w2 wB.heap.size A7 c7 (limbs 2):=⟨ZT Wc5.1 E6 (fun _ _ h=>h.elim),Wc5.2⟩;refine zp (zo jf rfl rfl QL rfl rfl rfl ?_);rintro wD BYe E7;refine zt ?_;exact ⟨A7,c7,rfl,ztv hN7 E7 BY.lt hs,(((gF.trans E5).trans E6).step E7 (fun q hq=>Or.inr (by have:=ug hq;have:=E1.size;have:=E2.size;omega))).toBelow⟩
theorem Ls (A:Option Addr) (c:Nat) (hx:aA w A [1]):Calls prog 7 #[.int .i64 1,.agg #[.int .i64 1,.bool true,.bool false,.slice none 0 0,.int .u64 0,.string ⟨#[]⟩,.slice none 0 0],.agg #[.int .i64 2,.bool false,.bool false,.slice A 1 c,.int .u64 0,.string ⟨#[]⟩,.slice none 0 0]] w fun e w'=>∃A4 c4,e= .returned (.tuple #[.agg #[.int .i64 2,.bool false,.bool (decide (2<0)),.slice A4 (limbs 2).length c4,.int .u64 0,.string ⟨#[]⟩,.slice none 0 0],.int .i64 0])∧Own w' w.heap.size A4 c4 (limbs 2)∧Below w.heap.size w w':=by
 refine zc func7 rfl ntmps7 rfl (zf ?_);rintro gA wA BX E1 G1;refine za rfl (zn rfl ?_);rintro gC wC BZ E2 G2;refine zi ?_;rintro gR wB BY E3 G3;have Ld:=(BX.ext E2 (fun h=>h.elim)).ext E3 (fun h=>h.elim);have BZb:=BZ.ext E3 (fun h=>h.elim);have gF:=(E1.trans E2).trans E3;have hs:=gF.size;refine zr ?_;refine za rfl (zb gH rfl ((vc _ pvT none none 0 0 xo de true Rj).mono ?_));rintro e w1 ⟨rfl,hb⟩;refine ⟨_,rfl,?_⟩;have F1:=Ext.of_below hb No;have E13:=gF.trans F1;have BX1:=Ld.ext F1 (fun h=>h.elim);have BZ1:=BZb.ext F1 (fun h=>h.elim);have BY1:=BY.ext F1 (fun h=>h.elim);refine zq ?_;refine bV rfl (zb gH rfl ((vc _ pvO A none c 0 (Per.ay hx _ E13) de true Rk).mono ?_));rintro e w2 ⟨rfl,hb⟩;refine ⟨_,rfl,?_⟩;have F2:=Ext.of_below hb No;have E14:=E13.trans F2;have BX2:=BX1.ext F2 (fun h=>h.elim);have BZ2:=BZ1.ext F2 (fun h=>h.elim);have BY2:=BY1.ext F2 (fun h=>h.elim);refine MX ?_;refine za rfl (zb um rfl ((kl _ pvT none none 0 0 true rfl).mono ?_));rintro e w3 ⟨rfl,hb⟩;refine ⟨_,rfl,?_⟩;have F3:=Ext.of_below hb No;have E15:=E14.trans F3;have BX3:=BX2.ext F3 (fun h=>h.elim);have BZ3:=BZ2.ext F3 (fun h=>h.elim);have BY3:=BY2.ext F3 (fun h=>h.elim);refine zu ?_;refine bV rfl (zb um rfl ((kl _ pvO A none c 0 true rfl).mono ?_));rintro e w4 ⟨rfl,hb⟩;refine ⟨_,rfl,?_⟩;have F4:=Ext.of_below hb No;have E16:=E15.trans F4;have BX4:=BX3.ext F4 (fun h=>h.elim);have BZ4:=BZ3.ext F4 (fun h=>h.elim);have BY4:=BY3.ext F4 (fun h=>h.elim);refine zy ?_;refine za rfl (zb au8 rfl ((Lr _ A c (Per.ay hx _ E16)).mono ?_));rintro e w5 ⟨A4,c4,rfl,hO,hb⟩;refine ⟨_,rfl,?_⟩;have F5:=Ext.of_below hb No;have BY5:=BY4.ext F5 (fun h=>h.elim);refine zu ?_;refine zp (zo jf rfl rfl BY5 rfl rfl rfl ?_);rintro wD BYe E7;refine zr ?_;exact ⟨A4,c4,rfl,ztv hO E7 BY4.lt E16.size,((E16.trans F5).step E7 (fun q hq=>Or.inr (by have:=ug hq;have:=E1.size;have:=E2.size;omega))).toBelow⟩
theorem aCq (A B:Option Addr) (c d:Nat) (n:Bool) (xs:List Nat) (hx:aA w A xs) (hy:aA w B xs) (hl:xs.length≤1048576):Calls prog 14 #[.agg #[.int .i64 2,.bool false,.bool n,.slice A xs.length c,.int .u64 0,.string ⟨#[]⟩,.slice none 0 0],.agg #[.int .i64 2,.bool false,.bool n,.slice B xs.length d,.int .u64 0,.string ⟨#[]⟩,.slice none 0 0]] w (aH w (.bool true)):=by
 refine zc func14 rfl ntmps14 rfl (zf ?_);rintro gA wA BX E1 G1;refine za rfl (zn rfl ?_);rintro gC wC BZ E2 G2;have Ld:=BX.ext E2 (fun h=>h.elim);have gF:=E1.trans E2;have hs:=gF.size
 refine qA ?_;refine bV rfl (qvz u4 rfl rfl (gf ?_));refine bV rfl (ynz rfl rfl (zd 30 (.bool false) rfl (by simp only[jF];rfl:(.bool (!((⟨#[]⟩:ByteArray).toList==(⟨#[]⟩:ByteArray).toList)):Value)=_) (zq ?_)));refine bV rfl (yix (cs:=#[.bool n,.slice A xs.length c]) u24 rfl kz rfl rfl (qjk (Ld.cell 2) (Ld.cell 3)) (aQ ?_));refine bV rfl (yix (cs:=#[.bool n,.slice B xs.length d]) u24 rfl kz rfl rfl (qjk (BZ.cell 2) (BZ.cell 3)) (bV rfl (zb auq rfl ((lV n xs▸qJ A B c d xs xs _ n n (Per.ay hx _ gF) (Per.ay hy _ gF) hl hl).mono ?_))));rintro e w1 ⟨rfl,hb⟩;refine ⟨_,rfl,?_⟩;have F1:=Ext.of_below hb No;have BX1:=Ld.ext F1 (fun h=>h.elim);have BZ1:=BZ.ext F1 (fun h=>h.elim);refine Bf ?_;refine jd (ι:=Unit) (fun _=>[(2,.pointer (some ⟨gA,0,none⟩)),(5,.int .i64 0)]) (fun _ z=>Ext No w z∧aB z gA 28 #[.int .i64 2,.bool false,.bool n,.slice A xs.length c,.int .u64 0,.string ⟨#[]⟩,.slice none 0 0]) (fun _=>0) () ⟨rfl,rfl,trivial⟩ (⟨gF.trans F1,BX1⟩) ?_;rintro _ w3 ⟨E13,BX3⟩;refine zr ?_;refine zd 52 (.int .i64 0) rfl (by kernel_rfl:(.int .i64 (0:Nat):Value)=_) (qA ?_);exact ⟨rfl,E13.toBelow⟩
theorem FH (A:Option Addr) (c:Nat) (hx:aA w A (limbs 1)):Calls prog 7 #[.int .i64 1,.agg #[.int .i64 1,.bool true,.bool false,.slice none 0 0,.int .u64 0,.string ⟨#[]⟩,.slice none 0 0],.agg #[.int .i64 2,.bool false,.bool (decide (1<0)),.slice A (limbs 1).length c,.int .u64 0,.string ⟨#[]⟩,.slice none 0 0]] w fun e w'=>∃A4 c4,e= .returned (.tuple #[.agg #[.int .i64 2,.bool false,.bool (decide (2<0)),.slice A4 (limbs 2).length c4,.int .u64 0,.string ⟨#[]⟩,.slice none 0 0],.int .i64 0])∧Own w' w.heap.size A4 c4 (limbs 2)∧Below w.heap.size w w':=by
 rw[Xq] at hx ⊢;exact Ls w A c hx
theorem XD:Calls prog 23 #[.agg #[.int .i64 4,.bool false,.bool false,.slice none 0 0,.int .u64 0,.string ⟨#[97,39,10,200]⟩,.slice none 0 0]] w fun e w'=>e= .returned (.string ⟨#[39,97,92,39,92,110,92,120,99,56,39]⟩)∧Below w.heap.size w w':=
 QW w ⟨4,false,false,[],0,⟨#[97,39,10,200]⟩,0⟩ none none 0 0 xo de (by unfold PV.good;simp;decide) rfl de
theorem am7:Calls prog 25 #[.agg #[.int .i64 4,.bool false,.bool false,.slice none 0 0,.int .u64 0,.string ⟨#[97]⟩,.slice none 0 0]] w (aH w (.int .i64 129)):=by
 have h:=Xz w ⟨4,false,false,[],0,⟨#[97]⟩,0⟩ none none 0 0 xo de de;have e:Lm ⟨4,false,false,[],0,⟨#[97]⟩,0⟩=129:=by
  have hg:PV.good ⟨4,false,false,[],0,⟨#[97]⟩,0⟩=true:=by unfold PV.good;simp;decide
  unfold Lm;rw[hg,if_pos rfl,if_neg de,if_neg de,if_pos rfl];rfl
 rw[e] at h;exact h
theorem aCz:qz 9221120237041090560=9221120237041090560:=de
theorem XA:Calls prog 27 #[.int .u64 9221120237041090560] w (aH w (.agg #[.int .i64 3,.bool false,.bool false,.slice none 0 0,.int .u64 9221120237041090560,.string ⟨#[]⟩,.slice none 0 0])):=by
 have h:=Fz w 9221120237041090560 de;rw[aCz] at h;exact h
theorem XE:Calls prog 26 #[.agg #[.int .i64 3,.bool false,.bool false,.slice none 0 0,.int .u64 9221120237041090560,.string ⟨#[]⟩,.slice none 0 0],.agg #[.int .i64 3,.bool false,.bool false,.slice none 0 0,.int .u64 9221120237041090560,.string ⟨#[]⟩,.slice none 0 0]] w (aH w (.bool false)):=by
 have h:=QU w ⟨3,false,false,[],9221120237041090560,⟨#[]⟩,0⟩ ⟨3,false,false,[],9221120237041090560,⟨#[]⟩,0⟩ none none none none 0 0 0 0 xo de de xo de de;have e:La ⟨3,false,false,[],9221120237041090560,⟨#[]⟩,0⟩ ⟨3,false,false,[],9221120237041090560,⟨#[]⟩,0⟩=false:=by
  have hg:PV.good ⟨3,false,false,[],9221120237041090560,⟨#[]⟩,0⟩=true:=by unfold PV.good;simp
  have ho:vD ⟨3,false,false,[],9221120237041090560,⟨#[]⟩,0⟩ ⟨3,false,false,[],9221120237041090560,⟨#[]⟩,0⟩=false:=de;unfold La;rw[hg,ho];rfl
 rw[e] at h;exact h
theorem xm:Calls prog 6 #[] w (aH w (.bool true)):=by
 have ht:∀i:Int,i.natAbs<au^30→(bC i).length≤1048576:=fun i h=>by have:=(P6 i).2 h;omega
 have hlb:(limbs 2).length≤1048576:=by have:=zk (i:=2) de;omega
 refine zc func6 rfl ntmps6 rfl (zr ?_);refine za rfl (zb aHj rfl ((Rm _ true).mono ?_));rintro e w1 ⟨rfl,hb⟩;refine ⟨_,rfl,?_⟩;have E1:=Ext.of_below hb No;refine za rfl (zb au6 rfl ((zQ 1 _ de de).mono ?_));rintro e w2 ⟨A1,c1,rfl,hO1,hb⟩;refine ⟨_,rfl,?_⟩;have E2:=E1.trans (Ext.of_below hb No);refine za rfl (zb au5 rfl ((IU _ A1 c1 1 hO1.nums (ht 1 de)).mono ?_));rintro e w3 ⟨A2,c2,rfl,hO2,hb⟩;refine ⟨_,rfl,?_⟩;have E3:=E2.trans (Ext.of_below hb No);refine za rfl (zb gT rfl ((FH _ A2 c2 hO2.nums).mono ?_));rintro e w4 ⟨A4,c4,rfl,hO4,hb⟩;refine ⟨_,rfl,?_⟩;have E4:=E3.trans (Ext.of_below hb No);refine zq ?_;refine zi ?_;rintro gR wB BY E5 G2;refine zp (zo jf rfl rfl BY rfl rfl rfl ?_);rintro wC BZ E6;have hO5:Own wC _ A4 c4 (limbs 2):=⟨ZT (ZT hO4.1 E5 (fun _ _ h=>h.elim)) E6 (fun q hq hm=>by have:=ug hm;have:=GU hO4.1 q hq;omega),hO4.2⟩;have hN4:=hO5.nums;have E7:Ext No w wC:=(E4.trans E5).step E6 (fun q hq=>Or.inr (by have:=ug hq;have:=E4.size;omega));refine ye ?_;refine yx (No) ak.none_ [] [] (xq [Fx.of (.int .i64 0),
  Fx.of (.bool true),
  Fx.of (.bool true),
  Fx.of (.agg #[.int .i64 2,.bool false,.bool (decide (2<0)),.slice A4 (limbs 2).length c4,.int .u64 0,.string ⟨#[]⟩,.slice none 0 0]),
  ⟨(Option Addr×Nat),fun (A5,c5)=>.agg #[.bool (decide ((2:Int)<0)),.slice A5 (bC 2).length c5],fun (A5,c5) b=>(aY b A5 (bC 2))⟩,
  ⟨(Option Addr×Nat),fun (A6,c6)=>.agg #[.int .i64 2,.bool false,.bool (decide (2<0)),.slice A6 (limbs 2).length c6,.int .u64 0,.string ⟨#[]⟩,.slice none 0 0],fun (A6,c6) b=>(aA b A6 (limbs 2))⟩,
  Fx.of (.bool true),
  Fx.of (.bool true),
  Fx.of (.bool true),
  Fx.of (.agg #[.int .i64 4,.bool false,.bool false,.slice none 0 0,.int .u64 0,.string ⟨#[97,39,10,200]⟩,.slice none 0 0]),
  Fx.of (.string ⟨#[39,97,92,39,92,110,92,120,99,56,39]⟩),
  Fx.of (.bool true),
  Fx.of (.bool true),
  Fx.of (.bool true),
  Fx.of (.agg #[.int .i64 4,.bool false,.bool false,.slice none 0 0,.int .u64 0,.string ⟨#[97]⟩,.slice none 0 0]),
  Fx.of (.int .i64 129),
  Fx.of (.bool true),
  Fx.of (.bool true),
  Fx.of (.bool true),
  Fx.of (.agg #[.int .i64 3,.bool false,.bool false,.slice none 0 0,.int .u64 9221120237041090560,.string ⟨#[]⟩,.slice none 0 0]),
  Fx.of (.agg #[.int .i64 3,.bool false,.bool false,.slice none 0 0,.int .u64 9221120237041090560,.string ⟨#[]⟩,.slice none 0 0]),
  Fx.of (.bool false),
  Fx.of (.bool true),
  Fx.of (.bool true),
  Fx.of (.bool true)]) mixed rfl trivial (fun _ h=>by cases h) ?_ ?_
 · refine ⟨arm,arm,arm,?_,?_,?_,?_,arm,arm,?_,?_,?_,arm,arm,?_,?_,arm,arm,arm,?_,?_,?_,arm,arm,arm,trivial⟩
   · refine qh ?_;intro vs X wq K;have LE:=K.1;exact pI rfl (qdv u28 rfl jf rfl (BZ.ext ((Ext.refl No _).drew.trans LE) (fun h↦h.elim)) rfl ⟨Below.refl _ _,Left.of rfl⟩)
   · refine qh ?_;intro vs X wq K;have XN:=K.2.1;refine pI rfl (zb au6 rfl ((zQ 2 _ de de).mono ?_));rintro e w2 ⟨A5,c5,rfl,hO,hb⟩;exact ⟨_,rfl,hb,⟨(A5,c5),rfl,Per.aC1 hO XN⟩⟩
   · intro vs X wq K;have XN:=K.2.1;obtain ⟨⟨A5,c5⟩,e4,k4⟩:=K.dep 4 rfl rfl rfl;refine vd 14 _ rfl e4 ?_;obtain ⟨_,e2,k2⟩:=K.dep 2 rfl rfl rfl;refine vd 12 _ rfl e2 (pI rfl (zb au5 rfl ((IU _ A5 c5 2 (k4.here) (ht 2 de)).mono ?_)));rintro e w2 ⟨A6,c6,rfl,hO,hb⟩;exact ⟨_,rfl,hb,⟨(A6,c6),rfl,Per.own hO XN⟩⟩
   · intro vs X wq K;have LE:=K.1;obtain ⟨_,e3,k3⟩:=K.dep 3 rfl rfl rfl;refine vd 13 _ rfl e3 ?_;obtain ⟨⟨A6,c6⟩,e5,k5⟩:=K.dep 5 rfl rfl rfl;refine vd 15 _ rfl e5 ?_;obtain ⟨_,e2,k2⟩:=K.dep 2 rfl rfl rfl;refine vd 12 _ rfl e2 (pI rfl (zb au4 rfl ((aCq _ A4 A6 c4 c6 (decide ((2:Int)<0)) (limbs 2) (Per.ay hN4 _ ((Ext.refl No _).drew.trans LE)) (k5.here) hlb).mono ?_)));exact II
   · refine qh ?_;intro vs X wq K;refine pI rfl (zb au7 rfl ((IQ _ ⟨#[97,39,10,200]⟩).mono ?_));exact II
   · refine qh ?_;intro vs X wq K;refine pI rfl (zb aI0 rfl ((XD _).mono ?_));exact II
   · refine qh ?_;intro vs X wq K;exact pI rfl (GY rfl rfl ⟨Below.refl _ _,Left.of (by simp only[jF];rfl:(.bool ((⟨#[39,97,92,39,92,110,92,120,99,56,39]⟩:ByteArray).toList==(⟨#[39,97,92,39,92,110,92,120,99,56,39]⟩:ByteArray).toList):Value)=_)⟩)
   · refine qh ?_;intro vs X wq K;refine pI rfl (zb au7 rfl ((IQ _ ⟨#[97]⟩).mono ?_));exact II
   · refine qh ?_;intro vs X wq K;refine pI rfl (zb aI1 rfl ((am7 _).mono ?_));exact II
   · exact Ri
   · exact Ri
   · refine qh ?_;intro vs X wq K;refine pI rfl (zb aI2 rfl ((XE _).mono ?_));exact II
 intro vs w5 LE AO AL AF AA;have hbd:Below (wC).heap.size (wC) w5:=(((Ext.refl No (wC)).drew).trans LE).toBelow;obtain ⟨_,e24,k24⟩:=AL.2.2.2.2.2.2.2.2.2.2.2.2.2.2.2.2.2.2.2.2.2.2.2.2.1;refine vo (τ:=[(0,.bool true)]) ⟨congrArg some e24,trivial⟩ ?_;clear AL AF AA AO;refine zq ?_;exact ⟨rfl,(E7.trans (Ext.of_below hbd No)).toBelow⟩
end
end Go.Proofs.YtmnmebdmpigddaaGreatDoor
namespace Go.Proofs.YtmnmebdmpigddaaGreatDoor
open Go.RowKit Proofs.Tryz
theorem Cu {P:Program} {w:World} {T U:TypeId} {v:Value} {ms:Array (String×TypeId)} (hd:P.underlying T=some (.interface ms)):(Op.equal T (.iface U v) .nilIface).run P w= .ok false w:=by
 have e:Op.maxDepth=9999+1:=rfl;have key:∀d:Nat,(Op.equalIn (d+1) T (.iface U v) .nilIface).run P w= .ok false w:=by
  exact NC
 unfold Op.equal;rw[e];exact key 9999
theorem Yx {P:Program} {N:Nat} {ops:Array Oper} {Q:Exit→Act→World→Prop} {σ:Env} {w:World} {ty:TypeId} {pos:String} {af:Array Edge} {dst:Option Nat} {Post:Value→World→Prop} {T U D:TypeId} {v:Value} {x:Operand} {ms:Array (String×TypeId)} (hd:P.underlying T=some (.interface ms)) (hx:ev σ x=some (.iface D v)) (k:Post (.bool true) w):OW P N ops Q ⟨dst,.binOp .neq T x (.const .nilIface) U,ty,pos,af,none⟩ σ w Post:=
 yd (fun ρ ha=>by
  have e:=Cu (P:=P) (w:=w) (U:=D) (v:=v) hd;have hc:ρ (.const .nilIface)= .nilIface:=ha rfl;simp only[execOp,ha hx,hc,eqGuard,binOp]
  simp only[Bool.not_true,Bool.false_eq_true,if_false,Sem.run_bind,e,Result.andThen_ok,Sem.run_pure]
  rfl) k
theorem Mr (fn s:ByteArray) (base bits:Int) (w:World) (hl:s.size<100000) (hv:∃te pe,w.cell? ⟨4,0,none⟩=some (.iface te pe)) :
 Calls prog 152 #[.string fn,.string s,.int .i64 base,.int .i64 bits,dW] w fun e w'=>(∃er,e= .returned er)∧Below w.heap.size w w':=by
 obtain ⟨te,pe,hv⟩:=hv;refine (AnyPu.strconv_toError_range (ρ:=Tryz.laysPu14_ren) { Tryz.laysPu14 with } fn s base bits (.iface te pe) w om hv (.inr ⟨te,pe,rfl⟩)).mono ?_;rintro e w' ⟨N,rfl,_,_,hb⟩;exact ⟨⟨_,rfl⟩,hb⟩
theorem aE5:ou prog 229 (.agg (yg (vX false))):=by
 unfold yg vP;exact (by kernel_rfl:(prog.info? 229).map (·.zero)=some (some (.agg ((vX false).d.map (fun b=>(.int .u8 ((b:Nat):Int):Value))++([.int .i64 (((vX false).nd:Nat):Int),.int .i64 (vX false).dp,.bool (vX false).neg,.bool (vX false).tr]:List Value)).toArray)))
theorem Cv {s:ByteArray} {k i:Nat}:aL (s.extract k s.size) i=aL s (k+i):=by
 unfold aL;rw[ByteArray.data_extract,Array.getElem?_extract];by_cases h:i<s.size-k
 · rw[if_pos (by show i<min s.size s.data.size-k;rw[show s.data.size=s.size from rfl,Nat.min_self];exact h)]
 · rw[if_neg (by show ¬i<min s.size s.data.size-k;rw[show s.data.size=s.size from rfl,Nat.min_self];exact h)];have:s.data[k+i]? =none:=Array.getElem?_eq_none (by show s.size≤k+i;omega);rw[this]
theorem extract_all (s:ByteArray):s.extract 0 s.size=s:=by
 apply ByteArray.ext
 rw[ByteArray.data_extract];exact Array.extract_eq_self_of_le (Nat.le_refl _)
theorem Yy {s:ByteArray} {f p Z q:Nat} (neg:Bool) (hs:Nm s f p Z q) (hl:s.size<100000):-20000000≤(fB s f neg).dp∧(fB s f neg).dp≤20000000:=by
 obtain ⟨h,hi⟩:=mI neg hs;have h1:=h.hp;have h2:=h.dec.hn;have h3:=h.iE;have h4:=hs.hE;have h5:=qgq hs;rw[←hi] at h5;unfold fB;show -20000000≤(if (stA s f neg).dot=true then (stA s f neg).t.dp else (((stA s f neg).t.nd:Nat):Int))+nW s (stA s f neg).i∧(if (stA s f neg).dot=true then (stA s f neg).t.dp else (((stA s f neg).t.nd:Nat):Int))+nW s (stA s f neg).i≤20000000
 split<;>omega
end Go.Proofs.YtmnmebdmpigddaaGreatDoor
namespace Go.Proofs.YtmnmebdmpigddaaGreatDoor
open Go.RowKit
theorem byte_of (r:Nat) (h:r<10):48≤(UInt8.ofNat (48+r)).toNat∧(UInt8.ofNat (48+r)).toNat≤57:=by
 have e:(UInt8.ofNat (48+r)).toNat=(48+r)%256:=rfl;rw[e];omega
theorem Jo:∀n:Nat,∀c∈Lib.decDigits n,48≤c.toNat∧c.toNat≤57:=by
 intro n;induction n using Nat.strongRecOn with
 | _ n ih=>
  by_cases h:10≤n
  · rw[zwx h];intro c hc;rcases List.mem_append.1 hc with h1 | h1
    · exact ih (n/10) om c h1
    · obtain rfl:=List.mem_singleton.1 h1;exact byte_of _ om
  · rw[ybx om];intro c hc;obtain rfl:=List.mem_singleton.1 hc;exact byte_of _ om
theorem Jp (n:Nat):0<(Lib.decDigits n).length:=by
 by_cases h:10≤n
 · rw[zwx h,List.length_append];show 0<_+1;omega
 · rw[ybx om];exact Nat.one_pos
theorem wF:∀(k n:Nat),n<10^(k+1)→(Lib.decDigits n).length≤k+1
 | 0,n,h=>by rw[ybx (by simpa using h)];exact Nat.le_refl _
 | k+1,n,h=>by
  by_cases h1:10≤n
  · rw[zwx h1,List.length_append];have:=wF k (n/10) ((Nat.div_lt_iff_lt_mul de).2 (by rwa [Nat.pow_succ] at h));show _+1≤_;omega
  · rw[ybx om];show 1≤_;omega
def Jq (i:Int):ByteArray:=⟨(Lib.itoa i).toArray⟩
def Nr (i:Int):Nat:=if i<0 then 1 else 0
theorem Gl (i:Int) (j:Nat):aL (Jq i) j=(((Lib.itoa i)[j]?).map (·.toNat)).getD 0:=by
 unfold aL Jq;rw[List.getElem?_toArray]
theorem Cy (i:Int):(Jq i).size=(Lib.itoa i).length:=by
 show (Lib.itoa i).toArray.size=_
 rw[List.size_toArray]
theorem wG {i:Int} (h:i<0):Lib.itoa i=45::Lib.decDigits i.natAbs:=by rw[Lib.itoa,if_pos h]
theorem Gm {i:Int} (h:¬i<0):Lib.itoa i=Lib.decDigits i.toNat:=by rw[Lib.itoa,if_neg h]
theorem ap3 (i:Int):dZ (Jq i) (Nr i) (decide (i<0)):=by
 by_cases h:i<0
 · refine .inr ⟨decide_eq_true h,by unfold Nr;rw[if_pos h],?_⟩;rw[Gl,wG h];rfl
 · exact .inl ⟨decide_eq_false h,by unfold Nr;rw[if_neg h]⟩
theorem af7 (i:Int):Nm (Jq i) (Nr i) (Jq i).size (Jq i).size 0:=by
 have key:Nr i<(Jq i).size∧ ∀j,Nr i≤j→j<(Jq i).size→48≤aL (Jq i) j∧aL (Jq i) j≤57:=by
  rw[Cy];by_cases h:i<0
  · have hf:Nr i=1:=by unfold Nr;rw[if_pos h]
    have hp:=Jp i.natAbs;rw[hf,wG h];refine ⟨by show 1<_+1;omega,fun j hj hl=>?_⟩;have hl:j<(Lib.decDigits i.natAbs).length+1:=hl;rw[Gl,wG h];obtain ⟨k,rfl⟩:∃k,j=k+1:=⟨j-1,om⟩;rw[List.getElem?_cons_succ,List.getElem?_eq_getElem om];exact Jo _ _ (List.getElem_mem _)
  · have hf:Nr i=0:=by unfold Nr;rw[if_neg h]
    have hp:=Jp i.toNat;rw[hf,Gm h];refine ⟨hp,fun j hj hl=>?_⟩;rw[Gl,Gm h,List.getElem?_eq_getElem hl];exact Jo _ _ (List.getElem_mem _)
 refine ⟨key.1,Nat.le_refl _,Nat.le_refl _,key.2,fun h=>absurd h (Nat.lt_irrefl _),fun j h1 h2=>absurd h1 (Nat.not_lt.2 (Nat.le_of_lt h2)),fun h=>absurd h (Nat.lt_irrefl _)⟩
theorem YB {i:Int} (h:i.natAbs<au^30):(Jq i).size<100000:=by
 have e:au^30=10^(539+1):=by unfold au;decide +kernel
 rw[e] at h;rw[Cy];by_cases h0:i<0
 · rw[wG h0];have:=wF 539 i.natAbs h;show _+1<100000
   omega
 · rw[Gm h0];have:=wF 539 i.toNat (by rw[show i.toNat=i.natAbs from om];exact h);omega
noncomputable def ofN (i:Int):Nat:=iK (Jq i) (Nr i) (decide (i<0))
noncomputable def ofV (i:Int):Nat:=if rg (ofN i)=9218868437227405312 then 0 else ofN i
noncomputable def ofE (i:Int):Int:=if rg (ofN i)=9218868437227405312 then 7 else 0
theorem wH (i:Int):gU (decide (i<0)) (ofN i):=Yl _ (af7 i)
theorem TS (i:Int):qz (ofN i)=ofN i:=by unfold qz;rw[(wH i).num,if_neg de]
def vZ:PV:=⟨0,false,false,[],0,⟨#[]⟩,0⟩
def vI (i:Int):PV:=⟨2,false,decide (i<0),limbs i,0,⟨#[]⟩,0⟩
def vFl (b:Nat):PV:=⟨3,false,false,[],b,⟨#[]⟩,0⟩
def vT (s:ByteArray):PV:=⟨4,false,false,[],0,s,0⟩
def vg (w:World) (p:PV×Int) (e:Ending) (w':World):Prop:=∃A c,e= .returned (.tuple #[.agg #[.int .i64 p.1.k,.bool p.1.yes,.bool p.1.neg,.slice A p.1.xs.length c,.int .u64 (p.1.bits:Int),.string p.1.s,.slice none 0 0],.int .i64 p.2])∧Own w' w.heap.size A c p.1.xs∧Below w.heap.size w w'
noncomputable def qu (v:PV):Int:=num v.cn v.cx
noncomputable def qf (v:PV):Nat×Int:=if v.k=3 then (v.bits,0) else (ofV (qu v),ofE (qu v))
theorem kd {v:PV} (hb:v.bits<18446744073709551616):(qf v).1<18446744073709551616:=by
 unfold qf;split
 · exact hb
 · show ofV _<_
   unfold ofV;split
   · decide
   · exact (wH _).lt
theorem ap4 {i:Int} (h:i.natAbs<au^30):(vI i).xs.length≤1048576:=by
 have:=zk h;show (limbs i).length≤_
 omega
theorem xx {v:PV} (hg:v.good=true) (hk:v.k=1∨v.k=2):(qu v).natAbs<au^30:=(PV.canon hg hk).2.2
theorem PV.af8 {v:PV} (h:v.good=true) (hk:v.k=1∨v.k=2):zm v.cn v.cx=true:=by
 obtain ⟨h1,h2,h3⟩:=PV.canon h hk;have h4:=qy h3;rw[←h1,←h2] at h4;exact h4
end Go.Proofs.YtmnmebdmpigddaaGreatDoor
namespace Go.Proofs.YtmnmebdmpigddaaGreatDoor
open Go.RowKit
attribute [local irreducible] OW RS CW EW
end Go.Proofs.YtmnmebdmpigddaaGreatDoor
namespace Go.Proofs.YtmnmebdmpigddaaGreatDoor
open Go.RowKit
attribute [local irreducible] OW RS CW EW
def Ten (w:World):Prop:=∃cs,w.var? Tryz.prog "internal/strconv.pow10Tab" =some cs∧cs[728]? =some (.int .u64 10240000000000000000)∧cs[729]? =some (.int .u64 0)
theorem ylk:Tryz.prog.globalNamed "internal/strconv.pow10Tab" =some 13:=kr
theorem Ten.lt {w:World} (h:Ten w):13<w.heap.size:=by
 obtain ⟨cs,h0,_⟩:=h;unfold World.var? at h0;rw[ylk,Option.bind_some] at h0;rcases Nat.lt_or_ge 13 w.heap.size with h' | h'
 · exact h'
 · rw[Array.getElem?_eq_none h'] at h0;cases h0
theorem Ten.stays {w b:World} (h:Ten w) (hb:Below w.heap.size w b):Ten b:=by
 have hlt:=h.lt;obtain ⟨cs,h0,h1⟩:=h;refine ⟨cs,?_,h1⟩;unfold World.var? at h0 ⊢;rw[ylk,Option.bind_some] at h0 ⊢;rw[hb.block _ hlt];exact h0
theorem Ten.all {w:World} (h:Ten w) (b:World) (hb:Below w.heap.size w b):aEx b:=by
 obtain ⟨cs,h0,h1,h2⟩:=h.stays hb;exact ⟨(World.var?_cell ylk h0 728).trans h1,(World.var?_cell ylk h0 729).trans h2⟩
section
variable (w:World) (base:Nat) (A:Option Addr) (c:Nat) (HB:base≤w.heap.size) (ho:w.ownsRow base 5 1 (.slice A 0 c) 0 [])
include HB ho
end
section
variable (w:World) (hT:∀b,Below w.heap.size w b→Ten b) (hD:∀b,Below w.heap.size w b→fD b)
include hT hD
end
end Go.Proofs.YtmnmebdmpigddaaGreatDoor
namespace Go.Proofs.YtmnmebdmpigddaaGreatDoor
open Go.RowKit
end Go.Proofs.YtmnmebdmpigddaaGreatDoor
namespace Go.Proofs.YtmnmebdmpigddaaGreatDoor
open Go.RowKit
attribute [local irreducible] OW RS CW EW
noncomputable def Gn (a b:Nat):Nat:=if uO b then 0 else Qs a b
noncomputable def ap5 (a b:Nat):Nat:=if uO b then 0 else aBj a b
section
variable (w:World)
section
variable (a b:Nat) (ha:a<18446744073709551616) (hb:b<18446744073709551616)
include ha hb
section
variable (hz:uO b=false)
include hz
section
variable (hf:rg a<9218868437227405312) (hn:bO b=false)
include hf hn
end
end
end
end
end Go.Proofs.YtmnmebdmpigddaaGreatDoor
namespace Go.Proofs.YtmnmebdmpigddaaGreatDoor
open Go.RowKit Proofs.Tryz
theorem Cz {P Q:Prop} (k:Q) (h:(Unit→Q)→P:=by
 intro zK;refine zq ?_;refine za rfl (pJ rfl rfl (gz (n:=0) (vY neg) de) (za rfl (vi (b:=eO neg ||| 0) jN rfl (qo ?_))));refine zmq ?_;exact zK ()):P:=h fun _=>k
theorem zmq {P Q:Prop} (k:Q) (h:(Unit→Q)→P:=by
 intro zK;refine ki (rs:=[.tmp 2,.tmp 3,.tmp 4]) (vs:=[_,_,_]) rfl ⟨rfl,rfl,rfl,trivial⟩ ?_;exact zK ()):P:=h fun _=>k
attribute [local irreducible] OW RS CW EW
theorem aEj (neg:Bool):IntKind.u64.wrap (((Nf neg:Nat):Int)*2^(min (63:Int).toNat IntKind.u64.bits))=((eO neg:Nat):Int):=by
 cases neg<;>decide +kernel
section
variable (w:World) {bp op cp bf of cf bl ol cl:Nat}
theorem wL (s:ByteArray) (h:48≤aL s 0∧aL s 0≤57):Calls prog 249 #[.string s,.string ⟨#[105,110,102,105,110,105,116,121]⟩] w (aH w (.int .i64 0)):=by
 have hs:0<s.size:=FZ om;refine zc func249 rfl ntmps249 rfl ?_;have LW:=aF (No) w;have aj:=bD (No) w;have E:=aF (No) w;refine yu ?_;refine ve ?_;refine aQ ?_;refine ve ?_;refine za rfl (N9 rfl rfl (zy ?_));refine zlq (yu ?_);refine ze 15 (.bool true) rfl ((by rw[decide_eq_true (by split<;>omega)]:(.bool (decide (0<(if (s.size:Int)<8 then (s.size:Int) else 8))):Value)=_)) (qo ?_);refine za rfl (yp (j:=0) (b:=aL s 0) u9 rfl rfl rfl (va hs) (qo ?_));refine zd 23 (.bool false) rfl (by rw[decide_eq_false om]<;>rfl) (gf ?_);refine za rfl (yp (j:=0) (b:=105) u9 rfl rfl rfl kr (zq ?_));refine ze 33 (.bool true) rfl (by rw[bne_iff_ne.2 om]<;>rfl) (go ?_);exact vj
theorem CB (s:ByteArray) (h45:aL s 0=45) (h:48≤aL s 1∧aL s 1≤57):Calls prog 215 #[.string s] w (aH w (.tuple #[.float .f64 0,.int .i64 0,.bool false])):=by
 have hs:1<s.size:=FZ om;refine zc func215 rfl ntmps215 rfl ?_;have LW:=aF (No) w;have aj:=bD (No) w;have E:=aF (No) w;refine yq ?_;refine ve ?_;refine zq ?_;refine ze 10 (.bool false) rfl (by rw[jw om]<;>rfl) (Ed ?_);refine yzk ?_;refine zd 12 (.int .u8 45) rfl (by rw[h45];rfl) (axx ?_);refine yzk ?_;refine zd 23 (.int .u8 45) rfl (by rw[h45];rfl) (xd ?_);refine za rfl (qmx (l:=1) (h:=s.size) u9 rfl ⟨_,rfl⟩ rfl om om (yu ?_));refine zh rfl awj rfl (wL _ (s.extract 1 s.size) (by rw[Cv];exact h)) E fun w1 E=>(axz ?_);exact adq
theorem CF (s:ByteArray) (f:Nat) (neg:Bool) (hsg:dZ s f neg) (h:48≤aL s f∧aL s f≤57):Calls prog 215 #[.string s] w (aH w (.tuple #[.float .f64 0,.int .i64 0,.bool false])):=by
 rcases hsg with ⟨_,rfl⟩ | ⟨_,rfl,h45⟩
 · exact oZ w s (aL s 0) (va (FZ om)) h
 · exact CB w s h45 h
theorem TU (s:ByteArray) (f:Nat) (neg:Bool) {p Z q:Nat} (hsg:dZ s f neg) (hs:Nm s f p Z q) (hl:s.size<100000) (hT:dK bp op cp bf of cf bl ol cl w):Calls prog 201 #[.string s] w (aH w (.tuple #[.float .f64 (iK s f neg),.int .i64 (s.size:Int),mJ s f neg])):=by
 have hfd:=hs.first;have hmm:=SA hs;refine zc func201 rfl ntmps201 rfl ?_;obtain ⟨HF,LW,aj,E⟩:=bg w;replace HF:=HF.and (Per.tabs hT (fun _ h=>h.elim));refine yq ?_;refine zh rfl aw7 rfl (CF _ s f neg hsg hfd) E fun w1 E=>(OI ?_);refine zh rfl aw8 rfl (Mg _ s f neg hsg hs hl) E fun w2 E=>(ay1 ?_);refine za rfl (jj u4 rfl rfl (HF.on E).here.2.opt (zt ?_));refine zh rfl OC rfl (FJ _ neg) E fun w3 E=>(za rfl (gk rfl rfl de (aEj neg) (zy ?_)));refine ze 69 (.bool (decide (iB s f=0))) rfl (by rw[Ga]<;>rfl) (zj rfl (fun h1=>?_) (fun h1=>?_))
 ·
  have h1:=of_decide_eq_true h1;refine Cz ?_;exact ⟨by rw[show iK s f neg=eO neg ||| 0 by unfold iK;rw[if_pos h1],show mJ s f neg= .nilIface by unfold mJ;rw[if_pos h1]];rfl,(LW.step E aj).toBelow⟩
 ·
  have h1:=of_decide_eq_false h1;refine qo ?_;refine zj rfl (fun h2=>?_) (fun h2=>?_)
  ·
   have h2:=of_decide_eq_true h2;refine zq ?_;refine za rfl (pJ rfl rfl (gz (n:=9218868437227405312) (vY neg) de) (za rfl (vi (b:=eO neg ||| 9218868437227405312) jN rfl (aQ ?_))));refine za rfl (D5 kr rfl (yu ?_));refine zmq ?_;exact ⟨by rw[show iK s f neg=eO neg ||| 9218868437227405312 by unfold iK;rw[if_neg h1,if_pos h2],show mJ s f neg=dW by unfold mJ;rw[if_neg h1,if_pos h2]];rfl,(LW.step E aj).toBelow⟩
  ·
   have h2:=of_decide_eq_false h2;refine qo ?_;refine zj rfl (fun h3=>?_) (fun h3=>?_)
   ·
    have h3:=of_decide_eq_true h3;refine Cz ?_;exact ⟨by rw[show iK s f neg=eO neg ||| 0 by unfold iK;rw[if_neg h1,if_neg h2,if_pos h3],show mJ s f neg= .nilIface by unfold mJ;rw[if_neg h1,if_neg h2,if_pos h3]];rfl,(LW.step E aj).toBelow⟩
   ·
    have h3:=of_decide_eq_false h3;refine qo ?_;replace HF:=HF.on E;replace LW:=LW.step E aj;replace E:=aF (No) w3;refine yw (ι:=Unit) (fun _=>[(0,.string s),(3,.int .i64 (s.size:Int)),(4,.nilIface),(8,.int .u64 ((iB s f:Nat):Int)),(9,.int .i64 (Ca s f)),(11,.bool (Mf s f)),(16,.int .u64 ((eO neg:Nat):Int))]) (fun _ w'=>Ext (No) w3 w'∧(¬(Mf s f=false∧(vU (iB s f) (Ca s f) neg).2=true))) ?_ ?_
    ·
     have M4:=aF (No) w3;have Xx:=bD (No) w3;refine zj rfl (fun h5=>?_) (fun h5=>?_)
     ·
      have h5:Mf s f=false:=by simpa using h5
      refine zv ?_;refine zh rfl awz rfl (LY _ (iB s f) (Ca s f) neg om (HF.on E).here.2) E fun w6 E=>(jm ?_);refine zj rfl (fun h6=>?_) (fun h6=>?_)
      ·
       refine jm ?_;refine zmq ?_;exact ⟨by rw[show iK s f neg=(vU (iB s f) (Ca s f) neg).1 by unfold iK;rw[if_neg h1,if_neg h2,if_neg h3,if_pos ⟨h5,h6⟩],show mJ s f neg= .nilIface by unfold mJ;rw[if_neg h1,if_neg h2,if_neg h3,if_pos ⟨h5,h6⟩]];rfl,(LW.step E aj).toBelow⟩
      ·
       refine aQ ?_;exact yk () ⟨rfl,rfl,rfl,rfl,rfl,rfl,rfl,trivial⟩ ⟨M4.step E Xx,fun h=>absurd h.2 (by rw[h6];decide)⟩
     ·
      refine aQ ?_;exact yk () ⟨rfl,rfl,rfl,rfl,rfl,rfl,rfl,trivial⟩ ⟨M4.step E Xx,fun h=>absurd h5 (by rw[h.1];decide)⟩
    ·
     rintro _ w5 ⟨M4,h4⟩;replace E:=E.trans M4;replace HF:=HF.on E;replace LW:=LW.step E aj;replace E:=aF (No) w5;have hj:3≤Ce s f∧Ce s f≤658:=by unfold Ce;omega
     refine zv ?_;refine zd 101 (.int .i64 (((Ce s f:Nat):Int)-348)) rfl (by congr 1;unfold Ce;omega) (zh rfl aa5 rfl (Bq _ (iB s f) (Ce s f) (eO neg) om hj (vY neg) (HF.on E).here.2.pow) E fun w7 E=>(go ?_));refine zj rfl (fun h5=>?_) (fun h5=>?_)
     ·
      have h5:Mf s f=false:=by simpa using h5
      refine gf ?_;refine zmq ?_;exact ⟨by rw[show iK s f neg=XM (iB s f) (Ce s f) (eO neg) by unfold iK;rw[if_neg h1,if_neg h2,if_neg h3,if_neg h4,if_pos (.inl h5)];try rfl,show mJ s f neg=XO (iB s f) (Ce s f) (eO neg) by unfold mJ;rw[if_neg h1,if_neg h2,if_neg h3,if_neg h4,if_pos (.inl h5)];try rfl];rfl,(LW.step E aj).toBelow⟩
     ·
      have h5:¬Mf s f=false:=fun e=>absurd h5 (by rw[e];decide);refine zv ?_;refine oh ?_;refine zu ?_;refine zd 113 (.int .u64 ((iB s f+1:Nat):Int)) rfl (rfl) (zd 114 (.int .i64 (((Ce s f:Nat):Int)-348)) rfl (by congr 1;unfold Ce;omega) (za rfl (zb aa5 rfl ((Bq _ (iB s f+1) (Ce s f) (eO neg) om hj (vY neg) (HF.on E).here.2.pow).mono ?_))));rintro e w8 ⟨rfl,hb⟩;refine ⟨_,rfl,?_⟩;have Ec:=Ext.of_below hb No;replace E:=E.trans Ec.no;refine yq ?_;refine za rfl (tO rfl rfl (zu ?_));refine zj rfl (fun h6=>?_) (fun h6=>?_)
      ·
       have h6:atL s f neg=true:=h6;refine jm ?_;refine zmq ?_;exact ⟨by rw[show iK s f neg=XM (iB s f) (Ce s f) (eO neg) by unfold iK;rw[if_neg h1,if_neg h2,if_neg h3,if_neg h4,if_pos (.inr h6)];try rfl,show mJ s f neg=XO (iB s f) (Ce s f) (eO neg) by unfold mJ;rw[if_neg h1,if_neg h2,if_neg h3,if_neg h4,if_pos (.inr h6)];try rfl];rfl,(LW.step E aj).toBelow⟩
      ·
       have h6:¬(Mf s f=false∨atL s f neg=true):=fun h=>h.elim h5 (fun h=>by rw[show atL s f neg=false from h6] at h;cases h);have hdec:=Yh neg hs;have aN2:=Yy neg hs hl;refine ye ?_;refine za rfl (zkv aE5 ?_);intro gc w9 Bc Ec Gc;replace Bc:aB w9 gc 229 (yg (vX false)):=Bc;have Gc:_≤gc:=Nat.le_trans E.size Gc;have GLc:=Nat.le_trans LW.size Gc;replace E:=E.trans Ec.no;replace HF:=HF.cons (ZJ Gc);replace E:=E.cons (some gc);replace aj:=ak.grow aj (fun k e=>Or.inr (Nat.le_trans LW.size ((ZJ Gc) k e)));have hg:=hT.below.le GLc;refine zr ?_;refine za rfl (qmx (l:=0) (h:=s.size) u9 rfl rfl ⟨_,rfl⟩ (Nat.zero_le _) (Nat.le_refl _) (zd 127 (.string s) rfl (by rw[extract_all]<;>rfl) (za rfl (zb aw9 rfl ((Yw _ gc s f neg hsg hs hl Bc).mono ?_)))));rintro e dI ⟨rfl,hB,hE⟩;refine ⟨_,rfl,?_⟩;replace Bc:=hB;clear hB;replace E:=E.step1 hE ak.head;clear hE;refine yu ?_;refine za rfl (zb awq rfl ((TA _ gc (fB s f neg) hdec aN2 Bc (HF.on E).here.2 hg).mono ?_));rintro e dS ⟨rfl,⟨t9,hB⟩,hE⟩;refine ⟨_,rfl,?_⟩;replace Bc:=hB;clear hB;replace E:=E.step1 hE ak.head;clear hE;refine zy ?_;refine za rfl (vi (b:=Jc (fB s f neg)) jN rfl (qo ?_));refine zj rfl (fun h7=>?_) (fun h7=>?_)
       ·
        refine aQ ?_;refine za rfl (D5 kr rfl (go ?_));refine zmq ?_;exact ⟨by rw[show iK s f neg=Jc (fB s f neg) by unfold iK;rw[if_neg h1,if_neg h2,if_neg h3,if_neg h4,if_neg h6],show mJ s f neg=dW by unfold mJ;rw[if_neg h1,if_neg h2,if_neg h3,if_neg h4,if_neg h6,if_pos h7]];rfl,(LW.step E aj).toBelow⟩
       ·
        refine gf ?_;refine zmq ?_;exact ⟨by rw[show iK s f neg=Jc (fB s f neg) by unfold iK;rw[if_neg h1,if_neg h2,if_neg h3,if_neg h4,if_neg h6],show mJ s f neg= .nilIface by unfold mJ;rw[if_neg h1,if_neg h2,if_neg h3,if_neg h4,if_neg h6,if_neg (by rw[h7];decide)]];rfl,(LW.step E aj).toBelow⟩
theorem wM (s:ByteArray) (f:Nat) (neg:Bool) {p Z q:Nat} (hsg:dZ s f neg) (hs:Nm s f p Z q) (hl:s.size<100000) (hT:dK bp op cp bf of cf bl ol cl w):Calls prog 186 #[.string s,.int .i64 64] w (aH w (.tuple #[.float .f64 (iK s f neg),.int .i64 (s.size:Int),mJ s f neg])):=by
 refine zc func186 rfl ntmps186 rfl ?_;have LW:=aF (No) w;have aj:=bD (No) w;have E:=aF (No) w;refine OI ?_;refine zh rfl aw3 rfl (TU _ s f neg hsg hs hl hT) E fun w1 E=>(qo ?_);refine ki (rs:=[.tmp 4,.tmp 5,.tmp 6]) (vs:=[_,_,_]) rfl ⟨rfl,rfl,rfl,trivial⟩ ?_;exact vj
theorem ME (s:ByteArray) (f:Nat) (neg:Bool) {p Z q:Nat} (hsg:dZ s f neg) (hs:Nm s f p Z q) (hl:s.size<100000) (hT:dK bp op cp bf of cf bl ol cl w):Calls prog 155 #[.string s,.int .i64 64] w (aH w (.tuple #[.float .f64 (iK s f neg),mJ s f neg])):=by
 refine zc func155 rfl ntmps155 rfl ?_;have LW:=aF (No) w;have aj:=bD (No) w;have E:=aF (No) w;refine zy ?_;refine zh rfl aw1 rfl (wM _ s f neg hsg hs hl hT) E fun w1 E=>(go ?_);refine ve ?_;refine zq ?_;refine ze 19 (.bool false) rfl (by simp) (gf ?_);exact vj
theorem Gp (s:ByteArray) (f:Nat) (neg:Bool) {p Z q:Nat} (hsg:dZ s f neg) (hs:Nm s f p Z q) (hl:s.size<100000) (hT:dK bp op cp bf of cf bl ol cl w) (hE:∃te pe,w.cell? ⟨4,0,none⟩=some (.iface te pe)):Calls prog 102 #[.string s,.int .i64 64] w fun e w'=>(∃er,e= .returned (.tuple #[.float .f64 (iK s f neg),er]))∧Below w.heap.size w w':=by
 obtain ⟨te,pe,hE⟩:=hE;have hor:=ao0 s f neg;obtain ⟨er,her⟩:∃er,er=mJ s f neg:=⟨_,rfl⟩;rw[←her] at hor;refine zc func102 rfl ntmps102 rfl ?_;obtain ⟨HF,LW,aj,E⟩:=bg w;replace HF:=HF.and (Per.aR hE (fun _ h=>h.elim));refine zy ?_;refine zh rfl avq rfl (ME _ s f neg hsg hs hl hT) E fun w1 E=>?_;rw[←her];by_cases hn:er= .nilIface
 ·
  subst hn;refine yq ?_;refine za rfl (Vr u83 rfl (go ?_));exact ⟨⟨_,rfl⟩,(LW.step E aj).toBelow⟩
 ·
  obtain rfl:er=dW:=hor.resolve_left hn;refine yq ?_;refine za rfl (Yx u83 rfl (qo ?_));refine za rfl (zb av9 rfl ((Mr _ s 0 64 _ hl ⟨te,pe,(HF.on E).here.2⟩).mono ?_));rintro e w2 ⟨⟨er2,rfl⟩,hb⟩;refine ⟨_,rfl,?_⟩;replace E:=bQ E hb;refine zr ?_;exact ⟨⟨_,rfl⟩,(LW.step E aj).toBelow⟩
end
end Go.Proofs.YtmnmebdmpigddaaGreatDoor
namespace Go.Proofs.YtmnmebdmpigddaaGreatDoor
open Go.RowKit Proofs.Tryz
attribute [local irreducible] OW RS CW EW
theorem Gq (w:World) (g off:Nat) (dk:Array UInt8) (n:Nat):Ext (ak [some g]) w ((Sort.putRow (fun (b:UInt8)=>Value.int .u8 (b.toNat:Int)) w g off dk).drewN n):=by
 refine ⟨rfl,rfl,rfl,?_,?_⟩
 · simp[Sort.putRow,Sort.mapBlock,World.drewN]
 · intro i hi hx;have hne:g≠i:=fun e=>hx (Or.inl (congrArg some e.symm));simp[Sort.putRow,Sort.mapBlock,World.drewN,Array.getElem?_modify,hne]
theorem CG (i:Nat) (h:i<100) (w:World):Calls prog 202 #[.int .i64 i] w fun e w'=>e= .returned (.string ⟨(Lib.decDigits i).toArray⟩)∧Below w.heap.size w w':=
 (Tryz.internal_strconv_small i h w).mono fun _ _ ⟨a,b⟩=>⟨a,b▸Below.refl _ _⟩
theorem MG (u:Nat) (hu:u<100) (w:World):Calls prog 187 #[.int .u64 u,.int .i64 10] w (aH w (.string ⟨(Lib.decDigits u).toArray⟩)):=by
 have hd:decide (((u:Nat):Int)<100)=true:=decide_eq_true om;refine zc func187 rfl ntmps187 rfl ?_;have LW:=aF (No) w;have aj:=bD (No) w;have E:=aF (No) w;refine OI ?_;refine ze 12 (.bool true) rfl (by rw[hd]<;>rfl) (ye ?_);refine yzx ?_;refine zh rfl aw4 rfl (CG u hu _) E fun w1 E=>(zr ?_);exact vj
theorem wN (u:Nat) (h1:1≤u) (h2:u<18446744073709551616) (w:World) (htab:Lib.TabIs prog w "internal/strconv.uint64pow10" .u64 Lib.pow10Tab):Calls prog 203 #[.int .u64 u] w fun e w'=>e= .returned (.int .i64 ((Lib.nDigits u:Nat):Int))∧Below w.heap.size w w':=
 (Tryz.internal_strconv_numDigits u h1 h2 w htab).mono fun _ _ ⟨a,b⟩=>⟨a,b▸Below.refl _ _⟩
theorem YE (u:Nat) (hu:100≤u) (hu64:u<18446744073709551616) (w:World) (g:Nat) (hB0:aB w g 201 (Array.replicate 24 (.int .u8 0))) :
 Calls prog 204 #[.slice (some ⟨g,0,none⟩) (Lib.nDigits u) 24,.int .u64 u] w fun e w'=>e= .returned (.tuple #[])∧ ∃cs,aB w' g 201 cs∧Ext (ak [some g]) w w'∧ ∀j (hj:j<(Lib.decDigits u).length),w'.cell? ⟨g,0+j,none⟩=some (.int .u8 ((Lib.decDigits u)[j].toNat:Int)):=by
 have aN3:Lib.nDigits u≤20:=by have:=Lib.numDigits_eq u om hu64;split at this<;>omega
 have hsz:(Array.replicate (Lib.nDigits u) (0:UInt8)).size=Lib.nDigits u:=by simp
 have hH:Sort.Holds (fun (b:UInt8)=>Value.int .u8 (b.toNat:Int)) w g 0 (Array.replicate (Lib.nDigits u) 0):=by
  intro j hj;rw[hsz] at hj;have aN4:j<24:=om;refine ⟨?_,?_⟩
  · rw[hB0.cell];simp[hj,aN4]
  · unfold World.frozen?;simp[show w.heap[g]? =some (.cells (Array.replicate 24 (.int .u8 0)) 201 (0,0)) from hB0]
 have h:=Tryz.internal_strconv_formatBase10 g 0 24 u (Array.replicate (Lib.nDigits u) 0) w hH (by rw[hsz];exact Lib.lt_pow_nDigits u) hu64 (by rw[hsz];omega);rw[hsz] at h;refine h.mono fun e w' ⟨he,n,v',dk,hw,hF⟩=>⟨he,?_⟩;have hdk:dk.size=Lib.nDigits u:=hF.size;subst hw;refine ⟨Sort.putCells (fun (b:UInt8)=>Value.int .u8 (b.toNat:Int)) 0 dk (Array.replicate 24 (.int .u8 0)),?_,Gq w g 0 dk n,fun j hj=>?_⟩
 · show (Array.modify w.heap g _)[g]? =_
   rw[Array.getElem?_modify,if_pos rfl,show w.heap[g]? =some (.cells (Array.replicate 24 (.int .u8 0)) 201 (0,0)) from hB0];rfl
 · have hjn:j<Lib.nDigits u:=by rw[Lib.decDigits_length] at hj;exact hj
   rw[Lib.row_is_numeral hF j hj,World.cell?_drewN];exact Sort.cell?_putRow (fun (b:UInt8)=>Value.int .u8 (b.toNat:Int)) w g 0 _ dk hH (by rw[hdk,hsz]) j (by rw[hdk];exact hjn)
theorem YF (u:Nat) (hu:100≤u) (hu64:u<18446744073709551616) (w:World) (htab:∀b,Below w.heap.size w b→Lib.TabIs prog b "internal/strconv.uint64pow10" .u64 Lib.pow10Tab):Calls prog 187 #[.int .u64 u,.int .i64 10] w (aH w (.string ⟨(Lib.decDigits u).toArray⟩)):=by
 have hd:decide (((u:Nat):Int)<100)=false:=decide_eq_false om;refine zc func187 rfl ntmps187 rfl ?_;have LW:=aF (No) w;have aj:=bD (No) w;have E:=aF (No) w;refine OI ?_;refine ze 12 (.bool false) rfl (by rw[hd]<;>rfl) (zv ?_);refine za rfl (zkv atj ?_);intro aO w2 aD aI aW;have aW:_≤aO:=Nat.le_trans E.size aW;have aL6:=Nat.le_trans LW.size aW;replace E:=E.trans aI.no;replace E:=E.cons (some aO);replace aj:=ak.grow aj (fun k e=>Or.inr (Nat.le_trans LW.size ((ZJ aW) k e)));refine zv ?_;refine za rfl (zb aw5 rfl ((wN u om hu64 _ (htab _ (LW.step E aj).toBelow)).mono ?_));rintro e w3 ⟨rfl,hb⟩;refine ⟨_,rfl,?_⟩;have Ec:=Ext.of_below hb No;replace aD:=aD.av Ec ah.nil;replace E:=E.trans Ec.no;refine zt ?_;have aN3:Lib.nDigits u≤20:=by have:=Lib.numDigits_eq u om hu64;split at this<;>omega
 refine za rfl (pX underlying201 oH rfl rfl om (aQ ?_));refine za rfl (zb aw6 rfl ((YE u hu hu64 _ aO aD).mono ?_));rintro e w4 ⟨rfl,cs1,hB,hE,hcs⟩;refine ⟨_,rfl,?_⟩;replace aD:=hB;clear hB;replace E:=E.step1 hE ak.head;clear hE;refine zv ?_;refine za rfl (pX underlying201 oH rfl rfl om ?_);have hlen:(Lib.decDigits u).length=Lib.nDigits u:=Lib.decDigits_length u;refine za rfl (xO (l:=Lib.decDigits u) (A:=some ⟨aO,0,none⟩) (c:=24) u46 u5 u9 (by rw[hlen];rfl) (fun _↦⟨aO,0,rfl,hcs⟩) (zt ?_));exact ⟨rfl,(LW.step E aj).toBelow⟩
theorem YG (u:Nat) (hu64:u<18446744073709551616) (w:World) (htab:∀b,Below w.heap.size w b→Lib.TabIs prog b "internal/strconv.uint64pow10" .u64 Lib.pow10Tab):Calls prog 187 #[.int .u64 u,.int .i64 10] w (aH w (.string ⟨(Lib.decDigits u).toArray⟩)):=by
 rcases Nat.lt_or_ge u 100 with h | h
 · exact MG u h w
 · exact YF u h hu64 w htab
end Go.Proofs.YtmnmebdmpigddaaGreatDoor
namespace Go.Proofs.YtmnmebdmpigddaaGreatDoor
open Go.RowKit Proofs.Tryz
theorem aF0 {P:Prop} (h:P:=by
 refine ze 4 (.int .i64 (((limbs i).length:Int)-1-((0:Nat):Int))) rfl (by simp) ?_;replace HF:=HF.on E;replace LW:=LW.step E aj;replace E:=aF (No) w3;refine jd (ι:=Nat) (fun k=>[(1,.pointer (some ⟨aO,0,none⟩)),(3,.string ⟨(kf i k).toArray⟩),(4,.int .i64 (((limbs i).length:Int)-1-(k:Int)))]) (fun k w'=>Ext (No) w3 w'∧(k≤(limbs i).length)) (fun k=>(limbs i).length-k) 0 ⟨rfl,rfl,rfl,trivial⟩ ⟨Ext.refl _ _,Nat.zero_le _⟩ ?_;rintro k w5 ⟨M4,hk⟩;have Xx:=bD (No) w3;replace E:=E.trans M4;replace HF:=HF.on E;replace LW:=LW.step E aj;replace E:=aF (No) w5;refine zr ?_;refine zj rfl (fun q=>?_) (fun q=>?_)
 ·
  have q:=of_decide_eq_true q;obtain ⟨m,hm⟩:∃m,m=i.natAbs/au^((limbs i).length-1-k)%au:=⟨_,rfl⟩;have hm18:m<au:=by rw[hm];exact Nat.mod_lt _ (by unfold au;omega)
  have Wd:m<18446744073709551616:=by unfold au at hm18;omega
  have hnd:=nu hm18;have hlt:=Gj (i:=i) hk hl2;have hdl:=Lib.decDigits_length m;refine qo ?_;refine za rfl (kw (j:=(limbs i).length-1-k) u22 yA rfl rfl om om ?_);obtain ⟨b9,o9,hA9,_,hc9⟩:=((HF.on E).here.1.2).2 hpos;obtain ⟨rfl,rfl⟩:b9=bx∧o9=ox:=by simpa using hA9.symm
  have hc8:=hc9 ((limbs i).length-1-k) om;rw[TQ,←hm] at hc8;refine za rfl (jj u25 rfl rfl hc8 (za rfl (zb avz rfl ((aN5 m Wd _ (ht.below (LW.step E aj).toBelow)).mono ?_))));rintro e w6 ⟨rfl,hb⟩;refine ⟨_,rfl,?_⟩;replace E:=bQ E hb;clear hb;refine zy ?_;refine za rfl (jn rfl rfl (yr om) (zq ?_));refine zj rfl (fun h2=>?_) (fun h2=>?_)
  ·
   have h2:=of_decide_eq_true h2;have hk0:0<k:=om;refine zu ?_;refine za rfl (ynk u9 rfl (zd 36 (.int .i64 ((Lib.nDigits m:Nat):Int)) rfl (by rw[ybv,hdl]) (za rfl (qmx (l:=Lib.nDigits m) (h:=18) u9 rfl ⟨_,rfl⟩ rfl hnd (Nat.le_refl _) (zd 37 (.string ⟨(List.replicate (18-Lib.nDigits m) (48:UInt8)).toArray⟩) rfl (by rw[CJ]<;>rfl) (aQ ?_))))));refine za rfl (qvk rfl rfl (by rw[ybv,ybv,List.length_replicate,hdl];omega) (zd 39 (.string ⟨(List.replicate (18-Lib.nDigits m) (48:UInt8)++Lib.decDigits m).toArray⟩) rfl (by rw[Gr]<;>rfl) (zt ?_)));refine za rfl (qvk rfl rfl (by rw[ybv,ybv,List.length_append,List.length_replicate,hdl];omega) (zd 42 (.string ⟨(kf i (k+1)).toArray⟩) rfl (by rw[Gr,hm,qqv hk0 om]<;>rfl) (zt ?_)));refine za rfl (jn rfl rfl (yr om) (zu ?_));refine yy 4 (.int .i64 (((limbs i).length:Int)-1-((k+1:Nat):Int))) rfl ((by rw[show ((limbs i).length:Int)-1-(k:Int)-1=((limbs i).length:Int)-1-((k+1:Nat):Int) from om]:(.int .i64 ((((limbs i).length:Int)-1-(k:Int))-1):Value)=_)) ?_;exact yc (k+1) (by show (limbs i).length-(k+1)<(limbs i).length-k;omega) ⟨rfl,rfl,rfl,trivial⟩ ⟨M4.step E Xx,(by omega:k+1≤(limbs i).length)⟩
  ·
   have h2:=of_decide_eq_false h2;have hk0:k=0:=om;have hone:kf i k++Lib.decDigits m=kf i (k+1):=by rw[hm,hk0];exact ny hpos
   refine zv ?_;refine za rfl (qvk rfl rfl (by rw[ybv,ybv,hdl];omega) (zd 42 (.string ⟨(kf i (k+1)).toArray⟩) rfl (by rw[Gr,hone]<;>rfl) (zt ?_)));refine za rfl (jn rfl rfl (yr om) (zu ?_));refine yy 4 (.int .i64 (((limbs i).length:Int)-1-((k+1:Nat):Int))) rfl ((by rw[show ((limbs i).length:Int)-1-(k:Int)-1=((limbs i).length:Int)-1-((k+1:Nat):Int) from om]:(.int .i64 ((((limbs i).length:Int)-1-(k:Int))-1):Value)=_)) ?_;exact yc (k+1) (by show (limbs i).length-(k+1)<(limbs i).length-k;omega) ⟨rfl,rfl,rfl,trivial⟩ ⟨M4.step E Xx,(by omega:k+1≤(limbs i).length)⟩
 ·
  have q:=of_decide_eq_false q;obtain rfl:k=(limbs i).length:=om;refine gf ?_;exact ⟨by rw[Gi hpos];rfl,(LW.step E aj).toBelow⟩):P:=h
attribute [local irreducible] OW RS CW EW
def Tab (w:World):Prop:=∀b,Below w.heap.size w b→Lib.TabIs prog b "internal/strconv.uint64pow10" .u64 Lib.pow10Tab
theorem Tab.below {w w':World} (h:Tab w) (hb:Below w.heap.size w w'):Tab w':=fun b hb'=>h b (hb.trans (hb'.mono hb.size))
theorem ybv (l:List UInt8):(⟨l.toArray⟩:ByteArray).size=l.length:=by simp[ByteArray.size]
theorem Gr (a b:List UInt8):(⟨a.toArray⟩:ByteArray)++ ⟨b.toArray⟩= ⟨(a++b).toArray⟩:=by
 apply ByteArray.ext
 rw[ByteArray.data_append];simp
theorem ap8 (a:List UInt8) (l h:Nat):(⟨a.toArray⟩:ByteArray).extract l h= ⟨((a.take h).drop l).toArray⟩:=by
 apply ByteArray.ext
 rw[ByteArray.data_extract];apply Array.ext'
 simp[List.extract,List.drop_take]
theorem CJ {n:Nat}:(⟨#[48,48,48,48,48,48,48,48,48,48,48,48,48,48,48,48,48,48]⟩:ByteArray).extract n 18= ⟨(List.replicate (18-n) (48:UInt8)).toArray⟩:=by
 have h:=ap8 (List.replicate 18 48) n 18;rw[List.take_of_length_le (by simp),List.drop_replicate] at h;exact h
theorem aN5 (u:Nat) (hu64:u<18446744073709551616) (w:World) (ht:Tab w):Calls prog 160 #[.int .u64 u,.int .i64 10] w (aH w (.string ⟨(Lib.decDigits u).toArray⟩)):=by
 refine zc func160 rfl ntmps160 rfl ?_;have LW:=aF (No) w;have aj:=bD (No) w;have E:=aF (No) w;refine qo ?_;refine za rfl (zb aw2 rfl ((YG u hu64 _ (ht.below (LW.step E aj).toBelow)).mono ?_));rintro e w1 ⟨rfl,hb⟩;refine ⟨_,rfl,?_⟩;replace E:=bQ E hb;clear hb;exact ykq
section
variable (i:Int) (A:Option Addr) (c:Nat) (w:World) (hi:i.natAbs<au^30) (hx:aA w A (limbs i)) (ht:Tab w)
include hi hx ht
theorem MH (h0:i=0):Calls prog 110 #[.agg #[.bool (decide (i<0)),.slice A (limbs i).length c]] w (aH w (.string ⟨(Lib.itoa i).toArray⟩)):=by
 have _:=ht;have hl:((limbs i).length:Int)=0:=by rw[h0,qj];rfl
 refine zc func110 rfl ntmps110 rfl ?_;obtain ⟨HF,LW,aj,E⟩:=bg w;replace HF:=HF.and (Per.ay hx);refine zf ?_;intro aO w2 aD aI aW;obtain ⟨HF,LW,E⟩:=aK HF LW E aj aD aI;refine zr ?_;refine za rfl (zb yC rfl ((Na A c _ hi (HF.on E).here.1.2).mono ?_));rintro e w3 ⟨rfl,hb⟩;refine ⟨_,rfl,?_⟩;replace E:=bQ E hb;clear hb;refine xd ?_;refine ze 12 (.bool true) rfl (by rw[hl];rfl) (yu ?_);have e:Lib.itoa 0= [48]:=by rw[Lib.itoa,if_neg de,Lib.decDigits];rfl
 refine aQ ?_;exact ⟨by rw[h0,e];rfl,(LW.step E aj).toBelow⟩
theorem TV (hn:i<0):Calls prog 110 #[.agg #[.bool (decide (i<0)),.slice A (limbs i).length c]] w (aH w (.string ⟨(Lib.itoa i).toArray⟩)):=by
 have hpos:=oa (j:=i) om;have hl:((limbs i).length:Int)≠0:=om;have hl2:=zk hi;have hdi:decide (i<0)=true:=decide_eq_true hn;obtain ⟨bx,ox,rfl,hbx,hcx⟩:=hx.2 hpos;refine zc func110 rfl ntmps110 rfl ?_;obtain ⟨HF,LW,aj,E⟩:=bg w;replace HF:=HF.and (Per.ay hx);refine zf ?_;intro aO w2 aD aI aW;obtain ⟨HF,LW,E⟩:=aK HF LW E aj aD aI;refine zr ?_;refine za rfl (zb yC rfl ((Na _ c _ hi (HF.on E).here.1.2).mono ?_));rintro e w3 ⟨rfl,hb⟩;refine ⟨_,rfl,?_⟩;replace E:=bQ E hb;clear hb;refine xd ?_;refine ze 12 (.bool false) rfl (by rw[beq_eq_false_iff_ne.2 hl]<;>rfl) (xd ?_);refine ze 14 (.bool true) rfl (by rw[hdi]<;>rfl) (yq ?_);refine yt ?_;refine ye ?_;refine ze 3 (.string ⟨(kf i 0).toArray⟩) rfl (by rw[yfx,if_pos hn]<;>rfl) ?_;exact aF0
theorem TW (hn:0<i):Calls prog 110 #[.agg #[.bool (decide (i<0)),.slice A (limbs i).length c]] w (aH w (.string ⟨(Lib.itoa i).toArray⟩)):=by
 have hpos:=oa (j:=i) om;have hl:((limbs i).length:Int)≠0:=om;have hl2:=zk hi;have hdi:decide (i<0)=false:=decide_eq_false om;obtain ⟨bx,ox,rfl,hbx,hcx⟩:=hx.2 hpos;refine zc func110 rfl ntmps110 rfl ?_;obtain ⟨HF,LW,aj,E⟩:=bg w;replace HF:=HF.and (Per.ay hx);refine zf ?_;intro aO w2 aD aI aW;obtain ⟨HF,LW,E⟩:=aK HF LW E aj aD aI;refine zr ?_;refine za rfl (zb yC rfl ((Na _ c _ hi (HF.on E).here.1.2).mono ?_));rintro e w3 ⟨rfl,hb⟩;refine ⟨_,rfl,?_⟩;replace E:=bQ E hb;clear hb;refine xd ?_;refine ze 12 (.bool false) rfl (by rw[beq_eq_false_iff_ne.2 hl]<;>rfl) (xd ?_);refine ze 14 (.bool false) rfl (by rw[hdi]<;>rfl) (qo ?_);refine yt ?_;refine ye ?_;refine ze 3 (.string ⟨(kf i 0).toArray⟩) rfl (by rw[yfx,if_neg om]<;>rfl) ?_;exact aF0
theorem aF1:Calls prog 110 #[.agg #[.bool (decide (i<0)),.slice A (limbs i).length c]] w (aH w (.string ⟨(Lib.itoa i).toArray⟩)):=by
 rcases Int.lt_trichotomy i 0 with h | h | h
 · exact TV i A c w hi hx ht h
 · exact MH i A c w hi hx ht h
 · exact TW i A c w hi hx ht h
end
end Go.Proofs.YtmnmebdmpigddaaGreatDoor
namespace Go.Proofs.YtmnmebdmpigddaaGreatDoor
open Go.RowKit Proofs.Tryz
attribute [local irreducible] OW RS CW EW
section
variable (w:World) {bp op cp bf of cf bl ol cl:Nat}
theorem ap9 (n1:Bool) (A:Option Addr) (c:Nat) (xs:List Nat) (hl:xs.length≤9223372036854775807) (hx:aA w A xs) (hg:zm n1 xs=false):Calls prog 98 #[.agg #[.bool n1,.slice A xs.length c]] w (aH w (.tuple #[.int .u64 0,.int .i64 3])):=by
 refine zc func98 rfl ntmps98 rfl ?_;obtain ⟨HF,LW,aj,E⟩:=bg w;replace HF:=HF.and (Per.ay hx);refine zf ?_;intro aO w2 aD aI aW;obtain ⟨HF,LW,E⟩:=aK HF LW E aj aD aI;refine yu ?_;refine za rfl (zb yC rfl ((zw _ c _ A xs hl (HF.on E).here.1.2).mono ?_));rintro e w3 ⟨rfl,hb⟩;refine ⟨_,rfl,?_⟩;replace E:=bQ E hb;clear hb;refine zd 7 (.bool false) rfl (by rw[hg]<;>rfl) (gf ?_);exact vj
theorem YH (i:Int) (A:Option Addr) (c:Nat) (hi:i.natAbs<au^30) (hx:aA w A (limbs i)) (hD:∀b,Below w.heap.size w b→fD b) (hT:dK bp op cp bf of cf bl ol cl w) (hE:∃te pe,w.cell? ⟨4,0,none⟩=some (.iface te pe)):Calls prog 98 #[.agg #[.bool (decide (i<0)),.slice A (limbs i).length c]] w (aH w (.tuple #[.int .u64 ((ofV i:Nat):Int),.int .i64 (ofE i)])):=by
 obtain ⟨te,pe,hE⟩:=hE;refine zc func98 rfl ntmps98 rfl ?_;obtain ⟨HF,LW,aj,E⟩:=bg w;replace HF:=HF.and (Per.ay hx);replace HF:=HF.and (Per.tabs hT (fun _ h=>h.elim));replace HF:=HF.and (Per.aR hE (fun _ h=>h.elim));refine zf ?_;intro aO w2 aD aI aW;obtain ⟨HF,LW,E⟩:=aK HF LW E aj aD aI;refine yu ?_;refine za rfl (zb yC rfl ((Na _ c _ hi (HF.on E).here.1.1.1.2).mono ?_));rintro e w3 ⟨rfl,hb⟩;refine ⟨_,rfl,?_⟩;replace E:=bQ E hb;clear hb;refine qo ?_;refine za rfl (zb av5 rfl ((aF1 i A c _ hi (HF.on E).here.1.1.1.2 (later hD (LW.step E aj).toBelow)).mono ?_));rintro e w4 ⟨rfl,hb⟩;refine ⟨_,rfl,?_⟩;replace E:=bQ E hb;clear hb;refine za rfl (zb av3 rfl ((Gp _ (Jq i) (Nr i) (decide (i<0)) (ap3 i) (af7 i) (YB hi) (HF.on E).here.1.1.2 ⟨te,pe,(HF.on E).here.1.2⟩).mono ?_));rintro e w5 ⟨⟨er,rfl⟩,hb⟩;refine ⟨_,rfl,?_⟩;replace E:=bQ E hb;clear hb;refine yq ?_;refine za rfl (zb gY rfl ((ju _ (ofN i) (wH i).lt).mono ?_));rintro e w6 ⟨rfl,hb⟩;refine ⟨_,rfl,?_⟩;replace E:=bQ E hb;clear hb;refine zu ?_;refine zj rfl (fun h=>?_) (fun h=>?_)
 ·
  have h:=of_decide_eq_true h;refine qo ?_;exact ⟨by unfold ofV ofE;rw[if_pos h,if_pos h];rfl,(LW.step E aj).toBelow⟩
 ·
  have h:=of_decide_eq_false h;refine zv ?_;refine za rfl (zb VD rfl ((qhv _ (ofN i)).mono ?_));rintro e w7 ⟨rfl,hb⟩;refine ⟨_,rfl,?_⟩;replace E:=bQ E hb;clear hb;refine zt ?_;exact ⟨by unfold ofV ofE;rw[if_neg h,if_neg h,TS];rfl,(LW.step E aj).toBelow⟩
noncomputable def wV (a:Nat):Int:=if bO a then 0 else if rg a=9218868437227405312 then 0 else ky a
noncomputable def wE (a:Nat):Int:=if bO a then 1 else if rg a=9218868437227405312 then 7 else 0
theorem YI (n1:Bool) (A:Option Addr) (c:Nat) (xs:List Nat) (hl:xs.length≤9223372036854775807) (hx:aA w A xs) (V:Nat) (F:Int) (hV:V=(if zm n1 xs then ofV (num n1 xs) else 0)) (hF:F=(if zm n1 xs then ofE (num n1 xs) else 3)) (hD:∀b,Below w.heap.size w b→fD b) (hT:dK bp op cp bf of cf bl ol cl w) (hE:∃te pe,w.cell? ⟨4,0,none⟩=some (.iface te pe)):Calls prog 98 #[.agg #[.bool n1,.slice A xs.length c]] w (aH w (.tuple #[.int .u64 ((V:Nat):Int),.int .i64 F])):=by
 subst hV;subst hF;cases hg:zm n1 xs with
 | false=>exact ap9 w n1 A c xs hl hx hg
 | true=>
  obtain ⟨i,rfl,rfl,hi⟩:=qxk hg;rw[if_pos rfl,if_pos rfl,jz];exact YH w i A c hi hx hD hT hE
end
end Go.Proofs.YtmnmebdmpigddaaGreatDoor
namespace Go.Proofs.YtmnmebdmpigddaaGreatDoor
open Go.RowKit Proofs.Tryz
theorem CK {P Q:Prop} (k:Q) (h:(Unit→Q)→P:=by
 intro zK;refine zq ?_;refine ki (rs:=[.cell 2 28]) (vs:=[_]) rfl ⟨⟨_,rfl,ymv u28 rfl jf (HF.on E).here.2 rfl⟩,trivial⟩ ?_;exact zK ()):P:=h fun _=>k
attribute [local irreducible] OW RS CW EW
section
variable (w:World) (ua:PV) (A1 B1:Option Addr) (c1 d1:Nat) (hx:aA w A1 ua.xs) (hl:ua.xs.length≤9223372036854775807) (ha:ua.bits<18446744073709551616)
include hx hl ha
omit hx hl in
theorem YJ (b:Nat) (hb0:b<18446744073709551616):Calls prog 47 #[.int .u64 ((b:Nat):Int)] w (aH w (.agg #[.int .i64 3,.bool false,.bool false,.slice none 0 0,.int .u64 ((qz b:Nat):Int),.string ⟨#[]⟩,.slice none 0 0])):=by
 have _:=ha;refine zc func47 rfl ntmps47 rfl ?_;obtain ⟨HF,LW,aj,E⟩:=bg w;refine zu ?_;refine zi ?_;intro aO w2 aD aI aW;obtain ⟨aW,HF,E,aj⟩:=aZ HF LW E aj aI aW;refine zv ?_;refine za rfl (zb VA rfl ((yox _ b).mono ?_));rintro e w3 ⟨rfl,hb⟩;refine ⟨_,rfl,?_⟩;have Ec:=Ext.of_below hb No;replace aD:=aD.av Ec ah.nil;replace E:=E.trans Ec.no;refine za rfl (zb VA rfl ((yox _ (qz (qa b))).mono ?_));rintro e w4 ⟨rfl,hb⟩;refine ⟨_,rfl,?_⟩;have Ec:=Ext.of_below hb No;replace aD:=aD.av Ec ah.nil;replace E:=E.trans Ec.no;refine za rfl (ja (cs:=#[.int .i64 3,.bool false,.bool false,.slice none 0 0,.int .u64 ((qz (qa (qz (qa b))):Nat):Int),.string ⟨#[]⟩,.slice none 0 0]) wS yB rfl rfl (zp (zo jf rfl rfl aD rfl rfl rfl ?_)));intro w5 Bx aI;replace aD:aB w5 aO 28 #[.int .i64 3,.bool false,.bool false,.slice none 0 0,.int .u64 ((qz (qa (qz (qa b))):Nat):Int),.string ⟨#[]⟩,.slice none 0 0]:=Bx;replace E:=E.step1 aI ak.head;obtain ⟨HF,LW,aj,E⟩:=dz HF LW E aj (Y:=No) (ak.skip ak.aV) (Per.aS aD ah.nil);refine CK ?_;exact ⟨by rw[Lf hb0];rfl,(LW.step E aj).toBelow⟩
variable {bp op cp bf of cf bl ol cl:Nat} (hD:∀b,Below w.heap.size w b→fD b) (aG:dK bp op cp bf of cf bl ol cl w) (hE:∃te pe,w.cell? ⟨4,0,none⟩=some (.iface te pe))
include hD aG hE
theorem CO (hg:ua.good=true) (hn:qd ua.k=true) (V:Nat) (f:Int) (hV:V=(qf ua).1) (hf:f=(qf ua).2):Calls prog 49 #[aP ua A1 c1 B1 d1] w (aH w (.tuple #[.int .u64 ((V:Nat):Int),.int .i64 f])):=by
 obtain ⟨te,pe,hE⟩:=hE;have _:=ha;have hkk:=QY hn;have hcl:=PV.lF hl;unfold qf at hV hf;refine zc func49 rfl ntmps49 rfl ?_;obtain ⟨HF,LW,aj,E⟩:=bg w;replace HF:=HF.and (Per.ay hx);replace HF:=HF.and (Per.tabs aG (fun _ h=>h.elim));replace HF:=HF.and (Per.aR hE (fun _ h=>h.elim));by_cases hk:ua.k=3
 ·
  rw[if_pos hk] at hV hf;subst hV hf;refine zf ?_;intro aO w2 aD aI aW;obtain ⟨HF,LW,E⟩:=aK HF LW E aj aD aI;refine jm ?_;refine ze 6 (.bool true) rfl (by simp[hk]) (jm ?_);exact vj
 ·
  have hk2:ua.k=1∨ua.k=2:=om;have hgc:=PV.af8 hg hk2;rw[if_neg hk] at hV hf;refine zf ?_;intro bM w4 aJ aM bN;obtain ⟨HF,LW,E⟩:=aK HF LW E aj aJ aM;refine jm ?_;refine ze 6 (.bool false) rfl (by simp[hk]) (zt ?_);refine lT ?_;rintro e w5 ⟨A3,c3,rfl,hN,hb⟩;refine ⟨_,rfl,?_⟩;have XC:∀q9,(No) q9→q9<w4.heap.size:=ak.none_;replace E:=bQ E hb;obtain ⟨HF,LW,E⟩:=cZ HF LW E aj (QJ hN XC);refine zh rfl aJ3 rfl (YI _ ua.cn A3 c3 ua.cx hcl (((HF.on E).here.2).nums (HF.on E).here.1.1.1.1.2) V f (by rw[hV,if_pos hgc];rfl) (by rw[hf,if_pos hgc];rfl) (later hD (LW.step E aj).toBelow) (HF.on E).here.1.1.1.2 ⟨te,pe,(HF.on E).here.1.1.2⟩) E fun w6 E=>(yu ?_);exact vj
end
end Go.Proofs.YtmnmebdmpigddaaGreatDoor
namespace Go.Proofs.YtmnmebdmpigddaaGreatDoor
open Go.RowKit
attribute [local irreducible] OW RS CW EW
section
variable (w:World)
def signed (s:ByteArray):Bool:=decide (aL s 0=45)
def aN7 (s:ByteArray):Nat:=if aL s 0=45 then 1 else 0
end
end Go.Proofs.YtmnmebdmpigddaaGreatDoor
namespace Go.Proofs.YtmnmebdmpigddaaGreatDoor
open Go.RowKit
attribute [local irreducible] OW RS CW EW
noncomputable def prX (s:ByteArray):ByteArray:=s.extract (aN7 s) s.size
noncomputable def ag6 (s:ByteArray):Bool:=(prX s).toList==(⟨#[105,110,102]⟩:ByteArray).toList
noncomputable def ag7 (s:ByteArray):Bool:=(prX s).toList==(⟨#[110,97,110]⟩:ByteArray).toList
noncomputable def prV (s:ByteArray):Nat:=
 if 1000<s.size then 0
 else if ag6 s then eO (signed s)+9218868437227405312
 else if ag7 s then 9221120237041090560
 else if aD6 (prX s) 0 then eO (signed s)+iK (prX s) 0 false
 else 0
noncomputable def prE (s:ByteArray):Int:=
 if 1000<s.size then 2
 else if ag6 s then 0
 else if ag7 s then 0
 else if aD6 (prX s) 0 then 0
 else 4
theorem gU.le {v:Nat} (h:gU false v):v≤9218868437227405312:=h.aLz
section
variable (w:World) {bp op cp bf of cf bl ol cl:Nat}
end
end Go.Proofs.YtmnmebdmpigddaaGreatDoor
namespace Go.Proofs.YtmnmebdmpigddaaGreatDoor
open Go.RowKit
noncomputable def unP (op:Int) (v:PV):PV×Int:=
 if v.good then (if qd v.k&&(op==1 || op==2) then (if v.k=3 then (vFl (if op=1 then qz (qa v.bits) else qz v.bits),0) else (vI (if op=2 then qu v else -qu v),0)) else (vZ,9)) else (vZ,3)
noncomputable def aQ5 (v:PV):PV×Int:=
 if v.good then (if v.k=1∨v.k=2 then (vI (qu v),0)
  else if v.k=3 then (if wE v.bits=0 then (vI (wV v.bits),0) else (vZ,wE v.bits))
  else if v.k=4 then (if aEq (af6 v.s.data.toList)=0 then (vI (aE9 (aEz v.s.data.toList) (af6 v.s.data.toList)),0) else (vZ,4))
  else (vZ,9)) else (vZ,3)
noncomputable def aQ6 (v:PV):PV×Int:=
 if v.good then (if qd v.k then (if (qf v).2=0 then (vFl (qz (qf v).1),0) else (vZ,(qf v).2))
  else if v.k=4 then (if prE v.s=0 then (vFl (qz (prV v.s)),0) else (vZ,4)) else (vZ,9)) else (vZ,3)
end Go.Proofs.YtmnmebdmpigddaaGreatDoor
namespace Go.Proofs.YtmnmebdmpigddaaGreatDoor
open Go.RowKit Proofs.Tryz
attribute [local irreducible] OW RS CW EW
section
variable (w:World) (v:PV) (A B:Option Addr) (c d:Nat) (hx:aA w A v.xs) (hy:aA w B v.xs) (hl:v.xs.length≤1048576)
include hx hy hl
theorem ar8:Calls prog 14 #[.agg #[.int .i64 v.k,.bool v.yes,.bool v.neg,.slice A v.xs.length c,.int .u64 (v.bits:Int),.string v.s,.slice none 0 0],.agg #[.int .i64 v.k,.bool v.yes,.bool v.neg,.slice B v.xs.length d,.int .u64 (v.bits:Int),.string v.s,.slice none 0 0]] w (aH w (.bool true)):=by
 refine zc func14 rfl ntmps14 rfl ?_;obtain ⟨HF,LW,aj,E⟩:=bg w;replace HF:=HF.and (Per.ay hx);replace HF:=HF.and (Per.ay hy);refine zf ?_;intro aO w2 aD aI aW;obtain ⟨HF,LW,E⟩:=aK HF LW E aj aD aI;refine za rfl (zn rfl ?_);intro bM w4 aJ aM bN;obtain ⟨HF,LW,E⟩:=aK HF LW E aj aJ aM;refine jm ?_;refine zd 11 (.bool false) rfl (by simp) (ye ?_);refine bV rfl (qvz u4 rfl rfl (zu ?_));refine zd 18 (.bool false) rfl (by simp) (zr ?_);refine zd 25 (.bool false) rfl (by simp) (ye ?_);refine bV rfl (ynz rfl rfl (zu ?_));refine zd 32 (.bool false) rfl (by simp) (aQ ?_);refine bV rfl (qdk u24 rfl kz rfl (HF.on E).here.1.2 rfl rfl (aQ ?_));refine bV rfl (qdk u24 rfl kz rfl (HF.on E).here.2 rfl rfl (bV rfl (zb auq rfl ((lV v.neg v.xs▸qJ A B c d v.xs v.xs _ v.neg v.neg (HF.on E).here.1.1.1.2 (HF.on E).here.1.1.2 hl hl).mono ?_))));rintro e w5 ⟨rfl,hb⟩;refine ⟨_,rfl,?_⟩;replace E:=bQ E hb;refine Bf ?_;refine zlq (zr ?_);refine zd 52 (.int .i64 0) rfl (by kernel_rfl:(.int .i64 (0:Nat):Value)=_) (qA ?_);exact vj
end
end Go.Proofs.YtmnmebdmpigddaaGreatDoor
namespace Go.Proofs.YtmnmebdmpigddaaGreatDoor
open Go.RowKit Proofs.Tryz
attribute [local irreducible] OW RS CW EW
theorem Dg {w:World} {A:Option Addr} {c:Nat} {n:Bool} {xs:List Nat} (hx:aA w A xs) (hl:xs.length≤9223372036854775807) (hg:zm n xs=true) (J:Int) (hJ:J= -num n xs):Calls prog 48 #[.agg #[.bool n,.slice A xs.length c]] w (VR w J):=by
 have h:=Wv A c xs w n hx hl;rw[if_pos hg,←hJ] at h;exact h
theorem Uu {w:World} {A:Option Addr} {c:Nat} (i:Int) (hx:aA w A (limbs i)) (hi:i.natAbs<au^30) (J:Int) (hJ:J= -i):Calls prog 48 #[.agg #[.bool (decide (i<0)),.slice A (limbs i).length c]] w (VR w J):=by
 have hl:=zk hi;exact Dg hx om (qy hi) J (by rw[hJ,jz])
section
variable (w:World) (ua:PV) (A1 B1:Option Addr) (c1 d1:Nat) (hx:aA w A1 ua.xs) (hl:ua.xs.length≤9223372036854775807) (ha:ua.bits<18446744073709551616)
include hx hl ha
theorem Gv (hg:ua.good=true) (hk:ua.k=1∨ua.k=2):Calls prog 15 #[.int .i64 2,aP ua A1 c1 B1 d1] w (vg w (vI (qu ua),0)):=by
 have _:=hx;have _:=hl;have _:=ha;obtain ⟨I,hI⟩:∃I,I= -num ua.cn ua.cx:=⟨_,rfl⟩;have hnn:qd ua.k=true:=by rcases hk with h | h<;>rw[h]<;>rfl
 have hgc:=PV.af8 hg hk;have hcl:=PV.lF hl;have hcan:=(PV.canon hg hk).2.2;have hIb:I.natAbs<au^30:=by rw[hI,Int.natAbs_neg];exact hcan
 obtain ⟨K,hK⟩:∃K,K= -I:=⟨_,rfl⟩;have hKn:qu ua=K:=by rw[hK,hI,Int.neg_neg];rfl
 rw[hKn];refine zc func15 rfl ntmps15 rfl ?_;obtain ⟨HF,LW,aj,E⟩:=bg w;replace HF:=HF.and (Per.ay hx);refine zf ?_;intro aO w2 aD aI aW;obtain ⟨HF,LW,E⟩:=aK HF LW E aj aD aI;refine zi ?_;intro bM w4 aJ aM bN;obtain ⟨bN,HF,E,aj⟩:=aZ HF LW E aj aM bN;refine yu ?_;refine za rfl (zb gH rfl ((vc _ ua A1 B1 c1 d1 (HF.on E).here.1.2 hl true hg).mono ?_));rintro e w5 ⟨rfl,hb⟩;refine ⟨_,rfl,?_⟩;have Ec:=Ext.of_below hb No;replace aJ:=aJ.av Ec ah.nil;replace E:=E.trans Ec.no;refine yu ?_;refine za rfl (zb um rfl ((kl _ ua A1 B1 c1 d1 true hnn).mono ?_));rintro e w6 ⟨rfl,hb⟩;refine ⟨_,rfl,?_⟩;have Ec:=Ext.of_below hb No;replace aJ:=aJ.av Ec ah.nil;replace E:=E.trans Ec.no;refine jL ?_;refine ze 25 (.bool false) rfl (by rcases hk with h | h<;>simp[h]) (zr ?_);refine lT ?_;rintro e w7 ⟨A3,c3,rfl,hN,hb⟩;refine ⟨_,rfl,?_⟩;have XC:∀q9,(ak [(some bM)]) q9→q9<w6.heap.size:=(ak.grow ak.none_ (zg aJ.lt));have Ec:=Ext.of_below hb No;replace aJ:=aJ.av Ec ah.nil;replace E:=E.trans Ec.no;obtain ⟨HF,LW,E⟩:=cZ HF LW E aj (QJ hN XC);refine za rfl (zb auz rfl ((Dg (c:=c3) (((HF.on E).here.2).nums (HF.on E).here.1.1.2) hcl hgc I hI).mono ?_));rintro e w8 ⟨A4,c4,rfl,o4,hb⟩;refine ⟨_,rfl,?_⟩;have XC:∀q9,(ak [(some bM)]) q9→q9<w7.heap.size:=(ak.grow ak.none_ (zg aJ.lt));have SC:=Nat.le_trans LW.size E.size;have Ec:=Ext.of_below hb No;replace aJ:=aJ.av Ec ah.nil;replace E:=E.trans Ec.no;have S4:=SC;obtain ⟨HF,LW,E⟩:=cZ HF LW E aj (Per.bP o4 XC);refine yn ?_;intro gb9 dI Vf Vg Gb9;have Uv:Apart (some gb9) (some bM):=Apart.of_lt (zg aJ.lt) Gb9;have Uw:=Uv.symm;replace aJ:=aJ.av Vg ah.nil;obtain ⟨Gb9,HF,E,aj⟩:=aZ HF LW E aj Vg Gb9;refine zp (zo kz rfl rfl Vf rfl rfl rfl ?_);intro dS Bx Vg;replace Vf:aB dS gb9 24 #[.bool (decide (I<0)),.slice A4 (limbs I).length c4]:=Bx;replace aJ:=aJ.av Vg (ah.cons Uw ah.nil);replace E:=E.step1 Vg ak.head;refine jm ?_;refine za rfl (zb auz rfl ((Uu (c:=c4) I ((HF.on E).here.2).nums hIb K hK).mono ?_));rintro e eB ⟨A5,c5,rfl,o5,hb⟩;refine ⟨_,rfl,?_⟩;have XC:∀q9,(ak [(some gb9),(some bM)]) q9→q9<dS.heap.size:=(ak.grow (ak.grow ak.none_ (zg aJ.lt)) (zg Vf.lt));have SC:=Nat.le_trans LW.size E.size;have Ec:=Ext.of_below hb No;replace Vf:=Vf.av Ec ah.nil;replace aJ:=aJ.av Ec ah.nil;replace E:=E.trans Ec.no;have S5:=SC;obtain ⟨HF,LW,E⟩:=cZ HF LW E aj (Per.bP o5 XC);refine zp (zo kz rfl rfl Vf rfl rfl rfl ?_);intro fK Bx Vg;replace Vf:aB fK gb9 24 #[.bool (decide (K<0)),.slice A5 (limbs K).length c5]:=Bx;replace aJ:=aJ.av Vg (ah.cons Uw ah.nil);replace E:=E.step1 Vg ak.head;obtain ⟨HF,LW,aj,E⟩:=dz HF LW E aj (Y:=ak [(some bM)]) (ak.skip (ak.keep ak.aV)) (Per.aS Vf (ah.cons Uv ah.nil));refine zv ?_;refine za rfl (zb ai1 rfl ((lW _ A5 c5 (decide (K<0)) (limbs K)).mono ?_));rintro e dL ⟨rfl,hb⟩;refine ⟨_,rfl,?_⟩;have Ec:=Ext.of_below hb No;replace aJ:=aJ.av Ec ah.nil;replace E:=E.trans Ec.no;refine zp (zo jf rfl rfl aJ rfl rfl rfl ?_);intro fM Bx aM;replace aJ:aB fM bM 28 #[.int .i64 2,.bool false,.bool (decide (K<0)),.slice A5 (limbs K).length c5,.int .u64 0,.string ⟨#[]⟩,.slice none 0 0]:=Bx;replace E:=E.step1 aM ak.head;obtain ⟨HF,LW,aj,E⟩:=dz HF LW E aj (Y:=No) (ak.skip ak.aV) (Per.aS aJ ah.nil);refine zv ?_;exact ⟨A5,c5,rfl,((HF.on E).here.1.1.2).mono S5,(LW.step E aj).toBelow⟩
end
end Go.Proofs.YtmnmebdmpigddaaGreatDoor
namespace Go.Proofs.YtmnmebdmpigddaaGreatDoor
open Go.RowKit
attribute [local irreducible] OW RS CW EW
section
variable (bs r:List UInt8) (w:World)
end
section
variable (w:World)
end
end Go.Proofs.YtmnmebdmpigddaaGreatDoor
namespace Go.Proofs.YtmnmebdmpigddaaGreatDoor
open Go.RowKit Proofs.Tryz
attribute [local irreducible] OW RS CW EW
section
variable (w:World) (ua:PV) (A1 B1:Option Addr) (c1 d1:Nat) (hx:aA w A1 ua.xs) (hl:ua.xs.length≤9223372036854775807) (ha:ua.bits<18446744073709551616)
include hx hl ha
theorem MK (hg:ua.good=true) (hk:ua.k=1):Calls prog 13 #[aP ua A1 c1 B1 d1] w (vg w (vI (qu ua),0)):=by
 have _:=hx;have _:=hl;have _:=ha;obtain ⟨I,hI⟩:∃I,I=qu ua:=⟨_,rfl⟩;rw[←hI];refine zc func13 rfl ntmps13 rfl ?_;obtain ⟨HF,LW,aj,E⟩:=bg w;replace HF:=HF.and (Per.ay hx);refine zf ?_;intro aO w2 aD aI aW;obtain ⟨HF,LW,E⟩:=aK HF LW E aj aD aI;refine zi ?_;intro bM w4 aJ aM bN;obtain ⟨bN,HF,E,aj⟩:=aZ HF LW E aj aM bN;refine zr ?_;refine za rfl (zb gH rfl ((vc _ ua A1 B1 c1 d1 (HF.on E).here.1.2 hl true hg).mono ?_));rintro e w5 ⟨rfl,hb⟩;refine ⟨_,rfl,?_⟩;have Ec:=Ext.of_below hb No;replace aJ:=aJ.av Ec ah.nil;replace E:=E.trans Ec.no;refine yu ?_;refine yn ?_;intro gb6 w7 QI Eb6 Gb6;have Ux:Apart (some gb6) (some bM):=Apart.of_lt (zg aJ.lt) Gb6;have aN8:=Ux.symm;replace aJ:=aJ.av Eb6 ah.nil;obtain ⟨Gb6,HF,E,aj⟩:=aZ HF LW E aj Eb6 Gb6;refine jM ?_;refine ze 12 (.bool true) rfl (by simp[hk]) (zr ?_);refine za rfl (zb aHx rfl ((hI▸Gv _ ua A1 B1 c1 d1 (HF.on E).here.1.2 hl ha hg om).mono ?_));rintro e w8 ⟨A3,c3,rfl,o3,hb⟩;refine ⟨_,rfl,?_⟩;have XC:∀q9,(ak [(some gb6),(some bM)]) q9→q9<w7.heap.size:=(ak.grow (ak.grow ak.none_ (zg aJ.lt)) (zg QI.lt));have SC:=Nat.le_trans LW.size E.size;have Ec:=Ext.of_below hb No;replace QI:=QI.av Ec ah.nil;replace aJ:=aJ.av Ec ah.nil;replace E:=E.trans Ec.no;have S3:=SC;obtain ⟨HF,LW,E⟩:=cZ HF LW E aj (Per.bP o3 XC);refine zu ?_;refine zp (zo jf rfl rfl aJ rfl rfl rfl ?_);intro w9 Bx aM;replace aJ:aB w9 bM 28 #[.int .i64 2,.bool false,.bool (decide (I<0)),.slice A3 (limbs I).length c3,.int .u64 0,.string ⟨#[]⟩,.slice none 0 0]:=Bx;replace QI:=QI.av aM (ah.cons Ux ah.nil);replace E:=E.step1 aM (ak.tail ak.head);refine zr ?_;exact ⟨A3,c3,rfl,((HF.on E).here.2).mono S3,(LW.step E aj).toBelow⟩
variable {bp op cp bf of cf bl ol cl:Nat} (hD:∀b,Below w.heap.size w b→fD b) (aG:dK bp op cp bf of cf bl ol cl w) (hE:∃te pe,w.cell? ⟨4,0,none⟩=some (.iface te pe))
include hD aG hE
end
end Go.Proofs.YtmnmebdmpigddaaGreatDoor
namespace Go.Proofs.YtmnmebdmpigddaaGreatDoor
open Go.RowKit Proofs.Tryz
attribute [local irreducible] OW RS CW EW
theorem wQ {f:FuncId} {args:Array Value} {w:World} {a b:Bool} (e:a=b) (h:Calls prog f args w fun e w'=>e= .returned (.bool a)∧Below w.heap.size w w'):Calls prog f args w fun e w'=>e= .returned (.bool b)∧Below w.heap.size w w':=by
 subst e;exact h
section
variable (w:World) (ua ub:PV) (A1 B1 A2 B2:Option Addr) (c1 d1 c2 d2:Nat) (hx:aA w A1 ua.xs) (hl:ua.xs.length≤9223372036854775807) (ha:ua.bits<18446744073709551616) (hy:aA w A2 ub.xs) (hl':ub.xs.length≤9223372036854775807) (hb0:ub.bits<18446744073709551616)
include hx hl hy hl'
omit hy hl' in
theorem yhk (r:Bool) (hr:PV.good ua=r):Calls prog 12 #[aP ua A1 c1 B1 d1] w (aH w (.bool r)):=by
 subst hr;exact Fw w ua.k ua.yes ua.neg A1 B1 ua.xs c1 ua.bits ua.ni d1 ua.s hx hl
theorem Uy (g1:ua.good=false):Calls prog 8 #[aP ua A1 c1 B1 d1,aP ub A2 c2 B2 d2] w (aH w (.bool false)):=by
 have _:=hx;have _:=hl;have _:=hy;have _:=hl';refine zc func8 rfl ntmps8 rfl ?_;obtain ⟨HF,LW,aj,E⟩:=bg w;replace HF:=HF.and (Per.ay hx);replace HF:=HF.and (Per.ay hy);refine zf ?_;intro aO w2 aD aI aW;obtain ⟨HF,LW,E⟩:=aK HF LW E aj aD aI;refine za rfl (zn rfl ?_);intro bM w4 aJ aM bN;obtain ⟨HF,LW,E⟩:=aK HF LW E aj aJ aM;refine zt ?_;refine zh rfl Ov rfl (yhk _ ua A1 B1 c1 d1 (HF.on E).here.1.1.1.2 hl false g1) E fun w5 E=>(qo ?_);exact vj
theorem Uz (g1:ua.good=true) (r:Bool) (g2:ub.good=r):Calls prog 8 #[aP ua A1 c1 B1 d1,aP ub A2 c2 B2 d2] w (aH w (.bool r)):=by
 have _:=hx;have _:=hl;have _:=hy;have _:=hl';refine zc func8 rfl ntmps8 rfl ?_;obtain ⟨HF,LW,aj,E⟩:=bg w;replace HF:=HF.and (Per.ay hx);replace HF:=HF.and (Per.ay hy);refine zf ?_;intro aO w2 aD aI aW;obtain ⟨HF,LW,E⟩:=aK HF LW E aj aD aI;refine za rfl (zn rfl ?_);intro bM w4 aJ aM bN;obtain ⟨HF,LW,E⟩:=aK HF LW E aj aJ aM;refine zt ?_;refine zh rfl Ov rfl (yhk _ ua A1 B1 c1 d1 (HF.on E).here.1.1.1.2 hl true g1) E fun w5 E=>(zu ?_);refine bV rfl (zb Ov rfl ((yhk _ ub A2 B2 c2 d2 (HF.on E).here.1.1.2 hl' r g2).mono ?_));rintro e w6 ⟨rfl,hb⟩;refine ⟨_,rfl,?_⟩;replace E:=bQ E hb;refine zt ?_;exact vj
theorem Jw (r:Bool) (hr:(ua.good&&ub.good)=r):Calls prog 8 #[aP ua A1 c1 B1 d1,aP ub A2 c2 B2 d2] w (aH w (.bool r)):=by
 cases g1:ua.good
 · rw[g1] at hr;subst hr;exact Uy w ua ub A1 B1 A2 B2 c1 d1 c2 d2 hx hl hy hl' g1
 · rw[g1,Bool.true_and] at hr;exact Uz w ua ub A1 B1 A2 B2 c1 d1 c2 d2 hx hl hy hl' g1 r hr
include ha hb0
end
end Go.Proofs.YtmnmebdmpigddaaGreatDoor
