/- Texts of this claim. -/
import Derived.Test.YtdofcnodhgaedaaGreatDoorG21
import Derived.Shelf.Strings.Builder1
import Derived.Shelf.Strings.Builder2
import Derived.Shelf.Small.Bits
import Derived.Shelf.Small.Strs
import Derived.Shelf.Strings.BuilderF
import Derived.Shelf.Strconv.Itoa0
import Derived.Shelf.Strconv.Itoa1
import Derived.Shelf.LaysM
import Derived.Shelf.Strconv.Itoa2
import Derived.Shelf.Strconv.Itoa3
import Derived.Shelf.Pu.ParseUintPublic10
import Derived.Shelf.Strings.Search1
import Derived.Shelf.Strings.Search2
import Derived.Shelf.Strings.Search3
import Derived.Shelf.Strings.Shaped
import Derived.Shelf.Strings.Prefix
import Derived.Shelf.Strings.Repeat
import Derived.Test.YtdofcnodhgaedaaGreatDoorProg
import Derived.Lib.Bytealg
set_option maxRecDepth 100000
set_option maxHeartbeats 20000000
namespace Go.Proofs
open Go.Shelf Go.Lib Go.Sort Go.RowKit
def Tryz.lays169_ren:Go.Shelf.Ren:=⟨fun | 169=>38 | n=>n,fun | 70=>59 | 9=>9 | 0=>0 | 72=>61 | 37=>46 | 127=>99 | 3=>3 | 5=>5 | n=>n,fun | n=>n⟩
theorem Tryz.lays169:Go.Proofs.Lays.n169 Tryz.prog Tryz.lays169_ren:={
 mixed:=by kernel_rfl
 f169:=Tryz.func38.trans (congrArg some (by kernel_rfl))
 t0:=Tryz.underlying0
 a0:=Tryz.isAgg0
 z0:=Tryz.sizeOf0
 v0:=Tryz.zeroValue0
 t3:=Tryz.underlying3
 a3:=Tryz.isAgg3
 z3:=Tryz.sizeOf3
 v3:=Tryz.zeroValue3
 t9:=Tryz.underlying9
 a9:=Tryz.isAgg9
 z9:=Tryz.sizeOf9
 v9:=Tryz.zeroValue9
 t37:=Tryz.underlying46
 a37:=Tryz.isAgg46
 z37:=Tryz.sizeOf46
 v37:=Tryz.zeroValue46
 t70:=Tryz.underlying59
 a70:=Tryz.isAgg59
 z70:=Tryz.sizeOf59
 v70:=Tryz.zeroValue59
 t72:=Tryz.underlying61
 a72:=Tryz.isAgg61
 z72:=Tryz.sizeOf61
 v72:=Tryz.zeroValue61
 t127:=Tryz.underlying99
 a127:=Tryz.isAgg99
 z127:=Tryz.sizeOf99
 v127:=Tryz.zeroValue99 }
theorem Tryz.Builder_Extra_169:Builder.Extra Tryz.prog Tryz.lays169_ren:={
 sizeBuilder:=by kernel_rfl
 liesBuilder:=by kernel_rfl
 t5:=Tryz.underlying5
 a5:=Tryz.isAgg5
 z5:=Tryz.sizeOf5
 v5:=Tryz.zeroValue5
 infoByte:=by kernel_rfl
 cellsByte:=by kernel_rfl
 sizeByte:=by kernel_rfl
 neB5:=by decide }
open Go.RowKit in
theorem Tryz.Builder_String_any (B b:Nat) (l:List UInt8) (w:World) (h:Lib.IsBuilder 61 5 B b (Lib.byteCells l) w) (hBw:B≤w.heap.size) :
 Calls Tryz.prog 38 #[.pointer (some ⟨b,0,none⟩)] w fun e w'=>e= .returned (.string ⟨l.toArray⟩)∧Below B w w':=Any.Builder_String_any Tryz.lays169 Tryz.Builder_Extra_169 B b l w h hBw
def Tryz.lays137_ren:Go.Shelf.Ren:=⟨fun | 137=>71 | 217=>106 | 266=>146 | n=>n,fun | 9=>9 | 5=>5 | 3=>3 | n=>n,fun | n=>n⟩
theorem Tryz.lays137:Go.Proofs.Lays.n137 Tryz.prog Tryz.lays137_ren:={
 mixed:=by kernel_rfl
 f137:=Tryz.func71.trans (congrArg some (by kernel_rfl))
 f217:=Tryz.func106.trans (congrArg some (by kernel_rfl))
 f266:=Tryz.func146.trans (congrArg some (by kernel_rfl))
 t3:=Tryz.underlying3
 a3:=Tryz.isAgg3
 z3:=Tryz.sizeOf3
 v3:=Tryz.zeroValue3
 t5:=Tryz.underlying5
 a5:=Tryz.isAgg5
 z5:=Tryz.sizeOf5
 v5:=Tryz.zeroValue5
 t9:=Tryz.underlying9
 a9:=Tryz.isAgg9
 z9:=Tryz.sizeOf9
 v9:=Tryz.zeroValue9 }
open Go.RowKit in
theorem Tryz.strings_IndexByte (s:ByteArray) (c:Int) (w:World) :
 Calls Tryz.prog 71 #[.string s,.int .u8 c] w fun e w'=>e= .returned (.int .i64 (Lib.indexByte s.data.toList c.toNat.toUInt8))∧w'=w:=Any.strings_IndexByte Tryz.lays137 s c w
def Tryz.lays283_ren:Go.Shelf.Ren:=⟨fun | 283=>140 | n=>n,fun | 3=>3 | 9=>9 | 4=>4 | n=>n,fun | n=>n⟩
theorem Tryz.lays283:Go.Proofs.Lays.n283 Tryz.prog Tryz.lays283_ren:={
 mixed:=by kernel_rfl
 f283:=Tryz.func140.trans (congrArg some (by kernel_rfl))
 t3:=Tryz.underlying3
 a3:=Tryz.isAgg3
 z3:=Tryz.sizeOf3
 v3:=Tryz.zeroValue3
 t4:=Tryz.underlying4
 a4:=Tryz.isAgg4
 z4:=Tryz.sizeOf4
 v4:=Tryz.zeroValue4
 t9:=Tryz.underlying9
 a9:=Tryz.isAgg9
 z9:=Tryz.sizeOf9
 v9:=Tryz.zeroValue9 }
open Go.Lib in
theorem Tryz.internal_strconv_small (i:Nat) (h:i<100) (w:World) :
 Calls Tryz.prog 140 #[.int .i64 i] w fun e w'=>e= .returned (.string ⟨(Lib.decDigits i).toArray⟩)∧w'=w:=Any.internal_strconv_small Tryz.lays283 i h w
def Tryz.laysM284_ren:Go.Shelf.Ren:=⟨fun | 284=>141 | 129=>166 | 317=>167 | 318=>168 | n=>n,fun | 53=>25 | 3=>3 | 212=>170 | 0=>0 | 4=>4 | 46=>53 | 5=>5 | 9=>9 | n=>n,fun | 17=>3 | n=>n⟩
theorem Tryz.laysM284:Go.Proofs.LaysM.n284 Tryz.prog Tryz.laysM284_ren:={
 mixed:=by kernel_rfl
 f129:=Tryz.func166.trans (congrArg some (by kernel_rfl))
 f284:=Tryz.func141.trans (congrArg some (by kernel_rfl))
 f317:=Tryz.func167.trans (congrArg some (by kernel_rfl))
 f318:=Tryz.func168.trans (congrArg some (by kernel_rfl))
 t0:=Tryz.underlying0
 a0:=Tryz.isAgg0
 z0:=Tryz.sizeOf0
 v0:=Tryz.zeroValue0
 t3:=Tryz.underlying3
 a3:=Tryz.isAgg3
 z3:=Tryz.sizeOf3
 v3:=Tryz.zeroValue3
 t4:=Tryz.underlying4
 a4:=Tryz.isAgg4
 z4:=Tryz.sizeOf4
 v4:=Tryz.zeroValue4
 t5:=Tryz.underlying5
 a5:=Tryz.isAgg5
 z5:=Tryz.sizeOf5
 v5:=Tryz.zeroValue5
 t9:=Tryz.underlying9
 a9:=Tryz.isAgg9
 z9:=Tryz.sizeOf9
 v9:=Tryz.zeroValue9
 t46:=Tryz.underlying53
 a46:=Tryz.isAgg53
 z46:=Tryz.sizeOf53
 v46:=Tryz.zeroValue53
 t53:=Tryz.underlying25
 a53:=Tryz.isAgg25
 z53:=Tryz.sizeOf25
 v53:=Tryz.zeroValue25
 t212:=Tryz.underlying170
 a212:=Tryz.isAgg170
 z212:=Tryz.sizeOf170
 v212:=Tryz.zeroValue170
 g17:=by kernel_rfl
 i0:=by kernel_rfl
 i3:=by kernel_rfl
 i4:=by kernel_rfl
 i5:=by kernel_rfl
 i9:=by kernel_rfl
 i46:=by kernel_rfl
 i53:=by kernel_rfl
 i212:=by kernel_rfl
 m17:=by kernel_rfl }
open Go.Lib in
theorem Tryz.internal_strconv_numDigits (u:Nat) (h1:1≤u) (h2:u<18446744073709551616) (w:World) (htab:Lib.TabIs Tryz.prog w "internal/strconv.uint64pow10" .u64 Lib.pow10Tab) :
 Calls Tryz.prog 141 #[.int .u64 u] w fun e w'=>e= .returned (.int .i64 (Lib.nDigits u))∧w'=w:=Any.internal_strconv_numDigits Tryz.laysM284 u h1 h2 w htab
def Tryz.lays285_ren:Go.Shelf.Ren:=⟨fun | 285=>142 | n=>n,fun | 37=>46 | 53=>25 | 3=>3 | 4=>4 | 51=>159 | 9=>9 | 5=>5 | 0=>0 | n=>n,fun | n=>n⟩
theorem Tryz.lays285:Go.Proofs.Lays.n285 Tryz.prog Tryz.lays285_ren:={
 mixed:=by kernel_rfl
 f285:=Tryz.func142.trans (congrArg some (by kernel_rfl))
 t0:=Tryz.underlying0
 a0:=Tryz.isAgg0
 z0:=Tryz.sizeOf0
 v0:=Tryz.zeroValue0
 t3:=Tryz.underlying3
 a3:=Tryz.isAgg3
 z3:=Tryz.sizeOf3
 v3:=Tryz.zeroValue3
 t4:=Tryz.underlying4
 a4:=Tryz.isAgg4
 z4:=Tryz.sizeOf4
 v4:=Tryz.zeroValue4
 t5:=Tryz.underlying5
 a5:=Tryz.isAgg5
 z5:=Tryz.sizeOf5
 v5:=Tryz.zeroValue5
 t9:=Tryz.underlying9
 a9:=Tryz.isAgg9
 z9:=Tryz.sizeOf9
 v9:=Tryz.zeroValue9
 t37:=Tryz.underlying46
 a37:=Tryz.isAgg46
 z37:=Tryz.sizeOf46
 v37:=Tryz.zeroValue46
 t51:=Tryz.underlying159
 a51:=Tryz.isAgg159
 z51:=Tryz.sizeOf159
 v51:=Tryz.zeroValue159
 t53:=Tryz.underlying25
 a53:=Tryz.isAgg25
 z53:=Tryz.sizeOf25
 v53:=Tryz.zeroValue25 }
open Go.RowKit Go.Sort Go.Lib in
theorem Tryz.internal_strconv_formatBase10 (blk off cap:Nat) (u:Nat) (d:Array UInt8) (w:World) (hH:Holds (fun (b:UInt8)=>Value.int .u8 (b.toNat:Int)) w blk off d) (hu:u<10^d.size) (hu64:u<18446744073709551616) (hsz:d.size<4611686018427387904) :
 Calls Tryz.prog 142 #[.slice (some ⟨blk,off,none⟩) d.size cap,.int .u64 u] w fun e w'=>
  e= .returned (.tuple #[])∧ ∃(n v':Nat) (dk:Array UInt8),w'=(putRow (fun (b:UInt8)=>Value.int .u8 (b.toNat:Int)) w blk off dk).drewN n∧FmtInv d.size u 0 v' dk:=Any.internal_strconv_formatBase10 Tryz.lays285 blk off cap u d w hH hu hu64 hsz
def Tryz.laysM243_ren:Go.Shelf.Ren:=⟨fun | 243=>153 | 246=>188 | 283=>140 | 284=>141 | 285=>142 | 286=>143 | 129=>166 | 317=>167 | 318=>168 | 319=>169 | 320=>170 | 337=>193 | 338=>194 | n=>n,fun | 3=>3 | 9=>9 | 2=>2 | 4=>4 | 171=>142 | 0=>0 | 53=>25 | 37=>46 | 5=>5 | 173=>144 | 212=>170 | 51=>159 | 20=>20 | 213=>171 | 46=>53 | 232=>178 | 233=>215 | n=>n,fun | 17=>3 | 18=>8 | 19=>9 | n=>n⟩
def Tryz.lays243_ren:Go.Shelf.Ren:=⟨fun | 243=>153 | 246=>188 | 283=>140 | 284=>141 | 285=>142 | 286=>143 | 129=>166 | 317=>167 | 318=>168 | 319=>169 | 320=>170 | 337=>193 | 338=>194 | n=>n,fun | 3=>3 | 9=>9 | 2=>2 | 4=>4 | 171=>142 | 0=>0 | 53=>25 | 37=>46 | 5=>5 | 173=>144 | 212=>170 | 51=>159 | 20=>20 | 213=>171 | 46=>53 | 232=>178 | 233=>215 | n=>n,fun | 17=>3 | 18=>8 | 19=>9 | n=>n⟩
def Tryz.laysM171_ren:Go.Shelf.Ren:=⟨fun | 171=>113 | 243=>153 | 246=>188 | 283=>140 | 284=>141 | 285=>142 | 286=>143 | 129=>166 | 317=>167 | 318=>168 | 319=>169 | 320=>170 | 337=>193 | 338=>194 | n=>n,fun | 3=>3 | 9=>9 | 2=>2 | 4=>4 | 171=>142 | 0=>0 | 53=>25 | 37=>46 | 5=>5 | 173=>144 | 212=>170 | 51=>159 | 20=>20 | 213=>171 | 46=>53 | 232=>178 | 233=>215 | n=>n,fun | 17=>3 | 18=>8 | 19=>9 | n=>n⟩
theorem Tryz.laysM171:Go.Proofs.LaysM.n171 Tryz.prog Tryz.laysM171_ren:={
 mixed:=by kernel_rfl
 f129:=Tryz.func166.trans (congrArg some (by kernel_rfl))
 f171:=Tryz.func113.trans (congrArg some (by kernel_rfl))
 f243:=Tryz.func153.trans (congrArg some (by kernel_rfl))
 f246:=Tryz.func188.trans (congrArg some (by kernel_rfl))
 f283:=Tryz.func140.trans (congrArg some (by kernel_rfl))
 f284:=Tryz.func141.trans (congrArg some (by kernel_rfl))
 f285:=Tryz.func142.trans (congrArg some (by kernel_rfl))
 f286:=Tryz.func143.trans (congrArg some (by kernel_rfl))
 f317:=Tryz.func167.trans (congrArg some (by kernel_rfl))
 f318:=Tryz.func168.trans (congrArg some (by kernel_rfl))
 f319:=Tryz.func169.trans (congrArg some (by kernel_rfl))
 f320:=Tryz.func170.trans (congrArg some (by kernel_rfl))
 f337:=Tryz.func193.trans (congrArg some (by kernel_rfl))
 f338:=Tryz.func194.trans (congrArg some (by kernel_rfl))
 t0:=Tryz.underlying0
 a0:=Tryz.isAgg0
 z0:=Tryz.sizeOf0
 v0:=Tryz.zeroValue0
 t2:=Tryz.underlying2
 a2:=Tryz.isAgg2
 z2:=Tryz.sizeOf2
 v2:=Tryz.zeroValue2
 t3:=Tryz.underlying3
 a3:=Tryz.isAgg3
 z3:=Tryz.sizeOf3
 v3:=Tryz.zeroValue3
 t4:=Tryz.underlying4
 a4:=Tryz.isAgg4
 z4:=Tryz.sizeOf4
 v4:=Tryz.zeroValue4
 t5:=Tryz.underlying5
 a5:=Tryz.isAgg5
 z5:=Tryz.sizeOf5
 v5:=Tryz.zeroValue5
 t9:=Tryz.underlying9
 a9:=Tryz.isAgg9
 z9:=Tryz.sizeOf9
 v9:=Tryz.zeroValue9
 t20:=Tryz.underlying20
 a20:=Tryz.isAgg20
 z20:=Tryz.sizeOf20
 v20:=Tryz.zeroValue20
 t37:=Tryz.underlying46
 a37:=Tryz.isAgg46
 z37:=Tryz.sizeOf46
 v37:=Tryz.zeroValue46
 t46:=Tryz.underlying53
 a46:=Tryz.isAgg53
 z46:=Tryz.sizeOf53
 v46:=Tryz.zeroValue53
 t51:=Tryz.underlying159
 a51:=Tryz.isAgg159
 z51:=Tryz.sizeOf159
 v51:=Tryz.zeroValue159
 t53:=Tryz.underlying25
 a53:=Tryz.isAgg25
 z53:=Tryz.sizeOf25
 v53:=Tryz.zeroValue25
 t171:=Tryz.underlying142
 a171:=Tryz.isAgg142
 z171:=Tryz.sizeOf142
 v171:=Tryz.zeroValue142
 t173:=Tryz.underlying144
 a173:=Tryz.isAgg144
 z173:=Tryz.sizeOf144
 v173:=Tryz.zeroValue144
 t212:=Tryz.underlying170
 a212:=Tryz.isAgg170
 z212:=Tryz.sizeOf170
 v212:=Tryz.zeroValue170
 t213:=Tryz.underlying171
 a213:=Tryz.isAgg171
 z213:=Tryz.sizeOf171
 t232:=Tryz.underlying178
 a232:=Tryz.isAgg178
 z232:=Tryz.sizeOf178
 v232:=Tryz.zeroValue178
 t233:=Tryz.underlying215
 a233:=Tryz.isAgg215
 z233:=Tryz.sizeOf215
 v233:=Tryz.zeroValue215
 g17:=by kernel_rfl
 g18:=by kernel_rfl
 g19:=by kernel_rfl
 i0:=by kernel_rfl
 i2:=by kernel_rfl
 i3:=by kernel_rfl
 i4:=by kernel_rfl
 i5:=by kernel_rfl
 i9:=by kernel_rfl
 i20:=by kernel_rfl
 i37:=by kernel_rfl
 i46:=by kernel_rfl
 i51:=by kernel_rfl
 i53:=by kernel_rfl
 i171:=by kernel_rfl
 i173:=by kernel_rfl
 i212:=by kernel_rfl
 i232:=by kernel_rfl
 i233:=by kernel_rfl
 m17:=by kernel_rfl
 m18:=by kernel_rfl
 m19:=by kernel_rfl }
open Go.RowKit Go.Sort Go.Lib in
theorem Tryz.strconv_Itoa (n:Int) (h0:-9223372036854775808≤n) (h1:n≤9223372036854775807) (w:World) (htab:Lib.TabIs Tryz.prog w "internal/strconv.uint64pow10" .u64 Lib.pow10Tab) :
 Calls Tryz.prog 113 #[.int .i64 n] w fun e w'=>e= .returned (.string ⟨(Lib.itoa n).toArray⟩)∧ ∃k os,w'=grow (w.drewN k) os:=Any.strconv_Itoa Tryz.laysM171 n h0 h1 w htab
def Tryz.lays171_ren:Go.Shelf.Ren:=⟨fun | 171=>113 | 243=>153 | 246=>188 | 283=>140 | 284=>141 | 285=>142 | 286=>143 | 129=>166 | 317=>167 | 318=>168 | 319=>169 | 320=>170 | 337=>193 | 338=>194 | n=>n,fun | 3=>3 | 9=>9 | 2=>2 | 4=>4 | 171=>142 | 0=>0 | 53=>25 | 37=>46 | 5=>5 | 173=>144 | 212=>170 | 51=>159 | 20=>20 | 213=>171 | 46=>53 | 232=>178 | 233=>215 | n=>n,fun | 17=>3 | 18=>8 | 19=>9 | n=>n⟩
def Tryz.laysPu14_ren:Go.Shelf.Ren:=⟨fun | 14=>94 | 16=>133 | 17=>108 | 19=>164 | 20=>165 | 21=>148 | 22=>149 | 23=>150 | 24=>151 | 25=>183 | 27=>113 | 26=>184 | 28=>153 | 29=>188 | 30=>140 | 31=>141 | 32=>142 | 33=>143 | 35=>166 | 34=>167 | 36=>168 | 37=>169 | 38=>170 | 39=>193 | 40=>194 | n=>n,fun | 9=>9 | 3=>3 | 22=>25 | 24=>63 | 25=>117 | 4=>4 | 34=>149 | 5=>5 | 36=>53 | 37=>46 | 0=>0 | 39=>152 | 21=>21 | 44=>190 | 47=>99 | 50=>211 | 48=>209 | 2=>2 | 52=>142 | 55=>144 | 59=>170 | 60=>159 | 20=>20 | 61=>171 | 65=>178 | 66=>215 | 67=>67 | n=>n,fun | 0=>6 | 1=>7 | 2=>3 | 3=>8 | 4=>9 | n=>n⟩
def Tryz.lays144_ren:Go.Shelf.Ren:=⟨fun | 144=>73 | 143=>109 | 219=>152 | 217=>106 | 225=>185 | 224=>186 | 267=>187 | 266=>146 | 314=>213 | n=>n,fun | 9=>9 | 4=>4 | 3=>3 | 5=>5 | 46=>53 | 146=>160 | 51=>159 | n=>n,fun | 1=>5 | n=>n⟩
theorem Tryz.lays144:Go.Proofs.Lays.n144 Tryz.prog Tryz.lays144_ren:={
 mixed:=by kernel_rfl
 f143:=Tryz.func109.trans (congrArg some (by kernel_rfl))
 f144:=Tryz.func73.trans (congrArg some (by kernel_rfl))
 f217:=Tryz.func106.trans (congrArg some (by kernel_rfl))
 f219:=Tryz.func152.trans (congrArg some (by kernel_rfl))
 f224:=Tryz.func186.trans (congrArg some (by kernel_rfl))
 f225:=Tryz.func185.trans (congrArg some (by kernel_rfl))
 f266:=Tryz.func146.trans (congrArg some (by kernel_rfl))
 f267:=Tryz.func187.trans (congrArg some (by kernel_rfl))
 f314:=Tryz.func213.trans (congrArg some (by kernel_rfl))
 t3:=Tryz.underlying3
 a3:=Tryz.isAgg3
 z3:=Tryz.sizeOf3
 v3:=Tryz.zeroValue3
 t4:=Tryz.underlying4
 a4:=Tryz.isAgg4
 z4:=Tryz.sizeOf4
 v4:=Tryz.zeroValue4
 t5:=Tryz.underlying5
 a5:=Tryz.isAgg5
 z5:=Tryz.sizeOf5
 v5:=Tryz.zeroValue5
 t9:=Tryz.underlying9
 a9:=Tryz.isAgg9
 z9:=Tryz.sizeOf9
 v9:=Tryz.zeroValue9
 t46:=Tryz.underlying53
 a46:=Tryz.isAgg53
 z46:=Tryz.sizeOf53
 v46:=Tryz.zeroValue53
 t51:=Tryz.underlying159
 a51:=Tryz.isAgg159
 z51:=Tryz.sizeOf159
 v51:=Tryz.zeroValue159
 t146:=Tryz.underlying160
 a146:=Tryz.isAgg160
 z146:=Tryz.sizeOf160
 v146:=Tryz.zeroValue160
 g1:=by kernel_rfl }
open Go.RowKit Go.Lib in
theorem Tryz.strings_Contains_one (s:ByteArray) (c:UInt8) (w:World) :
 Calls Tryz.prog 73 #[.string s,.string ⟨#[c]⟩] w fun e w'=>e= .returned (.bool (decide (0≤Lib.indexByte s.data.toList c)))∧w'=w:=Any.strings_Contains_one Tryz.lays144 s c w
end Go.Proofs
namespace Go.Proofs.YtdofcnodhgaedaaGreatDoor
open Go.RowKit Proofs.Tryz
section
attribute [local irreducible] OW RS CW EW
theorem kD (w:World) (g off:Nat) (dk:Array UInt8) (n:Nat):Ext (ah [some g]) w ((Sort.putRow (fun (b:UInt8)=>Value.int .u8 (b.toNat:Int)) w g off dk).drewN n):=by
 refine ⟨rfl,rfl,rfl,?_,?_⟩
 · simp[Sort.putRow,Sort.mapBlock,World.drewN]
 · intro i hi hx;have hne:g≠i:=fun e=>hx (Or.inl (congrArg some e.symm));simp[Sort.putRow,Sort.mapBlock,World.drewN,Array.getElem?_modify,hne]
theorem vQ (i:Nat) (h:i<100) (w:World):Calls prog 140 #[.int .i64 i] w fun e w'=>e= .returned (.string ⟨(Lib.decDigits i).toArray⟩)∧Below w.heap.size w w':=
 (Tryz.internal_strconv_small i h w).mono fun _ _ ⟨a,b⟩=>⟨a,b▸Below.refl _ _⟩
theorem He (u:Nat) (hu:u<100) (w:World):Calls prog 104 #[.int .u64 u,.int .i64 10] w (aD w (.string ⟨(Lib.decDigits u).toArray⟩)):=by
 have hd:decide (((u:Nat):Int)<100)=true:=decide_eq_true om;refine zd func104 rfl ntmps104 rfl ?_;have LW:=aB (No) w;have ak:=aP (No) w;have E:=aB (No) w;refine JR ?_;refine qk 12 rfl (by rw[hd]<;>rfl) (yf ?_);refine XW ?_;refine zb ad6 (vQ u hu _) E fun w1 E=>(zn ?_);exact gi
theorem yox (u:Nat) (h1:1≤u) (h2:u<18446744073709551616) (w:World) (htab:Lib.TabIs prog w "internal/strconv.uint64pow10" .u64 Lib.pow10Tab):Calls prog 141 #[.int .u64 u] w fun e w'=>e= .returned (.int .i64 ((Lib.nDigits u:Nat):Int))∧Below w.heap.size w w':=
 (Tryz.internal_strconv_numDigits u h1 h2 w htab).mono fun _ _ ⟨a,b⟩=>⟨a,b▸Below.refl _ _⟩
theorem Rl (u:Nat) (hu:100≤u) (hu64:u<18446744073709551616) (w:World) (g:Nat) (hB0:aA w g 142 (Array.replicate 24 (.int .u8 0))) :
 Calls prog 142 #[.slice (some ⟨g,0,none⟩) (Lib.nDigits u) 24,.int .u64 u] w fun e w'=>e= .returned (.tuple #[])∧ ∃cs,aA w' g 142 cs∧Ext (ah [some g]) w w'∧ ∀j (hj:j<(Lib.decDigits u).length),w'.cell? ⟨g,0+j,none⟩=some (.int .u8 ((Lib.decDigits u)[j].toNat:Int)):=by
 have afj:Lib.nDigits u≤20:=by have:=Lib.numDigits_eq u om hu64;split at this<;>omega
 have hsz:(Array.replicate (Lib.nDigits u) (0:UInt8)).size=Lib.nDigits u:=by simp
 have hH:Sort.Holds (fun (b:UInt8)=>Value.int .u8 (b.toNat:Int)) w g 0 (Array.replicate (Lib.nDigits u) 0):=by
  intro j hj;rw[hsz] at hj;have Yp:j<24:=om;refine ⟨?_,?_⟩
  · rw[hB0.cell];simp[hj,Yp]
  · unfold World.frozen?;simp[show w.heap[g]? =some (.cells (Array.replicate 24 (.int .u8 0)) 142 (0,0)) from hB0]
 have h:=Tryz.internal_strconv_formatBase10 g 0 24 u (Array.replicate (Lib.nDigits u) 0) w hH (by rw[hsz];exact Lib.lt_pow_nDigits u) hu64 (by rw[hsz];omega);rw[hsz] at h;refine h.mono fun e w' ⟨he,n,v',dk,hw,hF⟩=>⟨he,?_⟩;have hdk:dk.size=Lib.nDigits u:=hF.size;subst hw;refine ⟨Sort.putCells (fun (b:UInt8)=>Value.int .u8 (b.toNat:Int)) 0 dk (Array.replicate 24 (.int .u8 0)),?_,kD w g 0 dk n,fun j hj=>?_⟩
 · show (Array.modify w.heap g _)[g]? =_
   rw[Array.getElem?_modify,if_pos rfl,show w.heap[g]? =some (.cells (Array.replicate 24 (.int .u8 0)) 142 (0,0)) from hB0];rfl
 · have hjn:j<Lib.nDigits u:=by rw[Lib.decDigits_length] at hj;exact hj
   rw[Lib.row_is_numeral hF j hj,World.cell?_drewN];exact Sort.cell?_putRow (fun (b:UInt8)=>Value.int .u8 (b.toNat:Int)) w g 0 _ dk hH (by rw[hdk,hsz]) j (by rw[hdk];exact hjn)
theorem Rm (u:Nat) (hu:100≤u) (hu64:u<18446744073709551616) (w:World) (htab:∀b,Below w.heap.size w b→Lib.TabIs prog b "internal/strconv.uint64pow10" .u64 Lib.pow10Tab):Calls prog 104 #[.int .u64 u,.int .i64 10] w (aD w (.string ⟨(Lib.decDigits u).toArray⟩)):=by
 have hd:decide (((u:Nat):Int)<100)=false:=decide_eq_false om;refine zd func104 rfl ntmps104 rfl ?_;have LW:=aB (No) w;have ak:=aP (No) w;have E:=aB (No) w;refine JR ?_;refine yn 12 rfl (by rw[hd]<;>rfl) (ya ?_);refine za rfl (xi ab7 ?_);intro aK w2 aM kE bT;have bT:_≤aK:=Nat.le_trans E.size bT;have Hf:=Nat.le_trans LW.size bT;replace E:=E.trans kE.no;replace E:=E.cons (some aK);replace ak:=ah.grow ak (fun k e=>Or.inr (Nat.le_trans LW.size ((zf bT) k e)));refine ya ?_;refine vr U0 (yox u om hu64 _ (htab _ (LW.step E ak).toBelow)) E aM fun w3 E aM=>(zq ?_);have afj:Lib.nDigits u≤20:=by have:=Lib.numDigits_eq u om hu64;split at this<;>omega
 refine za rfl (nL underlying142 dw rfl rfl om (aN ?_));refine za rfl (zc U1 rfl ((Rl u hu hu64 _ aK aM).mono ?_));rintro e w4 ⟨rfl,cs1,hB,hE,hcs⟩;refine ⟨_,rfl,?_⟩;replace aM:=hB;clear hB;replace E:=E.step1 hE ah.head;clear hE;refine ya ?_;refine za rfl (nL underlying142 dw rfl rfl om ?_);have hlen:(Lib.decDigits u).length=Lib.nDigits u:=Lib.decDigits_length u;refine za rfl (kg (l:=Lib.decDigits u) (A:=some ⟨aK,0,none⟩) (c:=24) u46 underlying5 u9 (by rw[hlen];rfl) (fun _↦⟨aK,0,rfl,hcs⟩) (zq ?_));exact ⟨rfl,aT LW E ak⟩
theorem Rn (u:Nat) (hu64:u<18446744073709551616) (w:World) (htab:∀b,Below w.heap.size w b→Lib.TabIs prog b "internal/strconv.uint64pow10" .u64 Lib.pow10Tab):Calls prog 104 #[.int .u64 u,.int .i64 10] w (aD w (.string ⟨(Lib.decDigits u).toArray⟩)):=by
 rcases Nat.lt_or_ge u 100 with h | h
 · exact He u h w
 · exact Rm u h hu64 w htab
end
end Go.Proofs.YtdofcnodhgaedaaGreatDoor
namespace Go.Proofs.YtdofcnodhgaedaaGreatDoor
open Go.RowKit Proofs.Tryz
def bV (b:UInt8):Value:=.int .u8 (b.toNat:Int)
def dX (w:World) (g:Nat) (l:List UInt8):Prop:=∀j (hj:j<l.length),w.cell? ⟨g,j,none⟩=some (.int .u8 (l[j].toNat:Int))
theorem Per.ag0 {X:Nat→Prop} {w:World} {g:Nat} {l:List UInt8} (h:dX w g l) (hx:¬X g):Per X w (fun b=>dX b g l):=fun _ hb j hj=>
 (hb.cell (p:=⟨g,j,none⟩) (World.block_lt_of_cell? w _ (h j hj)) hx).trans (h j hj)
theorem dX.take {w:World} {g:Nat} {l:List UInt8} (h:dX w g l) (n:Nat):dX w g (l.take n):=fun j hj=>by
 have h1:j<l.length:=by rw[List.length_take] at hj;omega
 rw[List.getElem_take];exact h j h1
theorem ag1 (u:Nat) (hu:1≤u) (Ro:u<1000000000000000000) (w:World) (g:Nat) (hB0:aA w g 178 (Array.replicate 32 (.int .u8 0))) :
 Calls prog 142 #[.slice (some ⟨g,0,none⟩) (Lib.decDigits u).length 32,.int .u64 u] w fun e w'=>e= .returned (.tuple #[])∧ ∃cs,aA w' g 178 cs∧Ext (ah [some g]) w w'∧dX w' g (Lib.decDigits u):=by
 have afj:Lib.nDigits u≤18:=by rw[←Lib.decDigits_length];exact EZ u 18 de Ro
 have hsz:(Array.replicate (Lib.nDigits u) (0:UInt8)).size=Lib.nDigits u:=by simp
 have hH:Sort.Holds (fun (b:UInt8)=>Value.int .u8 (b.toNat:Int)) w g 0 (Array.replicate (Lib.nDigits u) 0):=by
  intro j hj;rw[hsz] at hj;have Yp:j<32:=om;refine ⟨?_,?_⟩
  · rw[hB0.cell];simp[hj,Yp]
  · unfold World.frozen?;simp[show w.heap[g]? =some (.cells (Array.replicate 32 (.int .u8 0)) 178 (0,0)) from hB0]
 have h:=Tryz.internal_strconv_formatBase10 g 0 32 u (Array.replicate (Lib.nDigits u) 0) w hH (by rw[hsz];exact Lib.lt_pow_nDigits u) om (by rw[hsz];omega);rw[hsz] at h;rw[Lib.decDigits_length];refine h.mono fun e w' ⟨he,n,v',dk,hw,hF⟩=>⟨he,?_⟩;have hdk:dk.size=Lib.nDigits u:=hF.size;subst hw;refine ⟨Sort.putCells (fun (b:UInt8)=>Value.int .u8 (b.toNat:Int)) 0 dk (Array.replicate 32 (.int .u8 0)),?_,kD w g 0 dk n,fun j hj=>?_⟩
 · show (Array.modify w.heap g _)[g]? =_
   rw[Array.getElem?_modify,if_pos rfl,show w.heap[g]? =some (.cells (Array.replicate 32 (.int .u8 0)) 178 (0,0)) from hB0];rfl
 · have hjn:j<Lib.nDigits u:=by rw[Lib.decDigits_length] at hj;exact hj
   rw[Lib.row_is_numeral hF j hj,World.cell?_drewN];have:=Sort.cell?_putRow (fun (b:UInt8)=>Value.int .u8 (b.toNat:Int)) w g 0 _ dk hH (by rw[hdk,hsz]) j (by rw[hdk];exact hjn);rw[Nat.zero_add] at this;exact this
theorem LC {l:List UInt8} {n:Nat} (h:l[n]? =some 48):rO l (n+1)=rO l n:=by rw[rO,if_pos h]
theorem LD {l:List UInt8} {n:Nat} (h:l[n]? ≠some 48):rO l (n+1)=n+1:=by rw[rO,if_neg h]
theorem ag2 (x:UInt8):((x.toNat:Int)==48)=decide (x=48):=by
 by_cases h:x=48
 · subst h;rfl
 · rw[decide_eq_false h];refine beq_eq_false_iff_ne.2 (fun e=>h (UInt8.toNat_inj.1 ?_));have:x.toNat=48:=om;rw[this];rfl
attribute [local irreducible] OW RS CW EW
section
variable (w:World)
theorem Yq (gp u:Nat) (q:Int) (hu:1≤u) (Ro:u<1000000000000000000) (hq:-1000≤q∧q≤1000) (hB:aA w gp 178 (Array.replicate 32 (.int .u8 0))) :
 Calls prog 177 #[.slice (some ⟨gp,0,none⟩) 32 32,.int .u64 u,.int .i64 q,.int .i64 (((Lib.decDigits u).length:Nat):Int)] w fun e w'=>e= .returned (.tuple #[.int .i64 ((((Lib.decDigits u).length:Nat):Int)+q),.int .i64 ((rO (Lib.decDigits u) (Lib.decDigits u).length:Nat):Int)])∧(∃cs,aA w' gp 178 cs)∧Ext (ah [some gp]) w w'∧dX w' gp (Lib.decDigits u):=by
 obtain ⟨L,hL⟩:∃L,L=Lib.decDigits u:=⟨_,rfl⟩;have ax9:L.length≤18:=by rw[hL];exact EZ u 18 de Ro
 have hrow:=ag1 u hu Ro;rw[←hL] at hrow ⊢;refine zd func177 rfl ntmps177 rfl ?_;have Bp:=hB;have LW:=aB (ah [(some gp)]) w;have ak:=aP (ah [(some gp)]) w;have E:=aB (ah [(some gp)]) w;refine vc ?_;refine ze 12 (.int .i64 32) rfl (by kernel_rfl:(.int .i64 (32:Nat):Value)=_) (yl ?_);refine qk 13 rfl (by rw[decide_eq_true om]<;>rfl) (ya ?_);refine za rfl (nN (h:=L.length) u46 dw rfl rfl rfl om (aN ?_));refine za rfl (zc U1 rfl ((hrow _ gp Bp).mono ?_));rintro e w1 ⟨rfl,cs1,hB,hE,hcs⟩;refine ⟨_,rfl,?_⟩;replace Bp:=hB;clear hB;replace E:=E.step1 hE ah.head;clear hE;refine zq ?_;refine yc ?_;refine yf ?_;replace LW:=LW.step E ak;replace E:=aB (ah [(some gp)]) w1;refine qt (ι:=Nat) (fun n=>[(0,.slice (some ⟨gp,0,none⟩) 32 32),(3,.int .i64 ((n:Nat):Int)),(8,.int .i64 ((L.length:Int)+q))]) (fun n w'=>Ext (ah [(some gp)]) w1 w'∧aA w' gp 178 (cs1)∧(n≤L.length∧rO L n=rO L L.length∧dX w' gp L)) (fun n=>n) L.length ⟨rfl,rfl,rfl,trivial⟩ ⟨Ext.refl _ _,(by exact Bp),Nat.le_refl _,rfl,hcs⟩ ?_;have LTp:=(zj Bp.lt);clear Bp;rintro n w3 ⟨M2,Bp,⟨hn,hz,hd⟩⟩;have PO:bL (ah [(some gp)]) (ah [(some gp)]) w1:=(ah.grow ah.none_ (fun k e=>Or.inl (ah.head k e)));replace E:=E.trans M2;replace LW:=LW.step E ak;replace E:=aB (ah [(some gp)]) w3;clear LTp;refine zq ?_;by_cases h0:n=0
 ·
  refine gy 24 rfl (by rw[h0];rfl) (Vd ?_);refine yi 9 (.int .i64 ((rO L L.length:Nat):Int)) rfl ((by rw[←hz,h0];rfl:(.int .i64 ((n:Nat):Int):Value)=_)) (aN ?_);exact ⟨rfl,⟨_,Bp⟩,(LW.step E ak),hd⟩
 ·
  refine xv 24 rfl (by rw[decide_eq_true om]<;>rfl) (zo ?_);refine fU rfl (vq rfl rfl (yj om) (fU rfl (ou (j:=n-1) u46 dw rfl rfl om om (fU rfl (jm underlying5 rfl rfl (hd (n-1) om) (yf ?_))))));refine zy 31 (.bool (decide (L[n-1]=48))) rfl (by rw[ag2]<;>rfl) ?_;have hg:L[n-1]? =some L[n-1]:=List.getElem?_eq_getElem om;have hn1:n-1+1=n:=om;refine zg rfl (fun h1=>?_) (fun h1=>?_)
  ·
   have h1:=of_decide_eq_true h1;rw[h1] at hg;have hs:=LC hg;rw[hn1] at hs;refine ya ?_;refine zx ?_;refine yl ?_;refine yi 3 (.int .i64 ((n-1:Nat):Int)) rfl ((by congr 1;omega:(.int .i64 (((n:Nat):Int)-1):Value)=_)) ?_;exact yk (n-1) (by show n-1<n;omega) ⟨rfl,rfl,rfl,trivial⟩ ⟨M2.step E PO,(by exact Bp),by show n-1≤L.length;omega,hs.symm.trans hz,hd⟩
  ·
   have h1:=of_decide_eq_false h1;have hs:=LD (l:=L) (n:=n-1) (by rw[hg];exact fun e=>h1 (Option.some.inj e));rw[hn1] at hs;refine uP ?_;refine yi 9 (.int .i64 ((rO L L.length:Nat):Int)) rfl ((by rw[←hz,hs]:(.int .i64 ((n:Nat):Int):Value)=_)) (aN ?_);exact ⟨rfl,⟨_,Bp⟩,(LW.step E ak),hd⟩
end
end Go.Proofs.YtdofcnodhgaedaaGreatDoor
namespace Go.Proofs.YtdofcnodhgaedaaGreatDoor
open Go.RowKit Proofs.Tryz
theorem vS {P Q:Prop} (k:Q) (h:(Unit→Q)→P:=by
 intro zK;refine yl ?_;refine za rfl (zv (cs:=#[.int .u8 46]) u46 dw mI de rfl (by rw[ym];rfl) ?_);exact zK ()):P:=h fun _=>k
theorem vT {P Q:Prop} (k:Q) (h:(Unit→Q)→P:=by
 intro zK;refine aN ?_;refine za rfl (ju rfl rfl de (show ((u:Nat):Int).tmod 10=((u%10:Nat):Int) from rfl) (yik ?_));exact zK ()):P:=h fun _=>k
theorem kG {P Q:Prop} (k:Q) (h:(Unit→Q)→P:=by
 intro zK;refine za rfl (zv (cs:=#[.int .u8 101]) u46 dw mI de rfl (by rw[ym];rfl) ?_);exact zK ()):P:=h fun _=>k
theorem kH {P Q:Prop} (k:Q) (h:(Unit→Q)→P:=by
 intro zK;refine za rfl (zv (cs:=#[.int .u8 (x.toNat:Int)]) u46 dw mI de rfl (by rw[ym];rfl) ?_);exact zK ()):P:=h fun _=>k
theorem vU {P Q:Prop} (k:Q) (h:(Unit→Q)→P:=by
 intro zK;refine za rfl (qe (news:=[.int .u8 46]) u46 iV rfl de rfl av rfl (qq (HF.on E).here.2 ((HF.on E).here.2).lt rfl) (by simp[Value.oneCell']) (by unfold maxLen;omega) om (by exact Nat.le_trans HB (Nat.le_trans LW.size E.size)) ?_);exact zK ()):P:=h fun _=>k
theorem yik {P Q:Prop} (k:Q) (h:(Unit→Q)→P:=by
 intro zK;refine za rfl (jd underlying5 underlying3 rfl (UC om) (za rfl (vu rfl rfl (UC om) ?_)));exact zK ()):P:=h fun _=>k
theorem kI {P Q:Prop} (k:Q) (h:(Unit→Q)→P:=by
 intro zK;refine za rfl (qe (news:=[.int .u8 101]) u46 iV rfl de rfl av rfl (qq (HF.on E).here.2 ((HF.on E).here.2).lt rfl) (by simp[Value.oneCell']) (by unfold maxLen;omega) om (by exact Nat.le_trans HB (Nat.le_trans LW.size E.size)) ?_);exact zK ()):P:=h fun _=>k
theorem Yr {P Q:Prop} (k:Q) (h:(Unit→Q)→P:=by
 intro zK;refine za rfl (zv (cs:=#[.int .u8 48]) u46 dw mI de rfl (by rw[ym];rfl) ?_);exact zK ()):P:=h fun _=>k
theorem Yt {P Q:Prop} (k:Q) (h:(Unit→Q)→P:=by
 intro zK;refine za rfl (qe (news:=[.int .u8 48]) u46 iV rfl de rfl av rfl (qq (HF.on E).here.2 ((HF.on E).here.2).lt rfl) (by simp[Value.oneCell']) (by unfold maxLen;omega) om (by exact Nat.le_trans HB (Nat.le_trans LW.size E.size)) ?_);exact zK ()):P:=h fun _=>k
theorem LG {P:Prop} (h:P:=by
 exact by rw[←hn9,←hx99];exact ⟨_,_,rfl,av,(LW.step E ak),vR ak⟩):P:=h
theorem LH {P:Prop} (h:P:=by
 split
 · rw[List.length_append,List.length_take,List.length_replicate];omega
 · decide):P:=h
theorem Vx {P:Prop} (h:P:=by
 exact yy () ⟨rfl,rfl,rfl,trivial⟩ ⟨Ba.step E fI,(by exact av),rR,trivial⟩):P:=h
theorem LJ {P:Prop} (h:P:=by
 refine uP ?_;exact by rw[←hn9,←hx9];exact ⟨_,_,rfl,av,(LW.step E ak),vR ak⟩):P:=h
theorem ag3 {P:Prop} (h:P:=by
 have M1:=aB (ah [((Value.slice A 0 c).ownBlock)]) w;have fF:=aP (ah [((Value.slice A 0 c).ownBlock)]) w;have dB:∀q9,((Value.slice A 0 c).ownBlock)=some q9→((Value.slice A 0 c).ownBlock)=some q9∨w.heap.size≤q9:=fun _ e=>Or.inl e;refine zg rfl (fun hn=>?_) (fun hn=>?_)
 ·
  have hs1:s= [45]:=by rw[hs,hn];rfl
  refine zo ?_;refine za rfl (zv (cs:=#[.int .u8 45]) u46 dw mI de rfl (by rw[ym];rfl) ?_);intro rT w4 Bb3 Eb3 Fa;have Fb:Apart (some rT) ((Value.slice A 0 c).ownBlock):=Apart.of_lt (zr av) Fa;have an5:=Fb.symm;have Fa:_≤rT:=Nat.le_trans E.size Fa;have ar4:=Nat.le_trans LW.size Fa;replace av:=zk av Eb3 aj.nil;replace E:=E.trans Eb3.no;replace HF:=HF.cons (zf Fa);replace E:=E.cons (some rT);replace ak:=ah.grow ak (fun k e=>Or.inr (Nat.le_trans LW.size ((zf Fa) k e)));replace fF:=ah.grow fF (fun k e=>Or.inr (Nat.le_trans M1.size ((zf Fa) k e)));replace HF:=HF.on E;replace LW:=LW.step E ak;replace M1:=M1.step E fF;have SB:∀q9,ah [((Value.slice A 0 c).ownBlock)] q9→ah [(some rT),((Value.slice A 0 c).ownBlock)] q9:=(ah.skip (ah.keep ah.aR));replace HF:=HF.less SB;replace ak:=fun k h=>ak k (SB k h);replace fF:=fun k h=>fF k (SB k h);clear SB;replace E:=aB (ah [((Value.slice A 0 c).ownBlock)]) w4;replace HF:=HF.and (Per.aQ Bb3 (aj.cons Fb aj.nil));refine za rfl (qe (news:=[.int .u8 45]) u46 iV rfl de rfl av rfl (qq (HF.on E).here.2 ((HF.on E).here.2).lt rfl) (by simp[Value.oneCell']) (by unfold maxLen;omega) om (by exact Nat.le_trans HB (Nat.le_trans LW.size E.size)) ?_);intro v0 w5 On En KN;obtain ⟨A2,c2,rfl⟩:=zp On;replace KN:∀q9,((Value.slice A2 1 c2).ownBlock)=some q9→((Value.slice A 0 c).ownBlock)=some q9∨w4.heap.size≤q9:=KN;have HY:bL (ah [((Value.slice A2 1 c2).ownBlock)]) (ah [((Value.slice A 0 c).ownBlock)]) w4:=(ah.grow ah.none_ (fun k e=>(KN k e).elim (fun e=>Or.inl (ah.head k e)) (fun h=>Or.inr (Nat.le_trans E.size h))));replace dB:∀q9,((Value.slice A2 1 c2).ownBlock)=some q9→((Value.slice A 0 c).ownBlock)=some q9∨w.heap.size≤q9:=fun k e=>(KN k e).elim (dB k) (fun h=>Or.inr (Nat.le_trans M1.size (Nat.le_trans E.size h)));replace E:=E.step1 En ah.head;have XT:=fun q9 (h:(ah [((Value.slice A2 1 c2).ownBlock)]) q9)=>(HY q9 h).elim (ak q9) (fun h=>Or.inr (Nat.le_trans LW.size h));have XT:=fun q9 (h:(ah [((Value.slice A2 1 c2).ownBlock)]) q9)=>(HY q9 h).elim (fF q9) (fun h=>Or.inr (Nat.le_trans M1.size h));replace M1:=M1.step E fF;replace fF:=XT;replace E:=aB (ah [((Value.slice A2 1 c2).ownBlock)]) w5;clear HY;replace av:World.ownsRow w5 base 5 1 (.slice A2 1 c2) 1 ([.int .u8 45]):=by
   have e:(([]:List Value):List Value)++([.int .u8 45]:List Value)= [.int .u8 45]:=rfl;rw[←e];exact On
  clear On KN En;refine zo ?_;exact yy (A2,c2,1,[.int .u8 45]) ⟨rfl,rfl,rfl,rfl,rfl,rfl,trivial⟩ ⟨M1.step E fF,(by exact av),dB,by rw[hs1];rfl,by rw[hs1];rfl⟩
 ·
  have hs1:s= []:=by rw[hs,hn];rfl
  refine aN ?_;exact yy (A,c,0,[]) ⟨rfl,rfl,rfl,rfl,rfl,rfl,trivial⟩ ⟨M1.step E fF,(by exact av),dB,by rw[hs1];rfl,by rw[hs1];rfl⟩):P:=h
theorem Yu {l:List UInt8}:∀u∈l.map bV,u.oneCell'=true:=fun u hu=>by
 obtain ⟨b,_,rfl⟩:=List.mem_map.1 hu;rfl
theorem Hg {w:World} {ds:Nat} {d:UInt8} {R:List UInt8} (h:dX w ds (d::R)):Reads w w.heap.size 1 (if 32=1 then (some ⟨ds,0,none⟩) else (some (⟨ds,0,none⟩:Addr)).map (·.add (1*1))) (R.length+1-1) (R.map bV):=by
 refine ⟨by rw[List.length_map];omega,fun _=>⟨⟨ds,1,none⟩,rfl,World.block_lt_of_cell? w ⟨ds,0,none⟩ (h 0 (by simp)),fun j u hu=>?_⟩⟩;rw[List.getElem?_map] at hu;obtain ⟨x,hx,rfl⟩:=Option.map_eq_some_iff.1 hu;obtain ⟨hj,rfl⟩:=List.getElem?_eq_some_iff.1 hx;have e:(Addr.add ⟨ds,1,none⟩ j)= ⟨ds,j+1,none⟩:=by rw[Lib.add_plain,Nat.add_comm]
 rw[e];exact h (j+1) (by simp;omega)
theorem oG {k:Nat} (h:k<208):((UInt8.ofNat (48+k)).toNat:Int)=48+(k:Int):=by
 have key:∀k:Fin 208,((UInt8.ofNat (48+k.val)).toNat:Int)=48+(k.val:Int):=by decide +kernel
 exact key ⟨k,h⟩
theorem yjz (n:Bool):(vp n).length≤1:=by cases n<;>decide
theorem Hl (d:UInt8) {R:List UInt8} (h:0<R.length):gg (d::R)=d::46::R:=by
 unfold gg;rw[if_pos (by rw[List.length_cons];omega)];rfl
theorem LK (d:UInt8) (R:List UInt8):(gg (d::R)).length≤R.length+2:=by
 unfold gg;split<;>simp
theorem drop_take {l:List UInt8} {a k:Nat} (h:a+k<l.length):(l.drop a).take (k+1)=(l.drop a).take k++ [l[a+k]]:=by
 rw[List.take_succ_eq_append_getElem (by rw[List.length_drop];omega),List.getElem_drop]
def Ho (D:List UInt8) (dp:Int):List UInt8:=if 0<dp then D.take dp.toNat++List.replicate (dp.toNat-D.length) 48 else [48]
theorem LM {D:List UInt8} {dp:Int} (h:dp≤420):(Ho D dp).length≤440:=by
 unfold Ho;exact LH
theorem LP {d:UInt8} {R:List UInt8} {dp:Int} (h:0<dp):Ho (d::R) dp=((d::R).drop 0).take (min (R.length+1) dp.toNat)++List.replicate (dp.toNat-(R.length+1)) 48:=by
 rw[Ho,if_pos h,List.drop_zero];congr 1
 rcases Nat.le_total (R.length+1) dp.toNat with g | g
 · rw[Nat.min_eq_left g,List.take_of_length_le (by rw[List.length_cons];exact g),List.take_of_length_le (by rw[List.length_cons];omega)]
 · rw[Nat.min_eq_right g]
attribute [local irreducible] OW RS CW EW
section
variable (w:World) (base:Nat) (A:Option Addr) (c:Nat) (HB:base≤w.heap.size) (ho:w.ownsRow base 5 1 (.slice A 0 c) 0 [])
include HB ho
theorem ag4 (neg:Bool) (d:UInt8) (R:List UInt8) (dp:Int) (hl:R.length≤17) (hdp:-400≤dp∧dp≤420) (ds:Nat) (hD:dX w ds (d::R)) (hne:¬ah [(Value.slice A 0 c).ownBlock] ds):Calls prog 175 #[.slice A 0 c,.bool neg,.slice (some ⟨ds,0,none⟩) 32 32,.int .i64 dp,.int .i64 ((R.length+1:Nat):Int),.int .i64 (R.length:Int),.int .u8 101,.bool true] w (Vw w base (Value.slice A 0 c).ownBlock (vp neg++ot (d::R) dp).length ((vp neg++ot (d::R) dp).map bV)):=by
 obtain ⟨s,hs⟩:∃s,s=vp neg:=⟨_,rfl⟩;obtain ⟨H,hH⟩:∃H,H=gg (d::R):=⟨_,rfl⟩;have hsl:s.length≤1:=hs▸yjz neg;have hHl:H.length≤R.length+2:=hH▸LK d R;refine zd func175 rfl ntmps175 rfl ?_;have av:World.ownsRow w base 5 1 (.slice A 0 c) 0 ([]:List Value):=ho;have HF:Per (ah [((Value.slice A 0 c).ownBlock)]) w (fun _=>True):=Per.dS;have LW:=aB (ah [((Value.slice A 0 c).ownBlock)]) w;have ak:=aP (ah [((Value.slice A 0 c).ownBlock)]) w;have E:=aB (ah [((Value.slice A 0 c).ownBlock)]) w;obtain ⟨HF,LW,E⟩:=qU HF LW E ak ((Per.ag0 hD hne:Per (ah [(Value.slice A 0 c).ownBlock]) w (fun b=>dX b ds (d::R))));refine Vf ?_;refine yl ?_;replace HF:=HF.on E;replace LW:=LW.step E ak;replace E:=aB (ah [((Value.slice A 0 c).ownBlock)]) w;refine vk (ι:=Option Addr×Nat×Nat×List Value) (fun (A1,c1,n1,x1)=>[(0,.slice A1 n1 c1),(2,.slice (some ⟨ds,0,none⟩) 32 32),(3,.int .i64 dp),(4,.int .i64 ((R.length+1:Nat):Int)),(5,.int .i64 (R.length:Int)),(6,.int .u8 101)]) (fun (A1,c1,n1,x1) w'=>Ext (ah [((Value.slice A 0 c).ownBlock)]) w w'∧World.ownsRow w' base 5 1 (.slice A1 n1 c1) n1 x1∧(∀q9,((Value.slice A1 n1 c1).ownBlock)=some q9→((Value.slice A 0 c).ownBlock)=some q9∨w.heap.size≤q9)∧(n1=s.length∧x1=s.map bV)) ?_ ?_
 ·
  exact ag3
 ·
  have bD:=(zr av);clear av;rintro ⟨A1,c1,n1,x1⟩ w2 ⟨M1,av,dB,⟨hn1,hx1⟩⟩;have fF:bL (ah [((Value.slice A1 n1 c1).ownBlock)]) (ah [((Value.slice A 0 c).ownBlock)]) w:=(ah.grow ah.none_ (fun k e=>(dB k e).elim (fun e=>Or.inl (ah.head k e)) Or.inr));replace E:=E.trans M1;replace HF:=HF.turn E fF;have fJ:=LW.size;have XT:=fun q9 (h:(ah [((Value.slice A1 n1 c1).ownBlock)]) q9)=>(fF q9 h).elim (ak q9) (fun h=>Or.inr (Nat.le_trans LW.size h));replace LW:=LW.step E ak;replace ak:=XT;clear fJ;replace E:=aB (ah [((Value.slice A1 n1 c1).ownBlock)]) w2;clear bD;refine vc ?_;refine qk 83 rfl (by rw[bne_iff_ne.2 om]<;>rfl) (yl ?_);refine za rfl (ou (j:=0) u46 dw rfl rfl rfl de (za rfl (jm underlying5 rfl rfl ((HF.on E).here.2 0 (by simp)) (zn ?_))));refine za rfl (zv (cs:=#[.int .u8 (d.toNat:Int)]) u46 dw mI de rfl (by rw[ym];rfl) ?_);intro fA w7 gD PS mW;have bQ:Apart (some fA) ((Value.slice A1 n1 c1).ownBlock):=Apart.of_lt (zr av) mW;have gZ:=bQ.symm;have mW:_≤fA:=Nat.le_trans E.size mW;have ag5:=Nat.le_trans LW.size mW;replace av:=zk av PS aj.nil;replace E:=E.trans PS.no;replace HF:=HF.cons (zf mW);replace E:=E.cons (some fA);replace ak:=ah.grow ak (fun k e=>Or.inr (Nat.le_trans LW.size ((zf mW) k e)));obtain ⟨HF,LW,ak,E⟩:=dL HF LW E ak (Y:=ah [((Value.slice A1 n1 c1).ownBlock)]) (ah.skip (ah.keep ah.aR)) (Per.aQ gD (aj.cons bQ aj.nil));refine za rfl (qe (news:=[.int .u8 (d.toNat:Int)]) u46 iV rfl de rfl av rfl (qq (HF.on E).here.2 ((HF.on E).here.2).lt rfl) (by simp[Value.oneCell']) (by unfold maxLen;omega) om (by exact Nat.le_trans HB (Nat.le_trans LW.size E.size)) ?_);intro v0 w8 On En KN;obtain ⟨A3,c3,rfl⟩:=zp On;replace KN:∀q9,((Value.slice A3 (n1+1) c3).ownBlock)=some q9→((Value.slice A1 n1 c1).ownBlock)=some q9∨w7.heap.size≤q9:=KN;have HY:bL (ah [((Value.slice A3 (n1+1) c3).ownBlock)]) (ah [((Value.slice A1 n1 c1).ownBlock)]) w7:=(ah.grow ah.none_ (fun k e=>(KN k e).elim (fun e=>Or.inl (ah.head k e)) (fun h=>Or.inr (Nat.le_trans E.size h))));replace E:=E.step1 En ah.head;replace HF:=HF.turn E HY;have XT:=fun q9 (h:(ah [((Value.slice A3 (n1+1) c3).ownBlock)]) q9)=>(HY q9 h).elim (ak q9) (fun h=>Or.inr (Nat.le_trans LW.size h));replace LW:=LW.step E ak;replace ak:=XT;replace E:=aB (ah [((Value.slice A3 (n1+1) c3).ownBlock)]) w8;clear HY;replace av:World.ownsRow w8 base 5 1 (.slice A3 (n1+1) c3) (n1+1) (x1++ [bV d]):=by
   have e:(x1:List Value)++([.int .u8 (d.toNat:Int)]:List Value)=x1++ [bV d]:=rfl;rw[←e];exact On
  clear On KN En;refine yd ?_;refine zy 92 (.bool (decide (0<R.length))) rfl (gq om) ?_;replace HF:=HF.on E;replace LW:=LW.step E ak;replace E:=aB (ah [((Value.slice A3 (n1+1) c3).ownBlock)]) w8;refine vk (ι:=Option Addr×Nat×Nat×List Value) (fun (A4,c4,n4,x4)=>[(0,.slice A4 n4 c4),(3,.int .i64 dp),(4,.int .i64 ((R.length+1:Nat):Int)),(6,.int .u8 101)]) (fun (A4,c4,n4,x4) w'=>Ext (ah [((Value.slice A3 (n1+1) c3).ownBlock)]) w8 w'∧World.ownsRow w' base 5 1 (.slice A4 n4 c4) n4 x4∧(∀q9,((Value.slice A4 n4 c4).ownBlock)=some q9→((Value.slice A3 (n1+1) c3).ownBlock)=some q9∨w8.heap.size≤q9)∧(n4=s.length+H.length∧x4=(s++H).map bV)) ?_ ?_
  ·
   have M9:=aB (ah [((Value.slice A3 (n1+1) c3).ownBlock)]) w8;have Bc:=aP (ah [((Value.slice A3 (n1+1) c3).ownBlock)]) w8;have dD:∀q9,((Value.slice A3 (n1+1) c3).ownBlock)=some q9→((Value.slice A3 (n1+1) c3).ownBlock)=some q9∨w8.heap.size≤q9:=fun _ e=>Or.inl e;refine zg rfl (fun h1=>?_) (fun h1=>?_)
   ·
    have h1:=of_decide_eq_true h1;have hH1:H=d::46::R:=by rw[hH,Hl d h1]
    have hH2:H.length=R.length+2:=by rw[hH1];rfl
    refine vS ?_;intro LQ dW ar5 ag6 Co;have vV:Apart (some LQ) ((Value.slice A3 (n1+1) c3).ownBlock):=Apart.of_lt (zr av) Co;have ag7:=vV.symm;have Co:_≤LQ:=Nat.le_trans E.size Co;have av8:=Nat.le_trans LW.size Co;replace av:=zk av ag6 aj.nil;replace E:=E.trans ag6.no;replace HF:=HF.cons (zf Co);replace E:=E.cons (some LQ);replace ak:=ah.grow ak (fun k e=>Or.inr (Nat.le_trans LW.size ((zf Co) k e)));replace Bc:=ah.grow Bc (fun k e=>Or.inr (Nat.le_trans M9.size ((zf Co) k e)));replace HF:=HF.on E;replace LW:=LW.step E ak;replace M9:=M9.step E Bc;have SB:∀q9,ah [((Value.slice A3 (n1+1) c3).ownBlock)] q9→ah [(some LQ),((Value.slice A3 (n1+1) c3).ownBlock)] q9:=(ah.skip (ah.keep ah.aR));replace HF:=HF.less SB;replace ak:=fun k h=>ak k (SB k h);replace Bc:=fun k h=>Bc k (SB k h);clear SB;replace E:=aB (ah [((Value.slice A3 (n1+1) c3).ownBlock)]) dW;replace HF:=HF.and (Per.aQ ar5 (aj.cons vV aj.nil));refine vU ?_;intro v0 vN On En KN;obtain ⟨A5,c5,rfl⟩:=zp On;replace KN:∀q9,((Value.slice A5 (n1+1+1) c5).ownBlock)=some q9→((Value.slice A3 (n1+1) c3).ownBlock)=some q9∨dW.heap.size≤q9:=KN;have HY:bL (ah [((Value.slice A5 (n1+1+1) c5).ownBlock)]) (ah [((Value.slice A3 (n1+1) c3).ownBlock)]) dW:=(ah.grow ah.none_ (fun k e=>(KN k e).elim (fun e=>Or.inl (ah.head k e)) (fun h=>Or.inr (Nat.le_trans E.size h))));replace dD:∀q9,((Value.slice A5 (n1+1+1) c5).ownBlock)=some q9→((Value.slice A3 (n1+1) c3).ownBlock)=some q9∨w8.heap.size≤q9:=fun k e=>(KN k e).elim (dD k) (fun h=>Or.inr (Nat.le_trans M9.size (Nat.le_trans E.size h)));replace E:=E.step1 En ah.head;replace HF:=HF.turn E HY;have XT:=fun q9 (h:(ah [((Value.slice A5 (n1+1+1) c5).ownBlock)]) q9)=>(HY q9 h).elim (ak q9) (fun h=>Or.inr (Nat.le_trans LW.size h));replace LW:=LW.step E ak;replace ak:=XT;have XT:=fun q9 (h:(ah [((Value.slice A5 (n1+1+1) c5).ownBlock)]) q9)=>(HY q9 h).elim (Bc q9) (fun h=>Or.inr (Nat.le_trans M9.size h));replace M9:=M9.step E Bc;replace Bc:=XT;replace E:=aB (ah [((Value.slice A5 (n1+1+1) c5).ownBlock)]) vN;clear HY;replace av:World.ownsRow vN base 5 1 (.slice A5 (n1+1+1) c5) (n1+1+1) (x1++ [bV d]++ [bV 46]):=by
     have e:((x1++ [bV d]):List Value)++([.int .u8 46]:List Value)=x1++ [bV d]++ [bV 46]:=rfl;rw[←e];exact On
    clear On KN En;refine vc ?_;refine yc ?_;refine za rfl (qH rfl rfl (ze 99 (.int .i64 ((R.length+1:Nat):Int)) rfl (by rw[if_neg om]<;>rfl) (qa ?_)));refine qk 102 rfl (by rw[decide_eq_true om]<;>rfl) (zn ?_);refine za rfl (uf (l:=1) (h:=R.length+1) u46 dw rfl ⟨_,rfl⟩ ⟨_,rfl⟩ om om (za rfl (qe (news:=R.map bV) u46 iV rfl de rfl av rfl (Hg (HF.on E).here.1.1.2) (Yu) (by unfold maxLen;omega) om (by exact Nat.le_trans HB (Nat.le_trans LW.size E.size)) ?_)));intro v0 fu On En KN;obtain ⟨A6,c6,rfl⟩:=zp On;replace KN:∀q9,((Value.slice A6 (n1+1+1+(R.length+1-1)) c6).ownBlock)=some q9→((Value.slice A5 (n1+1+1) c5).ownBlock)=some q9∨vN.heap.size≤q9:=KN;have HY:bL (ah [((Value.slice A6 (n1+1+1+(R.length+1-1)) c6).ownBlock)]) (ah [((Value.slice A5 (n1+1+1) c5).ownBlock)]) vN:=(ah.grow ah.none_ (fun k e=>(KN k e).elim (fun e=>Or.inl (ah.head k e)) (fun h=>Or.inr (Nat.le_trans E.size h))));replace dD:∀q9,((Value.slice A6 (n1+1+1+(R.length+1-1)) c6).ownBlock)=some q9→((Value.slice A3 (n1+1) c3).ownBlock)=some q9∨w8.heap.size≤q9:=fun k e=>(KN k e).elim (dD k) (fun h=>Or.inr (Nat.le_trans M9.size (Nat.le_trans E.size h)));replace E:=E.step1 En ah.head;have XT:=fun q9 (h:(ah [((Value.slice A6 (n1+1+1+(R.length+1-1)) c6).ownBlock)]) q9)=>(HY q9 h).elim (ak q9) (fun h=>Or.inr (Nat.le_trans LW.size h));have XT:=fun q9 (h:(ah [((Value.slice A6 (n1+1+1+(R.length+1-1)) c6).ownBlock)]) q9)=>(HY q9 h).elim (Bc q9) (fun h=>Or.inr (Nat.le_trans M9.size h));replace M9:=M9.step E Bc;replace Bc:=XT;replace E:=aB (ah [((Value.slice A6 (n1+1+1+(R.length+1-1)) c6).ownBlock)]) fu;clear HY;replace av:World.ownsRow fu base 5 1 (.slice A6 (n1+1+1+(R.length+1-1)) c6) (n1+1+1+(R.length+1-1)) (x1++ [bV d]++ [bV 46]++R.map bV):=by
     have e:((x1++ [bV d]++ [bV 46]):List Value)++(R.map bV:List Value)=x1++ [bV d]++ [bV 46]++R.map bV:=rfl;rw[←e];exact On
    clear On KN En;refine qa ?_;refine yc ?_;refine aN ?_;refine zx ?_;refine yf ?_;refine zy 113 (.int .i64 0) rfl (by congr 1;omega) (znz (qa ?_));exact yy (A6,c6,n1+1+1+(R.length+1-1),x1++ [bV d]++ [bV 46]++R.map bV) ⟨rfl,rfl,rfl,rfl,trivial⟩ ⟨M9.step E Bc,(by exact av),dD,om,by rw[hx1,hH1];simp⟩
   ·
    have h1:=of_decide_eq_false h1;have hH1:H= [d]:=by
     rw[hH];cases R with
     | nil=>rfl
     | cons x R=>exact absurd (by simp) h1
    refine aN ?_;exact yy (A3,c3,n1+1,x1++ [bV d]) ⟨rfl,rfl,rfl,rfl,trivial⟩ ⟨M9.step E Bc,(by exact av),dD,by rw[hn1,hH1];rfl,by rw[hx1,hH1];simp⟩
  ·
   have bD:=(zr av);clear av;rintro ⟨A4,c4,n4,x4⟩ oD ⟨M9,av,dD,⟨hn4,hx4⟩⟩;have Bc:bL (ah [((Value.slice A4 n4 c4).ownBlock)]) (ah [((Value.slice A3 (n1+1) c3).ownBlock)]) w8:=(ah.grow ah.none_ (fun k e=>(dD k e).elim (fun e=>Or.inl (ah.head k e)) Or.inr));replace E:=E.trans M9;replace HF:=HF.turn E Bc;have fJ:=LW.size;have XT:=fun q9 (h:(ah [((Value.slice A4 n4 c4).ownBlock)]) q9)=>(Bc q9 h).elim (ak q9) (fun h=>Or.inr (Nat.le_trans LW.size h));replace LW:=LW.step E ak;replace ak:=XT;clear fJ;replace E:=aB (ah [((Value.slice A4 n4 c4).ownBlock)]) oD;clear bD;obtain ⟨u,hu⟩:∃u,u=(dp-1).natAbs:=⟨_,rfl⟩;obtain ⟨x,hx⟩:∃x,x=((if dp-1<0 then 45 else 43):UInt8):=⟨_,rfl⟩;have hE:gL (dp-1)=x::gY u:=by rw[gL,←hu,←hx]
   have hT:vp neg++ot (d::R) dp=s++H++101::x::gY u:=by rw[ot,hE,←hH,←hs,List.append_assoc]
   refine yf ?_;refine kG ?_;intro vW w16 Yv LU dQ;have dF:Apart (some vW) ((Value.slice A4 n4 c4).ownBlock):=Apart.of_lt (zr av) dQ;have LV:=dF.symm;have dQ:_≤vW:=Nat.le_trans E.size dQ;have ag8:=Nat.le_trans LW.size dQ;replace av:=zk av LU aj.nil;replace E:=E.trans LU.no;replace HF:=HF.cons (zf dQ);replace E:=E.cons (some vW);replace ak:=ah.grow ak (fun k e=>Or.inr (Nat.le_trans LW.size ((zf dQ) k e)));obtain ⟨HF,LW,ak,E⟩:=dL HF LW E ak (Y:=ah [((Value.slice A4 n4 c4).ownBlock)]) (ah.skip (ah.keep ah.aR)) (Per.aQ Yv (aj.cons dF aj.nil));refine kI ?_;intro v0 mV On En KN;obtain ⟨A7,c7,rfl⟩:=zp On;replace KN:∀q9,((Value.slice A7 (n4+1) c7).ownBlock)=some q9→((Value.slice A4 n4 c4).ownBlock)=some q9∨w16.heap.size≤q9:=KN;have HY:bL (ah [((Value.slice A7 (n4+1) c7).ownBlock)]) (ah [((Value.slice A4 n4 c4).ownBlock)]) w16:=(ah.grow ah.none_ (fun k e=>(KN k e).elim (fun e=>Or.inl (ah.head k e)) (fun h=>Or.inr (Nat.le_trans E.size h))));replace E:=E.step1 En ah.head;replace HF:=HF.turn E HY;have XT:=fun q9 (h:(ah [((Value.slice A7 (n4+1) c7).ownBlock)]) q9)=>(HY q9 h).elim (ak q9) (fun h=>Or.inr (Nat.le_trans LW.size h));replace LW:=LW.step E ak;replace ak:=XT;replace E:=aB (ah [((Value.slice A7 (n4+1) c7).ownBlock)]) mV;clear HY;replace av:World.ownsRow mV base 5 1 (.slice A7 (n4+1) c7) (n4+1) (x4++ [bV 101]):=by
    have e:(x4:List Value)++([.int .u8 101]:List Value)=x4++ [bV 101]:=rfl;rw[←e];exact On
   clear On KN En;refine zq ?_;refine zx ?_;refine yd ?_;refine yn 127 rfl (by rw[beq_eq_false_iff_ne.2 om]<;>rfl) (yd ?_);replace HF:=HF.on E;replace LW:=LW.step E ak;replace E:=aB (ah [((Value.slice A7 (n4+1) c7).ownBlock)]) mV;refine vk (ι:=Unit) (fun _=>[(0,.slice A7 (n4+1) c7),(19,.int .u8 (x.toNat:Int)),(22,.int .i64 ((u:Nat):Int))]) (fun _ w'=>Ext (ah [((Value.slice A7 (n4+1) c7).ownBlock)]) mV w'∧World.ownsRow w' base 5 1 (.slice A7 (n4+1) c7) (n4+1) (x4++ [bV 101])∧(∀q9,((Value.slice A7 (n4+1) c7).ownBlock)=some q9→((Value.slice A7 (n4+1) c7).ownBlock)=some q9∨mV.heap.size≤q9)∧(True)) ?_ ?_
   ·
    have Ba:=aB (ah [((Value.slice A7 (n4+1) c7).ownBlock)]) mV;have fI:=aP (ah [((Value.slice A7 (n4+1) c7).ownBlock)]) mV;have rR:∀q9,((Value.slice A7 (n4+1) c7).ownBlock)=some q9→((Value.slice A7 (n4+1) c7).ownBlock)=some q9∨mV.heap.size≤q9:=fun _ e=>Or.inl e;refine zg rfl (fun h2=>?_) (fun h2=>?_)
    ·
     have h2:=of_decide_eq_true h2;refine zn ?_;refine js ?_;refine zo ?_;refine yi 19 (.int .u8 (x.toNat:Int)) rfl ((by rw[hx,if_pos h2];rfl:(.int .u8 45:Value)=_)) (yi 22 (.int .i64 ((u:Nat):Int)) rfl ((by congr 1;omega:(.int .i64 (0-(dp-1)):Value)=_)) ?_);exact Vx
    ·
     have h2:=of_decide_eq_false h2;refine yl ?_;refine yi 19 (.int .u8 (x.toNat:Int)) rfl ((by rw[hx,if_neg h2];rfl:(.int .u8 43:Value)=_)) (yi 22 (.int .i64 ((u:Nat):Int)) rfl ((by congr 1;omega:(.int .i64 (dp-1):Value)=_)) ?_);exact Vx
   ·
    have bD:=(zr av);clear av;rintro _ EU ⟨Ba,av,rR,_⟩;have fI:bL (ah [((Value.slice A7 (n4+1) c7).ownBlock)]) (ah [((Value.slice A7 (n4+1) c7).ownBlock)]) mV:=(ah.grow ah.none_ (fun k e=>(rR k e).elim (fun e=>Or.inl (ah.head k e)) Or.inr));replace E:=E.trans Ba;replace HF:=HF.turn E fI;have fJ:=LW.size;have XT:=fun q9 (h:(ah [((Value.slice A7 (n4+1) c7).ownBlock)]) q9)=>(fI q9 h).elim (ak q9) (fun h=>Or.inr (Nat.le_trans LW.size h));replace LW:=LW.step E ak;replace ak:=XT;clear fJ;replace E:=aB (ah [((Value.slice A7 (n4+1) c7).ownBlock)]) EU;clear bD;have hu3:u<1000:=om;refine yf ?_;refine kH ?_;intro vX w21 Cq kJ gM;have vY:Apart (some vX) ((Value.slice A7 (n4+1) c7).ownBlock):=Apart.of_lt (zr av) gM;have ag9:=vY.symm;have gM:_≤vX:=Nat.le_trans E.size gM;have av9:=Nat.le_trans LW.size gM;replace av:=zk av kJ aj.nil;replace E:=E.trans kJ.no;replace HF:=HF.cons (zf gM);replace E:=E.cons (some vX);replace ak:=ah.grow ak (fun k e=>Or.inr (Nat.le_trans LW.size ((zf gM) k e)));obtain ⟨HF,LW,ak,E⟩:=dL HF LW E ak (Y:=ah [((Value.slice A7 (n4+1) c7).ownBlock)]) (ah.skip (ah.keep ah.aR)) (Per.aQ Cq (aj.cons vY aj.nil));refine za rfl (qe (news:=[.int .u8 (x.toNat:Int)]) u46 iV rfl de rfl av rfl (qq (HF.on E).here.2 ((HF.on E).here.2).lt rfl) (by simp[Value.oneCell']) (by unfold maxLen;omega) om (by exact Nat.le_trans HB (Nat.le_trans LW.size E.size)) ?_);intro v0 Vy On En KN;obtain ⟨A8,c8,rfl⟩:=zp On;replace KN:∀q9,((Value.slice A8 (n4+1+1) c8).ownBlock)=some q9→((Value.slice A7 (n4+1) c7).ownBlock)=some q9∨w21.heap.size≤q9:=KN;have HY:bL (ah [((Value.slice A8 (n4+1+1) c8).ownBlock)]) (ah [((Value.slice A7 (n4+1) c7).ownBlock)]) w21:=(ah.grow ah.none_ (fun k e=>(KN k e).elim (fun e=>Or.inl (ah.head k e)) (fun h=>Or.inr (Nat.le_trans E.size h))));replace E:=E.step1 En ah.head;replace HF:=HF.turn E HY;have XT:=fun q9 (h:(ah [((Value.slice A8 (n4+1+1) c8).ownBlock)]) q9)=>(HY q9 h).elim (ak q9) (fun h=>Or.inr (Nat.le_trans LW.size h));replace LW:=LW.step E ak;replace ak:=XT;replace E:=aB (ah [((Value.slice A8 (n4+1+1) c8).ownBlock)]) Vy;clear HY;replace av:World.ownsRow Vy base 5 1 (.slice A8 (n4+1+1) c8) (n4+1+1) (x4++ [bV 101]++ [bV x]):=by
     have e:((x4++ [bV 101]):List Value)++([.int .u8 (x.toNat:Int)]:List Value)=x4++ [bV 101]++ [bV x]:=rfl;rw[←e];exact On
    clear On KN En;refine vc ?_;refine zy 152 (.bool (decide (u<10))) rfl (gq om) (zg rfl (fun h3=>?_) (fun h3=>?_))
    ·
     have h3:=of_decide_eq_true h3;have hX:=j4 h3;have v0:=oG (k:=u) om;refine yl ?_;refine yik ?_;refine ze 158 (.int .u8 (((UInt8.ofNat (48+u)).toNat:Nat):Int)) rfl (by congr 1;omega) (za rfl (zv (cs:=#[.int .u8 48,.int .u8 (((UInt8.ofNat (48+u)).toNat:Nat):Int)]) u46 dw mI de rfl (by rw[ym];rfl) ?_));intro Cr w24 vZ kK kL;have wh:Apart (some Cr) ((Value.slice A8 (n4+1+1) c8).ownBlock):=Apart.of_lt (zr av) kL;have agq:=wh.symm;have kL:_≤Cr:=Nat.le_trans E.size kL;have avq:=Nat.le_trans LW.size kL;replace av:=zk av kK aj.nil;replace E:=E.trans kK.no;replace HF:=HF.cons (zf kL);replace E:=E.cons (some Cr);replace ak:=ah.grow ak (fun k e=>Or.inr (Nat.le_trans LW.size ((zf kL) k e)));obtain ⟨HF,LW,ak,E⟩:=dL HF LW E ak (Y:=ah [((Value.slice A8 (n4+1+1) c8).ownBlock)]) (ah.skip (ah.keep ah.aR)) (Per.aQ vZ (aj.cons wh aj.nil));refine za rfl (qe (news:=[.int .u8 48,.int .u8 (((UInt8.ofNat (48+u)).toNat:Nat):Int)]) u46 iV rfl de rfl av rfl (qq (HF.on E).here.2 ((HF.on E).here.2).lt rfl) (by simp[Value.oneCell']) (by unfold maxLen;omega) om (by exact Nat.le_trans HB (Nat.le_trans LW.size E.size)) ?_);intro v0 PU On En KN;obtain ⟨A9,c9,rfl⟩:=zp On;replace KN:∀q9,((Value.slice A9 (n4+1+1+2) c9).ownBlock)=some q9→((Value.slice A8 (n4+1+1) c8).ownBlock)=some q9∨w24.heap.size≤q9:=KN;have HY:bL (ah [((Value.slice A9 (n4+1+1+2) c9).ownBlock)]) (ah [((Value.slice A8 (n4+1+1) c8).ownBlock)]) w24:=(ah.grow ah.none_ (fun k e=>(KN k e).elim (fun e=>Or.inl (ah.head k e)) (fun h=>Or.inr (Nat.le_trans E.size h))));replace E:=E.step1 En ah.head;have XT:=fun q9 (h:(ah [((Value.slice A9 (n4+1+1+2) c9).ownBlock)]) q9)=>(HY q9 h).elim (ak q9) (fun h=>Or.inr (Nat.le_trans LW.size h));replace LW:=LW.step E ak;replace ak:=XT;replace E:=aB (ah [((Value.slice A9 (n4+1+1+2) c9).ownBlock)]) PU;clear HY;replace av:World.ownsRow PU base 5 1 (.slice A9 (n4+1+1+2) c9) (n4+1+1+2) (x4++ [bV 101]++ [bV x]++ [bV 48,bV (UInt8.ofNat (48+u))]):=by
      have e:((x4++ [bV 101]++ [bV x]):List Value)++([.int .u8 48,.int .u8 (((UInt8.ofNat (48+u)).toNat:Nat):Int)]:List Value)=x4++ [bV 101]++ [bV x]++ [bV 48,bV (UInt8.ofNat (48+u))]:=rfl;rw[←e];exact On
     clear On KN En;have hn9:n4+1+1+2=(vp neg++ot (d::R) dp).length:=by rw[hT,hX,hn4,List.length_append,List.length_append];rfl
     have hx9:x4++ [bV 101]++ [bV x]++ [bV 48,bV (UInt8.ofNat (48+u))]=(vp neg++ot (d::R) dp).map bV:=by rw[hT,hX,hx4];simp
     exact LJ
    ·
     have h3:=of_decide_eq_false h3;refine zn ?_;refine zy 161 (.bool (decide (u<100))) rfl (gq om) (zg rfl (fun h4=>?_) (fun h4=>?_))
     ·
      have h4:=of_decide_eq_true h4;have hX:=vP h3 h4;have v0:=oG (k:=u/10) om;have v1:=oG (k:=u%10) om;refine yl ?_;refine za rfl (Qg rfl rfl de (yj (n:=((u/10:Nat):Int)) om) (yik ?_));refine vT ?_;refine ze 168 (.int .u8 (((UInt8.ofNat (48+u/10)).toNat:Nat):Int)) rfl (by congr 1;omega) (ze 172 (.int .u8 (((UInt8.ofNat (48+u%10)).toNat:Nat):Int)) rfl ((by congr 1;omega:(.int .u8 (((u%10:Nat):Int)+48):Value)=_)) (za rfl (zv (cs:=#[.int .u8 (((UInt8.ofNat (48+u/10)).toNat:Nat):Int),.int .u8 (((UInt8.ofNat (48+u%10)).toNat:Nat):Int)]) u46 dw mI de rfl (by rw[ym];rfl) ?_)));intro wm Vz Yw LX eH;have dG:Apart (some wm) ((Value.slice A8 (n4+1+1) c8).ownBlock):=Apart.of_lt (zr av) eH;have LY:=dG.symm;have eH:_≤wm:=Nat.le_trans E.size eH;have agz:=Nat.le_trans LW.size eH;replace av:=zk av LX aj.nil;replace E:=E.trans LX.no;replace HF:=HF.cons (zf eH);replace E:=E.cons (some wm);replace ak:=ah.grow ak (fun k e=>Or.inr (Nat.le_trans LW.size ((zf eH) k e)));obtain ⟨HF,LW,ak,E⟩:=dL HF LW E ak (Y:=ah [((Value.slice A8 (n4+1+1) c8).ownBlock)]) (ah.skip (ah.keep ah.aR)) (Per.aQ Yw (aj.cons dG aj.nil));refine za rfl (qe (news:=[.int .u8 (((UInt8.ofNat (48+u/10)).toNat:Nat):Int),.int .u8 (((UInt8.ofNat (48+u%10)).toNat:Nat):Int)]) u46 iV rfl de rfl av rfl (qq (HF.on E).here.2 ((HF.on E).here.2).lt rfl) (by simp[Value.oneCell']) (by unfold maxLen;omega) om (by exact Nat.le_trans HB (Nat.le_trans LW.size E.size)) ?_);intro v0 w28 On En KN;obtain ⟨A9,c9,rfl⟩:=zp On;replace KN:∀q9,((Value.slice A9 (n4+1+1+2) c9).ownBlock)=some q9→((Value.slice A8 (n4+1+1) c8).ownBlock)=some q9∨Vz.heap.size≤q9:=KN;have HY:bL (ah [((Value.slice A9 (n4+1+1+2) c9).ownBlock)]) (ah [((Value.slice A8 (n4+1+1) c8).ownBlock)]) Vz:=(ah.grow ah.none_ (fun k e=>(KN k e).elim (fun e=>Or.inl (ah.head k e)) (fun h=>Or.inr (Nat.le_trans E.size h))));replace E:=E.step1 En ah.head;have XT:=fun q9 (h:(ah [((Value.slice A9 (n4+1+1+2) c9).ownBlock)]) q9)=>(HY q9 h).elim (ak q9) (fun h=>Or.inr (Nat.le_trans LW.size h));replace LW:=LW.step E ak;replace ak:=XT;replace E:=aB (ah [((Value.slice A9 (n4+1+1+2) c9).ownBlock)]) w28;clear HY;replace av:World.ownsRow w28 base 5 1 (.slice A9 (n4+1+1+2) c9) (n4+1+1+2) (x4++ [bV 101]++ [bV x]++ [bV (UInt8.ofNat (48+u/10)),bV (UInt8.ofNat (48+u%10))]):=by
       have e:((x4++ [bV 101]++ [bV x]):List Value)++([.int .u8 (((UInt8.ofNat (48+u/10)).toNat:Nat):Int),.int .u8 (((UInt8.ofNat (48+u%10)).toNat:Nat):Int)]:List Value)=x4++ [bV 101]++ [bV x]++ [bV (UInt8.ofNat (48+u/10)),bV (UInt8.ofNat (48+u%10))]:=rfl;rw[←e];exact On
      clear On KN En;have hn9:n4+1+1+2=(vp neg++ot (d::R) dp).length:=by rw[hT,hX,hn4,List.length_append,List.length_append];rfl
      have hx9:x4++ [bV 101]++ [bV x]++ [bV (UInt8.ofNat (48+u/10)),bV (UInt8.ofNat (48+u%10))]=(vp neg++ot (d::R) dp).map bV:=by rw[hT,hX,hx4];simp
      exact LJ
     ·
      have h4:=of_decide_eq_false h4;have hX:=j5 h4 hu3;have v0:=oG (k:=u/100) om;have v1:=oG (k:=u/10%10) om;have v2:=oG (k:=u%10) om;refine yl ?_;refine za rfl (Qg rfl rfl de (yj (n:=((u/100:Nat):Int)) om) (yik ?_));refine aN ?_;refine za rfl (Qg rfl rfl de (yj (n:=((u/10:Nat):Int)) om) (za rfl (jd underlying5 underlying3 rfl (UC om) (za rfl (ju rfl rfl de (show ((u/10:Nat):Int).tmod 10=((u/10%10:Nat):Int) from rfl) (za rfl (vu rfl rfl (UC om) (vT ?_))))))));refine ze 140 (.int .u8 (((UInt8.ofNat (48+u/100)).toNat:Nat):Int)) rfl (by congr 1;omega) (ze 145 (.int .u8 (((UInt8.ofNat (48+u/10%10)).toNat:Nat):Int)) rfl ((by congr 1;omega:(.int .u8 (((u/10%10:Nat):Int)+48):Value)=_)) (ze 149 (.int .u8 (((UInt8.ofNat (48+u%10)).toNat:Nat):Int)) rfl ((by congr 1;omega:(.int .u8 (((u%10:Nat):Int)+48):Value)=_)) (za rfl (zv (cs:=#[.int .u8 (((UInt8.ofNat (48+u/100)).toNat:Nat):Int),.int .u8 (((UInt8.ofNat (48+u/10%10)).toNat:Nat):Int),.int .u8 (((UInt8.ofNat (48+u%10)).toNat:Nat):Int)]) u46 dw mI de rfl (by rw[ym];rfl) ?_))));intro Yx w30 ar6 agx Hq;have wu:Apart (some Yx) ((Value.slice A8 (n4+1+1) c8).ownBlock):=Apart.of_lt (zr av) Hq;have agj:=wu.symm;have Hq:_≤Yx:=Nat.le_trans E.size Hq;have avz:=Nat.le_trans LW.size Hq;replace av:=zk av agx aj.nil;replace E:=E.trans agx.no;replace HF:=HF.cons (zf Hq);replace E:=E.cons (some Yx);replace ak:=ah.grow ak (fun k e=>Or.inr (Nat.le_trans LW.size ((zf Hq) k e)));obtain ⟨HF,LW,ak,E⟩:=dL HF LW E ak (Y:=ah [((Value.slice A8 (n4+1+1) c8).ownBlock)]) (ah.skip (ah.keep ah.aR)) (Per.aQ ar6 (aj.cons wu aj.nil));refine za rfl (qe (news:=[.int .u8 (((UInt8.ofNat (48+u/100)).toNat:Nat):Int),.int .u8 (((UInt8.ofNat (48+u/10%10)).toNat:Nat):Int),.int .u8 (((UInt8.ofNat (48+u%10)).toNat:Nat):Int)]) u46 iV rfl de rfl av rfl (qq (HF.on E).here.2 ((HF.on E).here.2).lt rfl) (by simp[Value.oneCell']) (by unfold maxLen;omega) om (by exact Nat.le_trans HB (Nat.le_trans LW.size E.size)) ?_);intro v0 w31 On En KN;obtain ⟨A9,c9,rfl⟩:=zp On;replace KN:∀q9,((Value.slice A9 (n4+1+1+3) c9).ownBlock)=some q9→((Value.slice A8 (n4+1+1) c8).ownBlock)=some q9∨w30.heap.size≤q9:=KN;have HY:bL (ah [((Value.slice A9 (n4+1+1+3) c9).ownBlock)]) (ah [((Value.slice A8 (n4+1+1) c8).ownBlock)]) w30:=(ah.grow ah.none_ (fun k e=>(KN k e).elim (fun e=>Or.inl (ah.head k e)) (fun h=>Or.inr (Nat.le_trans E.size h))));replace E:=E.step1 En ah.head;have XT:=fun q9 (h:(ah [((Value.slice A9 (n4+1+1+3) c9).ownBlock)]) q9)=>(HY q9 h).elim (ak q9) (fun h=>Or.inr (Nat.le_trans LW.size h));replace LW:=LW.step E ak;replace ak:=XT;replace E:=aB (ah [((Value.slice A9 (n4+1+1+3) c9).ownBlock)]) w31;clear HY;replace av:World.ownsRow w31 base 5 1 (.slice A9 (n4+1+1+3) c9) (n4+1+1+3) (x4++ [bV 101]++ [bV x]++ [bV (UInt8.ofNat (48+u/100)),bV (UInt8.ofNat (48+u/10%10)),bV (UInt8.ofNat (48+u%10))]):=by
       have e:((x4++ [bV 101]++ [bV x]):List Value)++([.int .u8 (((UInt8.ofNat (48+u/100)).toNat:Nat):Int),.int .u8 (((UInt8.ofNat (48+u/10%10)).toNat:Nat):Int),.int .u8 (((UInt8.ofNat (48+u%10)).toNat:Nat):Int)]:List Value)=x4++ [bV 101]++ [bV x]++ [bV (UInt8.ofNat (48+u/100)),bV (UInt8.ofNat (48+u/10%10)),bV (UInt8.ofNat (48+u%10))]:=rfl;rw[←e];exact On
      clear On KN En;have hn9:n4+1+1+3=(vp neg++ot (d::R) dp).length:=by rw[hT,hX,hn4,List.length_append,List.length_append];rfl
      have hx9:x4++ [bV 101]++ [bV x]++ [bV (UInt8.ofNat (48+u/100)),bV (UInt8.ofNat (48+u/10%10)),bV (UInt8.ofNat (48+u%10))]=(vp neg++ot (d::R) dp).map bV:=by rw[hT,hX,hx4];simp
      exact LJ
theorem ah0 (neg:Bool) (d:UInt8) (R:List UInt8) (dp:Int) (P:Nat) (hl:R.length≤17) (hdp:-400≤dp∧dp≤420) (hP:P=(((R.length+1:Nat):Int)-dp).toNat) (ds:Nat) (hD:dX w ds (d::R)) (hne:¬ah [(Value.slice A 0 c).ownBlock] ds):Calls prog 175 #[.slice A 0 c,.bool neg,.slice (some ⟨ds,0,none⟩) 32 32,.int .i64 dp,.int .i64 ((R.length+1:Nat):Int),.int .i64 ((P:Nat):Int),.int .u8 102,.bool true] w (Vw w base (Value.slice A 0 c).ownBlock (vp neg++xp (d::R) dp).length ((vp neg++xp (d::R) dp).map bV)):=by
 obtain ⟨s,hs⟩:∃s,s=vp neg:=⟨_,rfl⟩;obtain ⟨I,hI⟩:∃I,I=Ho (d::R) dp:=⟨_,rfl⟩;have hT:xp (d::R) dp=I++(if dp<((R.length+1:Nat):Int) then 46::(List.replicate (-dp).toNat 48++(d::R).drop dp.toNat) else []):=by rw[hI];rfl
 have hsl:s.length≤1:=hs▸yjz neg;have hIl:I.length≤440:=by rw[hI];exact LM hdp.2
 obtain ⟨M,hM⟩:∃M,M=min (R.length+1) dp.toNat:=⟨_,rfl⟩;obtain ⟨K,hK⟩:∃K,K=dp.toNat-(R.length+1):=⟨_,rfl⟩;obtain ⟨Z,hZ⟩:∃Z,Z=(-dp).toNat:=⟨_,rfl⟩;obtain ⟨O,hO⟩:∃O,O=dp.toNat:=⟨_,rfl⟩;refine zd func175 rfl ntmps175 rfl ?_;have av:World.ownsRow w base 5 1 (.slice A 0 c) 0 ([]:List Value):=ho;have HF:Per (ah [((Value.slice A 0 c).ownBlock)]) w (fun _=>True):=Per.dS;have LW:=aB (ah [((Value.slice A 0 c).ownBlock)]) w;have ak:=aP (ah [((Value.slice A 0 c).ownBlock)]) w;have E:=aB (ah [((Value.slice A 0 c).ownBlock)]) w;obtain ⟨HF,LW,E⟩:=qU HF LW E ak ((Per.ag0 hD hne:Per (ah [(Value.slice A 0 c).ownBlock]) w (fun b=>dX b ds (d::R))));refine Vf ?_;refine kb ?_;replace HF:=HF.on E;replace LW:=LW.step E ak;replace E:=aB (ah [((Value.slice A 0 c).ownBlock)]) w;refine vk (ι:=Option Addr×Nat×Nat×List Value) (fun (A1,c1,n1,x1)=>[(0,.slice A1 n1 c1),(2,.slice (some ⟨ds,0,none⟩) 32 32),(3,.int .i64 dp),(4,.int .i64 ((R.length+1:Nat):Int)),(5,.int .i64 ((P:Nat):Int)),(6,.int .u8 102)]) (fun (A1,c1,n1,x1) w'=>Ext (ah [((Value.slice A 0 c).ownBlock)]) w w'∧World.ownsRow w' base 5 1 (.slice A1 n1 c1) n1 x1∧(∀q9,((Value.slice A1 n1 c1).ownBlock)=some q9→((Value.slice A 0 c).ownBlock)=some q9∨w.heap.size≤q9)∧(n1=s.length∧x1=s.map bV)) ?_ ?_
 ·
  exact ag3
 ·
  have bD:=(zr av);clear av;rintro ⟨A1,c1,n1,x1⟩ w2 ⟨M1,av,dB,⟨hn1,hx1⟩⟩;have fF:bL (ah [((Value.slice A1 n1 c1).ownBlock)]) (ah [((Value.slice A 0 c).ownBlock)]) w:=(ah.grow ah.none_ (fun k e=>(dB k e).elim (fun e=>Or.inl (ah.head k e)) Or.inr));replace E:=E.trans M1;replace HF:=HF.turn E fF;have fJ:=LW.size;have XT:=fun q9 (h:(ah [((Value.slice A1 n1 c1).ownBlock)]) q9)=>(fF q9 h).elim (ak q9) (fun h=>Or.inr (Nat.le_trans LW.size h));replace LW:=LW.step E ak;replace ak:=XT;clear fJ;replace E:=aB (ah [((Value.slice A1 n1 c1).ownBlock)]) w2;clear bD;refine zn ?_;replace HF:=HF.on E;replace LW:=LW.step E ak;replace E:=aB (ah [((Value.slice A1 n1 c1).ownBlock)]) w2;refine vk (ι:=Option Addr×Nat×Nat×List Value) (fun (A4,c4,n4,x4)=>[(0,.slice A4 n4 c4),(2,.slice (some ⟨ds,0,none⟩) 32 32),(3,.int .i64 dp),(4,.int .i64 ((R.length+1:Nat):Int)),(5,.int .i64 ((P:Nat):Int))]) (fun (A4,c4,n4,x4) w'=>Ext (ah [((Value.slice A1 n1 c1).ownBlock)]) w2 w'∧World.ownsRow w' base 5 1 (.slice A4 n4 c4) n4 x4∧(∀q9,((Value.slice A4 n4 c4).ownBlock)=some q9→((Value.slice A1 n1 c1).ownBlock)=some q9∨w2.heap.size≤q9)∧(n4=s.length+I.length∧x4=(s++I).map bV)) ?_ ?_
  ·
   have M6:=aB (ah [((Value.slice A1 n1 c1).ownBlock)]) w2;have bM:=aP (ah [((Value.slice A1 n1 c1).ownBlock)]) w2;have bJ:∀q9,((Value.slice A1 n1 c1).ownBlock)=some q9→((Value.slice A1 n1 c1).ownBlock)=some q9∨w2.heap.size≤q9:=fun _ e=>Or.inl e;refine zg rfl (fun h1=>?_) (fun h1=>?_)
   ·
    have h1:=of_decide_eq_true h1;have hI1:I=((d::R).drop 0).take M++List.replicate K 48:=by rw[hI,hM,hK];exact LP h1
    have hI2:I.length=M+K:=by rw[hI1,List.length_append,List.length_take,List.length_replicate,List.drop_zero,List.length_cons];omega
    refine yf ?_;refine za rfl (qH rfl rfl (ze 186 (.int .i64 ((M:Nat):Int)) rfl (by congr 1;split<;>omega) (yu ?_)));refine za rfl (nN (h:=M) u46 dw rfl rfl rfl om (ya ?_));replace HF:=HF.on E;replace LW:=LW.step E ak;replace M6:=M6.step E bM;replace E:=aB (ah [((Value.slice A1 n1 c1).ownBlock)]) w2;refine qt (ι:=Nat×Option Addr×Nat×List Value) (fun (k5,A5,c5,x5)=>[(0,.slice A5 (n1+k5) c5),(2,.slice (some ⟨ds,0,none⟩) 32 32),(3,.int .i64 dp),(4,.int .i64 ((R.length+1:Nat):Int)),(5,.int .i64 ((P:Nat):Int)),(23,.int .i64 ((M:Nat):Int)),(189,.slice (some ⟨ds,0,none⟩) M 32),(191,.int .i64 ((k5:Nat):Int)),(190,.int .i64 ((M:Nat):Int))]) (fun (k5,A5,c5,x5) w'=>Ext (ah [((Value.slice A1 n1 c1).ownBlock)]) w2 w'∧World.ownsRow w' base 5 1 (.slice A5 (n1+k5) c5) (n1+k5) x5∧(∀q9,((Value.slice A5 (n1+k5) c5).ownBlock)=some q9→((Value.slice A1 n1 c1).ownBlock)=some q9∨w2.heap.size≤q9)∧(k5≤M∧x5=x1++(((d::R).drop 0).take (k5)).map bV)) (fun (k5,A5,c5,x5)=>M-k5) (0,A1,c1,x1) ⟨rfl,rfl,rfl,rfl,rfl,rfl,rfl,rfl,rfl,trivial⟩ ⟨Ext.refl _ _,(by exact av),(fun _ e=>Or.inl e),Nat.zero_le _,(List.append_nil _).symm⟩ ?_;have bD:=(zr av);clear av;rintro ⟨k5,A5,c5,x5⟩ w9 ⟨M8,av,cO,⟨hk5,hx5⟩⟩;have ig:bL (ah [((Value.slice A5 (n1+k5) c5).ownBlock)]) (ah [((Value.slice A1 n1 c1).ownBlock)]) w2:=(ah.grow ah.none_ (fun k e=>(cO k e).elim (fun e=>Or.inl (ah.head k e)) Or.inr));replace E:=E.trans M8;replace HF:=HF.turn E ig;have fJ:=LW.size;have XT:=fun q9 (h:(ah [((Value.slice A5 (n1+k5) c5).ownBlock)]) q9)=>(ig q9 h).elim (ak q9) (fun h=>Or.inr (Nat.le_trans LW.size h));replace LW:=LW.step E ak;replace ak:=XT;have ZM6:=M6.size;have XT:=fun q9 (h:(ah [((Value.slice A5 (n1+k5) c5).ownBlock)]) q9)=>(ig q9 h).elim (bM q9) (fun h=>Or.inr (Nat.le_trans M6.size h));replace M6:=M6.step E bM;replace bM:=XT;replace bJ:∀q9,((Value.slice A5 (n1+k5) c5).ownBlock)=some q9→((Value.slice A1 n1 c1).ownBlock)=some q9∨w2.heap.size≤q9:=fun k e=>(cO k e).elim (bJ k) (fun h=>Or.inr (Nat.le_trans (by first | exact ZM6 | exact M6.size | omega) h));clear fJ;clear ZM6;replace E:=aB (ah [((Value.slice A5 (n1+k5) c5).ownBlock)]) w9;clear bD;refine zq ?_;refine zg rfl (fun q=>?_) (fun q=>?_)
    ·
     have q:=of_decide_eq_true q;have hj0:0+k5<R.length+1:=om;have hj:0+k5<(d::R).length:=by rw[List.length_cons];exact hj0
     refine zq ?_;refine za rfl (ou (j:=0+k5) u46 dw rfl rfl om om (za rfl (jm underlying5 rfl rfl ((HF.on E).here.2 (0+k5) hj) (zq ?_))));refine za rfl (zv (cs:=#[.int .u8 (((d::R)[0+k5].toNat:Nat):Int)]) u46 dw mI de rfl (by rw[ym];rfl) ?_);intro aX gX aO bN bZ;have wF:Apart (some aX) ((Value.slice A5 (n1+k5) c5).ownBlock):=Apart.of_lt (zr av) bZ;have ah1:=wF.symm;have bZ:_≤aX:=Nat.le_trans E.size bZ;have avj:=Nat.le_trans LW.size bZ;replace av:=zk av bN aj.nil;replace E:=E.trans bN.no;replace HF:=HF.cons (zf bZ);replace E:=E.cons (some aX);replace ak:=ah.grow ak (fun k e=>Or.inr (Nat.le_trans LW.size ((zf bZ) k e)));replace bM:=ah.grow bM (fun k e=>Or.inr (Nat.le_trans M6.size ((zf bZ) k e)));replace ig:=ah.grow ig (fun k e=>Or.inr (Nat.le_trans M8.size ((zf bZ) k e)));replace HF:=HF.on E;replace LW:=LW.step E ak;replace M6:=M6.step E bM;replace M8:=M8.step E ig;have SB:∀q9,ah [((Value.slice A5 (n1+k5) c5).ownBlock)] q9→ah [(some aX),((Value.slice A5 (n1+k5) c5).ownBlock)] q9:=(ah.skip (ah.keep ah.aR));replace HF:=HF.less SB;replace ak:=fun k h=>ak k (SB k h);replace bM:=fun k h=>bM k (SB k h);replace ig:=fun k h=>ig k (SB k h);clear SB;replace E:=aB (ah [((Value.slice A5 (n1+k5) c5).ownBlock)]) gX;replace HF:=HF.and (Per.aQ aO (aj.cons wF aj.nil));refine za rfl (qe (news:=[.int .u8 (((d::R)[0+k5].toNat:Nat):Int)]) u46 iV rfl de rfl av rfl (qq (HF.on E).here.2 ((HF.on E).here.2).lt rfl) (by simp[Value.oneCell']) (by unfold maxLen;omega) om (by exact Nat.le_trans HB (Nat.le_trans LW.size E.size)) ?_);intro v0 dW On En KN;obtain ⟨PW,PX,rfl⟩:=zp On;replace KN:∀q9,((Value.slice PW (n1+(k5+1)) PX).ownBlock)=some q9→((Value.slice A5 (n1+k5) c5).ownBlock)=some q9∨gX.heap.size≤q9:=KN;have HY:bL (ah [((Value.slice PW (n1+(k5+1)) PX).ownBlock)]) (ah [((Value.slice A5 (n1+k5) c5).ownBlock)]) gX:=(ah.grow ah.none_ (fun k e=>(KN k e).elim (fun e=>Or.inl (ah.head k e)) (fun h=>Or.inr (Nat.le_trans E.size h))));replace bJ:∀q9,((Value.slice PW (n1+(k5+1)) PX).ownBlock)=some q9→((Value.slice A1 n1 c1).ownBlock)=some q9∨w2.heap.size≤q9:=fun k e=>(KN k e).elim (bJ k) (fun h=>Or.inr (Nat.le_trans M6.size (Nat.le_trans E.size h)));replace cO:∀q9,((Value.slice PW (n1+(k5+1)) PX).ownBlock)=some q9→((Value.slice A1 n1 c1).ownBlock)=some q9∨w2.heap.size≤q9:=fun k e=>(KN k e).elim (cO k) (fun h=>Or.inr (Nat.le_trans M8.size (Nat.le_trans E.size h)));replace E:=E.step1 En ah.head;have XT:=fun q9 (h:(ah [((Value.slice PW (n1+(k5+1)) PX).ownBlock)]) q9)=>(HY q9 h).elim (ak q9) (fun h=>Or.inr (Nat.le_trans LW.size h));have XT:=fun q9 (h:(ah [((Value.slice PW (n1+(k5+1)) PX).ownBlock)]) q9)=>(HY q9 h).elim (bM q9) (fun h=>Or.inr (Nat.le_trans M6.size h));have XT:=fun q9 (h:(ah [((Value.slice PW (n1+(k5+1)) PX).ownBlock)]) q9)=>(HY q9 h).elim (ig q9) (fun h=>Or.inr (Nat.le_trans M8.size h));replace M8:=M8.step E ig;replace ig:=XT;replace E:=aB (ah [((Value.slice PW (n1+(k5+1)) PX).ownBlock)]) dW;clear HY;replace av:World.ownsRow dW base 5 1 (.slice PW (n1+(k5+1)) PX) (n1+(k5+1)) (x5++ [bV (d::R)[0+k5]]):=by
      have e:(x5:List Value)++([.int .u8 (((d::R)[0+k5].toNat:Nat):Int)]:List Value)=x5++ [bV (d::R)[0+k5]]:=rfl;rw[←e];exact On
     clear On KN En;refine jl ?_;refine yi 191 (.int .i64 ((k5+1:Nat):Int)) rfl (rfl) ?_;exact yk (k5+1,PW,PX,x5++ [bV (d::R)[0+k5]]) (by show M-(k5+1)<M-k5;omega) ⟨rfl,rfl,rfl,rfl,rfl,rfl,rfl,rfl,rfl,trivial⟩ ⟨M8.step E ig,(by exact av),cO,(by omega:k5+1≤M),by rw[hx5,drop_take hj,List.map_append,List.append_assoc];rfl⟩
    ·
     have q:=of_decide_eq_false q;have e5:k5=M:=om;refine qu ?_;refine zx ?_;refine yf ?_;refine zy 202 (.int .i64 ((K:Nat):Int)) rfl (by congr 1;omega) ?_;replace HF:=HF.on E;replace LW:=LW.step E ak;replace M6:=M6.step E bM;replace M8:=M8.step E ig;replace E:=aB (ah [((Value.slice A5 (n1+k5) c5).ownBlock)]) w9;refine qt (ι:=Nat×Option Addr×Nat×List Value) (fun (k6,A6,c6,x6)=>[(0,.slice A6 (n1+k5+k6) c6),(2,.slice (some ⟨ds,0,none⟩) 32 32),(3,.int .i64 dp),(4,.int .i64 ((R.length+1:Nat):Int)),(5,.int .i64 ((P:Nat):Int)),(203,.int .i64 ((k6:Nat):Int)),(202,.int .i64 ((K:Nat):Int))]) (fun (k6,A6,c6,x6) w'=>Ext (ah [((Value.slice A5 (n1+k5) c5).ownBlock)]) w9 w'∧World.ownsRow w' base 5 1 (.slice A6 (n1+k5+k6) c6) (n1+k5+k6) x6∧(∀q9,((Value.slice A6 (n1+k5+k6) c6).ownBlock)=some q9→((Value.slice A5 (n1+k5) c5).ownBlock)=some q9∨w9.heap.size≤q9)∧(k6≤K∧x6=x5++(List.replicate (k6) 48).map bV)) (fun (k6,A6,c6,x6)=>K-k6) (0,A5,c5,x5) ⟨rfl,rfl,rfl,rfl,rfl,rfl,rfl,trivial⟩ ⟨Ext.refl _ _,(by exact av),(fun _ e=>Or.inl e),Nat.zero_le _,(List.append_nil _).symm⟩ ?_;have bD:=(zr av);clear av;rintro ⟨k6,A6,c6,x6⟩ fu ⟨wG,av,dM,⟨hk6,hx6⟩⟩;have dR:bL (ah [((Value.slice A6 (n1+k5+k6) c6).ownBlock)]) (ah [((Value.slice A5 (n1+k5) c5).ownBlock)]) w9:=(ah.grow ah.none_ (fun k e=>(dM k e).elim (fun e=>Or.inl (ah.head k e)) Or.inr));replace E:=E.trans wG;replace HF:=HF.turn E dR;have fJ:=LW.size;have XT:=fun q9 (h:(ah [((Value.slice A6 (n1+k5+k6) c6).ownBlock)]) q9)=>(dR q9 h).elim (ak q9) (fun h=>Or.inr (Nat.le_trans LW.size h));replace LW:=LW.step E ak;replace ak:=XT;have ZM6:=M6.size;have XT:=fun q9 (h:(ah [((Value.slice A6 (n1+k5+k6) c6).ownBlock)]) q9)=>(dR q9 h).elim (bM q9) (fun h=>Or.inr (Nat.le_trans M6.size h));replace M6:=M6.step E bM;replace bM:=XT;have ZM8:=M8.size;have XT:=fun q9 (h:(ah [((Value.slice A6 (n1+k5+k6) c6).ownBlock)]) q9)=>(dR q9 h).elim (ig q9) (fun h=>Or.inr (Nat.le_trans M8.size h));replace M8:=M8.step E ig;replace ig:=XT;replace bJ:∀q9,((Value.slice A6 (n1+k5+k6) c6).ownBlock)=some q9→((Value.slice A1 n1 c1).ownBlock)=some q9∨w2.heap.size≤q9:=fun k e=>(dM k e).elim (bJ k) (fun h=>Or.inr (Nat.le_trans (by first | exact ZM6 | exact M6.size | omega) h));replace cO:∀q9,((Value.slice A6 (n1+k5+k6) c6).ownBlock)=some q9→((Value.slice A1 n1 c1).ownBlock)=some q9∨w2.heap.size≤q9:=fun k e=>(dM k e).elim (cO k) (fun h=>Or.inr (Nat.le_trans (by first | exact ZM8 | exact M8.size | omega) h));clear fJ;clear ZM6;clear ZM8;replace E:=aB (ah [((Value.slice A6 (n1+k5+k6) c6).ownBlock)]) fu;clear bD;refine zq ?_;refine zg rfl (fun q=>?_) (fun q=>?_)
     ·
      have q:=of_decide_eq_true q;refine zq ?_;refine Yr ?_;intro vW w16 Yv LU dQ;have dF:Apart (some vW) ((Value.slice A6 (n1+k5+k6) c6).ownBlock):=Apart.of_lt (zr av) dQ;have LV:=dF.symm;have dQ:_≤vW:=Nat.le_trans E.size dQ;have ag8:=Nat.le_trans LW.size dQ;replace av:=zk av LU aj.nil;replace E:=E.trans LU.no;replace HF:=HF.cons (zf dQ);replace E:=E.cons (some vW);replace ak:=ah.grow ak (fun k e=>Or.inr (Nat.le_trans LW.size ((zf dQ) k e)));replace bM:=ah.grow bM (fun k e=>Or.inr (Nat.le_trans M6.size ((zf dQ) k e)));replace ig:=ah.grow ig (fun k e=>Or.inr (Nat.le_trans M8.size ((zf dQ) k e)));replace dR:=ah.grow dR (fun k e=>Or.inr (Nat.le_trans wG.size ((zf dQ) k e)));replace HF:=HF.on E;replace LW:=LW.step E ak;replace M6:=M6.step E bM;replace M8:=M8.step E ig;replace wG:=wG.step E dR;have SB:∀q9,ah [((Value.slice A6 (n1+k5+k6) c6).ownBlock)] q9→ah [(some vW),((Value.slice A6 (n1+k5+k6) c6).ownBlock)] q9:=(ah.skip (ah.keep ah.aR));replace HF:=HF.less SB;replace ak:=fun k h=>ak k (SB k h);replace bM:=fun k h=>bM k (SB k h);replace ig:=fun k h=>ig k (SB k h);replace dR:=fun k h=>dR k (SB k h);clear SB;replace E:=aB (ah [((Value.slice A6 (n1+k5+k6) c6).ownBlock)]) w16;replace HF:=HF.and (Per.aQ Yv (aj.cons dF aj.nil));refine Yt ?_;intro v0 mV On En KN;obtain ⟨JY,JZ,rfl⟩:=zp On;replace KN:∀q9,((Value.slice JY (n1+k5+(k6+1)) JZ).ownBlock)=some q9→((Value.slice A6 (n1+k5+k6) c6).ownBlock)=some q9∨w16.heap.size≤q9:=KN;have HY:bL (ah [((Value.slice JY (n1+k5+(k6+1)) JZ).ownBlock)]) (ah [((Value.slice A6 (n1+k5+k6) c6).ownBlock)]) w16:=(ah.grow ah.none_ (fun k e=>(KN k e).elim (fun e=>Or.inl (ah.head k e)) (fun h=>Or.inr (Nat.le_trans E.size h))));replace bJ:∀q9,((Value.slice JY (n1+k5+(k6+1)) JZ).ownBlock)=some q9→((Value.slice A1 n1 c1).ownBlock)=some q9∨w2.heap.size≤q9:=fun k e=>(KN k e).elim (bJ k) (fun h=>Or.inr (Nat.le_trans M6.size (Nat.le_trans E.size h)));replace cO:∀q9,((Value.slice JY (n1+k5+(k6+1)) JZ).ownBlock)=some q9→((Value.slice A1 n1 c1).ownBlock)=some q9∨w2.heap.size≤q9:=fun k e=>(KN k e).elim (cO k) (fun h=>Or.inr (Nat.le_trans M8.size (Nat.le_trans E.size h)));replace dM:∀q9,((Value.slice JY (n1+k5+(k6+1)) JZ).ownBlock)=some q9→((Value.slice A5 (n1+k5) c5).ownBlock)=some q9∨w9.heap.size≤q9:=fun k e=>(KN k e).elim (dM k) (fun h=>Or.inr (Nat.le_trans wG.size (Nat.le_trans E.size h)));replace E:=E.step1 En ah.head;have XT:=fun q9 (h:(ah [((Value.slice JY (n1+k5+(k6+1)) JZ).ownBlock)]) q9)=>(HY q9 h).elim (ak q9) (fun h=>Or.inr (Nat.le_trans LW.size h));have XT:=fun q9 (h:(ah [((Value.slice JY (n1+k5+(k6+1)) JZ).ownBlock)]) q9)=>(HY q9 h).elim (bM q9) (fun h=>Or.inr (Nat.le_trans M6.size h));have XT:=fun q9 (h:(ah [((Value.slice JY (n1+k5+(k6+1)) JZ).ownBlock)]) q9)=>(HY q9 h).elim (ig q9) (fun h=>Or.inr (Nat.le_trans M8.size h));have XT:=fun q9 (h:(ah [((Value.slice JY (n1+k5+(k6+1)) JZ).ownBlock)]) q9)=>(HY q9 h).elim (dR q9) (fun h=>Or.inr (Nat.le_trans wG.size h));replace wG:=wG.step E dR;replace dR:=XT;replace E:=aB (ah [((Value.slice JY (n1+k5+(k6+1)) JZ).ownBlock)]) mV;clear HY;replace av:World.ownsRow mV base 5 1 (.slice JY (n1+k5+(k6+1)) JZ) (n1+k5+(k6+1)) (x6++ [bV 48]):=by
       have e:(x6:List Value)++([.int .u8 48]:List Value)=x6++ [bV 48]:=rfl;rw[←e];exact On
      clear On KN En;refine jl ?_;refine yi 203 (.int .i64 ((k6+1:Nat):Int)) rfl (rfl) ?_;exact yk (k6+1,JY,JZ,x6++ [bV 48]) (by show K-(k6+1)<K-k6;omega) ⟨rfl,rfl,rfl,rfl,rfl,rfl,rfl,trivial⟩ ⟨wG.step E dR,(by exact av),dM,(by omega:k6+1≤K),by rw[hx6,List.replicate_succ',List.map_append,List.append_assoc];rfl⟩
     ·
      have q:=of_decide_eq_false q;have e6:k6=K:=om;refine yf ?_;exact yy (A6,c6,n1+k5+k6,x6) ⟨rfl,rfl,rfl,rfl,rfl,trivial⟩ ⟨M6.step E bM,(by exact av),bJ,om,by rw[hx6,hx5,hx1,e5,e6,hI1];simp⟩
   ·
    have h1:=of_decide_eq_false h1;have hI1:I= [48]:=by rw[hI,Ho,if_neg h1]
    refine zo ?_;refine Yr ?_;intro wH EU wL kM gN;have wM:Apart (some wH) ((Value.slice A1 n1 c1).ownBlock):=Apart.of_lt (zr av) gN;have ah2:=wM.symm;have gN:_≤wH:=Nat.le_trans E.size gN;have aw0:=Nat.le_trans LW.size gN;replace av:=zk av kM aj.nil;replace E:=E.trans kM.no;replace HF:=HF.cons (zf gN);replace E:=E.cons (some wH);replace ak:=ah.grow ak (fun k e=>Or.inr (Nat.le_trans LW.size ((zf gN) k e)));replace bM:=ah.grow bM (fun k e=>Or.inr (Nat.le_trans M6.size ((zf gN) k e)));replace HF:=HF.on E;replace LW:=LW.step E ak;replace M6:=M6.step E bM;have SB:∀q9,ah [((Value.slice A1 n1 c1).ownBlock)] q9→ah [(some wH),((Value.slice A1 n1 c1).ownBlock)] q9:=(ah.skip (ah.keep ah.aR));replace HF:=HF.less SB;replace ak:=fun k h=>ak k (SB k h);replace bM:=fun k h=>bM k (SB k h);clear SB;replace E:=aB (ah [((Value.slice A1 n1 c1).ownBlock)]) EU;replace HF:=HF.and (Per.aQ wL (aj.cons wM aj.nil));refine Yt ?_;intro v0 JX On En KN;obtain ⟨A3,c3,rfl⟩:=zp On;replace KN:∀q9,((Value.slice A3 (n1+1) c3).ownBlock)=some q9→((Value.slice A1 n1 c1).ownBlock)=some q9∨EU.heap.size≤q9:=KN;have HY:bL (ah [((Value.slice A3 (n1+1) c3).ownBlock)]) (ah [((Value.slice A1 n1 c1).ownBlock)]) EU:=(ah.grow ah.none_ (fun k e=>(KN k e).elim (fun e=>Or.inl (ah.head k e)) (fun h=>Or.inr (Nat.le_trans E.size h))));replace bJ:∀q9,((Value.slice A3 (n1+1) c3).ownBlock)=some q9→((Value.slice A1 n1 c1).ownBlock)=some q9∨w2.heap.size≤q9:=fun k e=>(KN k e).elim (bJ k) (fun h=>Or.inr (Nat.le_trans M6.size (Nat.le_trans E.size h)));replace E:=E.step1 En ah.head;have XT:=fun q9 (h:(ah [((Value.slice A3 (n1+1) c3).ownBlock)]) q9)=>(HY q9 h).elim (ak q9) (fun h=>Or.inr (Nat.le_trans LW.size h));have XT:=fun q9 (h:(ah [((Value.slice A3 (n1+1) c3).ownBlock)]) q9)=>(HY q9 h).elim (bM q9) (fun h=>Or.inr (Nat.le_trans M6.size h));replace M6:=M6.step E bM;replace bM:=XT;replace E:=aB (ah [((Value.slice A3 (n1+1) c3).ownBlock)]) JX;clear HY;replace av:World.ownsRow JX base 5 1 (.slice A3 (n1+1) c3) (n1+1) (x1++ [bV 48]):=by
     have e:(x1:List Value)++([.int .u8 48]:List Value)=x1++ [bV 48]:=rfl;rw[←e];exact On
    clear On KN En;refine zo ?_;exact yy (A3,c3,n1+1,x1++ [bV 48]) ⟨rfl,rfl,rfl,rfl,rfl,trivial⟩ ⟨M6.step E bM,(by exact av),bJ,by rw[hn1,hI1];rfl,by rw[hx1,hI1];simp⟩
  ·
   have bD:=(zr av);clear av;rintro ⟨A4,c4,n4,x4⟩ w7 ⟨M6,av,bJ,⟨hn4,hx4⟩⟩;have bM:bL (ah [((Value.slice A4 n4 c4).ownBlock)]) (ah [((Value.slice A1 n1 c1).ownBlock)]) w2:=(ah.grow ah.none_ (fun k e=>(bJ k e).elim (fun e=>Or.inl (ah.head k e)) Or.inr));replace E:=E.trans M6;replace HF:=HF.turn E bM;have fJ:=LW.size;have XT:=fun q9 (h:(ah [((Value.slice A4 n4 c4).ownBlock)]) q9)=>(bM q9 h).elim (ak q9) (fun h=>Or.inr (Nat.le_trans LW.size h));replace LW:=LW.step E ak;replace ak:=XT;clear fJ;replace E:=aB (ah [((Value.slice A4 n4 c4).ownBlock)]) w7;clear bD;refine zn ?_;refine zg rfl (fun h2=>?_) (fun h2=>?_)
   ·
    have h2:=of_decide_eq_true h2;obtain ⟨L2,hL2⟩:∃L2,L2=R.length+1-O:=⟨_,rfl⟩;have hT1:vp neg++xp (d::R) dp=s++I++ [46]++List.replicate Z 48++((d::R).drop O).take L2:=by
     rw[hT,if_pos om,←hs,←hZ,←hO,List.take_of_length_le (by rw[List.length_drop,List.length_cons];omega)];simp
    have hT2:s.length+I.length+1+Z+L2=(vp neg++xp (d::R) dp).length:=by
     rw[hT1];simp only[List.length_append,List.length_replicate,List.length_take,List.length_drop,List.length_cons,List.length_nil];omega
    refine vS ?_;intro kN Vy kP mX dY;have wN:Apart (some kN) ((Value.slice A4 n4 c4).ownBlock):=Apart.of_lt (zr av) dY;have ah3:=wN.symm;have dY:_≤kN:=Nat.le_trans E.size dY;have aw1:=Nat.le_trans LW.size dY;replace av:=zk av mX aj.nil;replace E:=E.trans mX.no;replace HF:=HF.cons (zf dY);replace E:=E.cons (some kN);replace ak:=ah.grow ak (fun k e=>Or.inr (Nat.le_trans LW.size ((zf dY) k e)));obtain ⟨HF,LW,ak,E⟩:=dL HF LW E ak (Y:=ah [((Value.slice A4 n4 c4).ownBlock)]) (ah.skip (ah.keep ah.aR)) (Per.aQ kP (aj.cons wN aj.nil));refine vU ?_;intro v0 LZ On En KN;obtain ⟨A7,c7,rfl⟩:=zp On;replace KN:∀q9,((Value.slice A7 (n4+1) c7).ownBlock)=some q9→((Value.slice A4 n4 c4).ownBlock)=some q9∨Vy.heap.size≤q9:=KN;have HY:bL (ah [((Value.slice A7 (n4+1) c7).ownBlock)]) (ah [((Value.slice A4 n4 c4).ownBlock)]) Vy:=(ah.grow ah.none_ (fun k e=>(KN k e).elim (fun e=>Or.inl (ah.head k e)) (fun h=>Or.inr (Nat.le_trans E.size h))));replace E:=E.step1 En ah.head;replace HF:=HF.turn E HY;have XT:=fun q9 (h:(ah [((Value.slice A7 (n4+1) c7).ownBlock)]) q9)=>(HY q9 h).elim (ak q9) (fun h=>Or.inr (Nat.le_trans LW.size h));replace LW:=LW.step E ak;replace ak:=XT;replace E:=aB (ah [((Value.slice A7 (n4+1) c7).ownBlock)]) LZ;clear HY;replace av:World.ownsRow LZ base 5 1 (.slice A7 (n4+1) c7) (n4+1) (x4++ [bV 46]):=by
     have e:(x4:List Value)++([.int .u8 46]:List Value)=x4++ [bV 46]:=rfl;rw[←e];exact On
    clear On KN En;refine zn ?_;refine js ?_;refine za rfl (ysv rfl rfl (ze 220 (.int .i64 ((Z:Nat):Int)) rfl (by congr 1;split<;>omega) (za rfl (qH rfl rfl (ze 221 (.int .i64 ((Z:Nat):Int)) rfl (by congr 1;split<;>omega) (zn ?_))))));refine yc ?_;refine yf ?_;refine zy 27 (.int .i64 ((O:Nat):Int)) rfl (by congr 1;omega) (yl ?_);refine zx ?_;refine zo ?_;refine zx ?_;refine za rfl (ysv rfl rfl (ze 231 (.int .i64 ((L2:Nat):Int)) rfl (by congr 1;split<;>omega) (za rfl (qH rfl rfl (ze 232 (.int .i64 ((L2:Nat):Int)) rfl (by congr 1;split<;>omega) (zn ?_))))));refine zx ?_;refine aN ?_;refine zx ?_;refine za rfl (ysv rfl rfl (ze 238 (.int .i64 0) rfl (by congr 1;split<;>omega) (qa ?_)));replace HF:=HF.on E;replace LW:=LW.step E ak;replace E:=aB (ah [((Value.slice A7 (n4+1) c7).ownBlock)]) LZ;refine qt (ι:=Nat×Option Addr×Nat×List Value) (fun (k8,A8,c8,x8)=>[(0,.slice A8 (n4+1+k8) c8),(2,.slice (some ⟨ds,0,none⟩) 32 32),(27,.int .i64 ((O:Nat):Int)),(28,.int .i64 ((L2:Nat):Int)),(29,.int .i64 0),(240,.int .i64 ((k8:Nat):Int)),(239,.int .i64 ((Z:Nat):Int))]) (fun (k8,A8,c8,x8) w'=>Ext (ah [((Value.slice A7 (n4+1) c7).ownBlock)]) LZ w'∧World.ownsRow w' base 5 1 (.slice A8 (n4+1+k8) c8) (n4+1+k8) x8∧(∀q9,((Value.slice A8 (n4+1+k8) c8).ownBlock)=some q9→((Value.slice A7 (n4+1) c7).ownBlock)=some q9∨LZ.heap.size≤q9)∧(k8≤Z∧x8=(x4++ [bV 46])++(List.replicate (k8) 48).map bV)) (fun (k8,A8,c8,x8)=>Z-k8) (0,A7,c7,(x4++ [bV 46])) ⟨rfl,rfl,rfl,rfl,rfl,rfl,rfl,trivial⟩ ⟨Ext.refl _ _,(by exact av),(fun _ e=>Or.inl e),Nat.zero_le _,(List.append_nil _).symm⟩ ?_;have bD:=(zr av);clear av;rintro ⟨k8,A8,c8,x8⟩ PU ⟨mY,av,bR,⟨hk8,hx8⟩⟩;have bX:bL (ah [((Value.slice A8 (n4+1+k8) c8).ownBlock)]) (ah [((Value.slice A7 (n4+1) c7).ownBlock)]) LZ:=(ah.grow ah.none_ (fun k e=>(bR k e).elim (fun e=>Or.inl (ah.head k e)) Or.inr));replace E:=E.trans mY;replace HF:=HF.turn E bX;have fJ:=LW.size;have XT:=fun q9 (h:(ah [((Value.slice A8 (n4+1+k8) c8).ownBlock)]) q9)=>(bX q9 h).elim (ak q9) (fun h=>Or.inr (Nat.le_trans LW.size h));replace LW:=LW.step E ak;replace ak:=XT;clear fJ;replace E:=aB (ah [((Value.slice A8 (n4+1+k8) c8).ownBlock)]) PU;clear bD;refine zq ?_;refine zg rfl (fun q=>?_) (fun q=>?_)
    ·
     have q:=of_decide_eq_true q;refine zq ?_;refine Yr ?_;intro wm Vz Yw LX eH;have dG:Apart (some wm) ((Value.slice A8 (n4+1+k8) c8).ownBlock):=Apart.of_lt (zr av) eH;have LY:=dG.symm;have eH:_≤wm:=Nat.le_trans E.size eH;have agz:=Nat.le_trans LW.size eH;replace av:=zk av LX aj.nil;replace E:=E.trans LX.no;replace HF:=HF.cons (zf eH);replace E:=E.cons (some wm);replace ak:=ah.grow ak (fun k e=>Or.inr (Nat.le_trans LW.size ((zf eH) k e)));replace bX:=ah.grow bX (fun k e=>Or.inr (Nat.le_trans mY.size ((zf eH) k e)));replace HF:=HF.on E;replace LW:=LW.step E ak;replace mY:=mY.step E bX;have SB:∀q9,ah [((Value.slice A8 (n4+1+k8) c8).ownBlock)] q9→ah [(some wm),((Value.slice A8 (n4+1+k8) c8).ownBlock)] q9:=(ah.skip (ah.keep ah.aR));replace HF:=HF.less SB;replace ak:=fun k h=>ak k (SB k h);replace bX:=fun k h=>bX k (SB k h);clear SB;replace E:=aB (ah [((Value.slice A8 (n4+1+k8) c8).ownBlock)]) Vz;replace HF:=HF.and (Per.aQ Yw (aj.cons dG aj.nil));refine Yt ?_;intro v0 w28 On En KN;obtain ⟨VA,c28,rfl⟩:=zp On;replace KN:∀q9,((Value.slice VA (n4+1+(k8+1)) c28).ownBlock)=some q9→((Value.slice A8 (n4+1+k8) c8).ownBlock)=some q9∨Vz.heap.size≤q9:=KN;have HY:bL (ah [((Value.slice VA (n4+1+(k8+1)) c28).ownBlock)]) (ah [((Value.slice A8 (n4+1+k8) c8).ownBlock)]) Vz:=(ah.grow ah.none_ (fun k e=>(KN k e).elim (fun e=>Or.inl (ah.head k e)) (fun h=>Or.inr (Nat.le_trans E.size h))));replace bR:∀q9,((Value.slice VA (n4+1+(k8+1)) c28).ownBlock)=some q9→((Value.slice A7 (n4+1) c7).ownBlock)=some q9∨LZ.heap.size≤q9:=fun k e=>(KN k e).elim (bR k) (fun h=>Or.inr (Nat.le_trans mY.size (Nat.le_trans E.size h)));replace E:=E.step1 En ah.head;have XT:=fun q9 (h:(ah [((Value.slice VA (n4+1+(k8+1)) c28).ownBlock)]) q9)=>(HY q9 h).elim (ak q9) (fun h=>Or.inr (Nat.le_trans LW.size h));have XT:=fun q9 (h:(ah [((Value.slice VA (n4+1+(k8+1)) c28).ownBlock)]) q9)=>(HY q9 h).elim (bX q9) (fun h=>Or.inr (Nat.le_trans mY.size h));replace mY:=mY.step E bX;replace bX:=XT;replace E:=aB (ah [((Value.slice VA (n4+1+(k8+1)) c28).ownBlock)]) w28;clear HY;replace av:World.ownsRow w28 base 5 1 (.slice VA (n4+1+(k8+1)) c28) (n4+1+(k8+1)) (x8++ [bV 48]):=by
      have e:(x8:List Value)++([.int .u8 48]:List Value)=x8++ [bV 48]:=rfl;rw[←e];exact On
     clear On KN En;refine jl ?_;refine yi 240 (.int .i64 ((k8+1:Nat):Int)) rfl (rfl) ?_;exact yk (k8+1,VA,c28,x8++ [bV 48]) (by show Z-(k8+1)<Z-k8;omega) ⟨rfl,rfl,rfl,rfl,rfl,rfl,rfl,trivial⟩ ⟨mY.step E bX,(by exact av),bR,(by omega:k8+1≤Z),by rw[hx8,List.replicate_succ',List.map_append,List.append_assoc];rfl⟩
    ·
     have q:=of_decide_eq_false q;have e8:k8=Z:=om;refine kb ?_;replace HF:=HF.on E;replace LW:=LW.step E ak;replace mY:=mY.step E bX;replace E:=aB (ah [((Value.slice A8 (n4+1+k8) c8).ownBlock)]) PU;refine qt (ι:=Nat×Option Addr×Nat×List Value) (fun (k9,A9,c9,x9)=>[(0,.slice A9 (n4+1+k8+k9) c9),(2,.slice (some ⟨ds,0,none⟩) 32 32),(27,.int .i64 ((O:Nat):Int)),(29,.int .i64 0),(247,.int .i64 ((k9:Nat):Int)),(246,.int .i64 ((L2:Nat):Int))]) (fun (k9,A9,c9,x9) w'=>Ext (ah [((Value.slice A8 (n4+1+k8) c8).ownBlock)]) PU w'∧World.ownsRow w' base 5 1 (.slice A9 (n4+1+k8+k9) c9) (n4+1+k8+k9) x9∧(∀q9,((Value.slice A9 (n4+1+k8+k9) c9).ownBlock)=some q9→((Value.slice A8 (n4+1+k8) c8).ownBlock)=some q9∨PU.heap.size≤q9)∧(k9≤L2∧x9=x8++(((d::R).drop O).take (k9)).map bV)) (fun (k9,A9,c9,x9)=>L2-k9) (0,A8,c8,x8) ⟨rfl,rfl,rfl,rfl,rfl,rfl,trivial⟩ ⟨Ext.refl _ _,(by exact av),(fun _ e=>Or.inl e),Nat.zero_le _,(List.append_nil _).symm⟩ ?_;have bD:=(zr av);clear av;rintro ⟨k9,A9,c9,x9⟩ w30 ⟨Rp,av,eO,⟨hk9,hx9⟩⟩;have gP:bL (ah [((Value.slice A9 (n4+1+k8+k9) c9).ownBlock)]) (ah [((Value.slice A8 (n4+1+k8) c8).ownBlock)]) PU:=(ah.grow ah.none_ (fun k e=>(eO k e).elim (fun e=>Or.inl (ah.head k e)) Or.inr));replace E:=E.trans Rp;replace HF:=HF.turn E gP;have fJ:=LW.size;have XT:=fun q9 (h:(ah [((Value.slice A9 (n4+1+k8+k9) c9).ownBlock)]) q9)=>(gP q9 h).elim (ak q9) (fun h=>Or.inr (Nat.le_trans LW.size h));replace LW:=LW.step E ak;replace ak:=XT;have ah4:=mY.size;have XT:=fun q9 (h:(ah [((Value.slice A9 (n4+1+k8+k9) c9).ownBlock)]) q9)=>(gP q9 h).elim (bX q9) (fun h=>Or.inr (Nat.le_trans mY.size h));replace mY:=mY.step E bX;replace bX:=XT;replace bR:∀q9,((Value.slice A9 (n4+1+k8+k9) c9).ownBlock)=some q9→((Value.slice A7 (n4+1) c7).ownBlock)=some q9∨LZ.heap.size≤q9:=fun k e=>(eO k e).elim (bR k) (fun h=>Or.inr (Nat.le_trans (by first | exact ah4 | exact mY.size | omega) h));clear fJ;clear ah4;replace E:=aB (ah [((Value.slice A9 (n4+1+k8+k9) c9).ownBlock)]) w30;clear bD;refine zq ?_;refine zg rfl (fun q=>?_) (fun q=>?_)
     ·
      have q:=of_decide_eq_true q;have hj0:O+k9<R.length+1:=om;have hj:O+k9<(d::R).length:=by rw[List.length_cons];exact hj0
      refine oe ?_;refine yc ?_;refine za rfl (ou (j:=O+k9) u46 dw rfl rfl om om (za rfl (jm underlying5 rfl rfl ((HF.on E).here.1.2 (O+k9) hj) (za rfl (zv (cs:=#[.int .u8 (((d::R)[O+k9].toNat:Nat):Int)]) u46 dw mI de rfl (by rw[ym];rfl) ?_)))));intro Rq w32 ar7 ah5 wO;have wP:Apart (some Rq) ((Value.slice A9 (n4+1+k8+k9) c9).ownBlock):=Apart.of_lt (zr av) wO;have ah6:=wP.symm;have wO:_≤Rq:=Nat.le_trans E.size wO;have aw2:=Nat.le_trans LW.size wO;replace av:=zk av ah5 aj.nil;replace E:=E.trans ah5.no;replace HF:=HF.cons (zf wO);replace E:=E.cons (some Rq);replace ak:=ah.grow ak (fun k e=>Or.inr (Nat.le_trans LW.size ((zf wO) k e)));replace bX:=ah.grow bX (fun k e=>Or.inr (Nat.le_trans mY.size ((zf wO) k e)));replace gP:=ah.grow gP (fun k e=>Or.inr (Nat.le_trans Rp.size ((zf wO) k e)));replace HF:=HF.on E;replace LW:=LW.step E ak;replace mY:=mY.step E bX;replace Rp:=Rp.step E gP;have SB:∀q9,ah [((Value.slice A9 (n4+1+k8+k9) c9).ownBlock)] q9→ah [(some Rq),((Value.slice A9 (n4+1+k8+k9) c9).ownBlock)] q9:=(ah.skip (ah.keep ah.aR));replace HF:=HF.less SB;replace ak:=fun k h=>ak k (SB k h);replace bX:=fun k h=>bX k (SB k h);replace gP:=fun k h=>gP k (SB k h);clear SB;replace E:=aB (ah [((Value.slice A9 (n4+1+k8+k9) c9).ownBlock)]) w32;replace HF:=HF.and (Per.aQ ar7 (aj.cons wP aj.nil));refine za rfl (qe (news:=[.int .u8 (((d::R)[O+k9].toNat:Nat):Int)]) u46 iV rfl de rfl av rfl (qq (HF.on E).here.2 ((HF.on E).here.2).lt rfl) (by simp[Value.oneCell']) (by unfold maxLen;omega) om (by exact Nat.le_trans HB (Nat.le_trans LW.size E.size)) ?_);intro v0 w33 On En KN;obtain ⟨PY,PZ,rfl⟩:=zp On;replace KN:∀q9,((Value.slice PY (n4+1+k8+(k9+1)) PZ).ownBlock)=some q9→((Value.slice A9 (n4+1+k8+k9) c9).ownBlock)=some q9∨w32.heap.size≤q9:=KN;have HY:bL (ah [((Value.slice PY (n4+1+k8+(k9+1)) PZ).ownBlock)]) (ah [((Value.slice A9 (n4+1+k8+k9) c9).ownBlock)]) w32:=(ah.grow ah.none_ (fun k e=>(KN k e).elim (fun e=>Or.inl (ah.head k e)) (fun h=>Or.inr (Nat.le_trans E.size h))));replace bR:∀q9,((Value.slice PY (n4+1+k8+(k9+1)) PZ).ownBlock)=some q9→((Value.slice A7 (n4+1) c7).ownBlock)=some q9∨LZ.heap.size≤q9:=fun k e=>(KN k e).elim (bR k) (fun h=>Or.inr (Nat.le_trans mY.size (Nat.le_trans E.size h)));replace eO:∀q9,((Value.slice PY (n4+1+k8+(k9+1)) PZ).ownBlock)=some q9→((Value.slice A8 (n4+1+k8) c8).ownBlock)=some q9∨PU.heap.size≤q9:=fun k e=>(KN k e).elim (eO k) (fun h=>Or.inr (Nat.le_trans Rp.size (Nat.le_trans E.size h)));replace E:=E.step1 En ah.head;have XT:=fun q9 (h:(ah [((Value.slice PY (n4+1+k8+(k9+1)) PZ).ownBlock)]) q9)=>(HY q9 h).elim (ak q9) (fun h=>Or.inr (Nat.le_trans LW.size h));have XT:=fun q9 (h:(ah [((Value.slice PY (n4+1+k8+(k9+1)) PZ).ownBlock)]) q9)=>(HY q9 h).elim (bX q9) (fun h=>Or.inr (Nat.le_trans mY.size h));have XT:=fun q9 (h:(ah [((Value.slice PY (n4+1+k8+(k9+1)) PZ).ownBlock)]) q9)=>(HY q9 h).elim (gP q9) (fun h=>Or.inr (Nat.le_trans Rp.size h));replace Rp:=Rp.step E gP;replace gP:=XT;replace E:=aB (ah [((Value.slice PY (n4+1+k8+(k9+1)) PZ).ownBlock)]) w33;clear HY;replace av:World.ownsRow w33 base 5 1 (.slice PY (n4+1+k8+(k9+1)) PZ) (n4+1+k8+(k9+1)) (x9++ [bV (d::R)[O+k9]]):=by
       have e:(x9:List Value)++([.int .u8 (((d::R)[O+k9].toNat:Nat):Int)]:List Value)=x9++ [bV (d::R)[O+k9]]:=rfl;rw[←e];exact On
      clear On KN En;refine jl ?_;refine yi 247 (.int .i64 ((k9+1:Nat):Int)) rfl (rfl) ?_;exact yk (k9+1,PY,PZ,x9++ [bV (d::R)[O+k9]]) (by show L2-(k9+1)<L2-k9;omega) ⟨rfl,rfl,rfl,rfl,rfl,rfl,trivial⟩ ⟨Rp.step E gP,(by exact av),eO,(by omega:k9+1≤L2),by rw[hx9,drop_take hj,List.map_append,List.append_assoc];rfl⟩
     ·
      have q:=of_decide_eq_false q;have e9:k9=L2:=om;have hn9:n4+1+k8+k9=(vp neg++xp (d::R) dp).length:=by rw[←hT2];omega
      have hx99:x9=(vp neg++xp (d::R) dp).map bV:=by rw[hx9,hx8,hx4,e8,e9,hT1];simp
      refine vc ?_;refine znz (Vb ?_);exact LG
   ·
    have h2:=of_decide_eq_false h2;have hT1:vp neg++xp (d::R) dp=s++I:=by rw[hT,if_neg om,←hs,List.append_nil]
    have hn9:n4=(vp neg++xp (d::R) dp).length:=by rw[hT1,List.length_append,hn4]
    have hx99:x4=(vp neg++xp (d::R) dp).map bV:=by rw[hT1,hx4]
    refine vc ?_;exact LG
end
end Go.Proofs.YtdofcnodhgaedaaGreatDoor
namespace Go.Proofs.YtdofcnodhgaedaaGreatDoor
open Go.RowKit Proofs.Tryz
theorem wQ {P Q:Prop} (k:Q) (h:(Unit→Q)→P:=by
 intro zK;refine yf ?_;refine yc ?_;refine ae5 ?_;refine zy 112 (.bool (decide (vv b=0))) rfl (by rw[Q9]<;>rfl) ?_;exact zK ()):P:=h fun _=>k
theorem wR {P Q:Prop} (k:Q) (h:(Unit→Q)→P:=by
 intro zK;refine zx ?_;refine ze 22 (.int .i64 (dx b)) rfl (by rw[dx]<;>rfl) (ze 23 (.int .i64 ((R.length+1:Nat):Int)) rfl (by rw[hnd]<;>rfl) ?_);exact zK ()):P:=h fun _=>k
theorem wS {P Q:Prop} (k:Q) (h:(Unit→Q)→P:=by
 intro zK;refine zx ?_;refine zn ?_;refine ze 126 (.int .i64 ((fZ b:Nat):Int)) rfl (by congr 1;omega) (ze 17 (.int .i64 ((fZ b:Nat):Int)) rfl (by congr 1;omega) (Ma ?_));exact zK ()):P:=h fun _=>k
theorem wT {P Q:Prop} (k:Q) (h:(Unit→Q)→P:=by
 intro zK;refine jz (τ:=[(0,_),(2,_),(3,_),(8,_),(9,_),(10,_),(11,_),(12,_),(13,_),(14,.int .i64 ((jf b:Nat):Int))]) ⟨rfl,rfl,rfl,rfl,rfl,rfl,rfl,rfl,rfl,congrArg some e8,trivial⟩ ?_;exact zK ()):P:=h fun _=>k
theorem wU {P Q:Prop} (k:Q) (h:(Unit→Q)→P:=by
 intro zK;refine zq ?_;refine za rfl (vq (z:=(-1)) rfl rfl kr (ae4 ?_));refine za rfl (zv (cs:=#[.int .u8 43]) u46 dw mI de rfl (by rw[ym];rfl) ?_);exact zK ()):P:=h fun _=>k
theorem wV {P Q:Prop} (k:Q) (h:(Unit→Q)→P:=by
 intro zK;refine ze 144 (.int .i64 (((Lib.decDigits (ki b)).length:Nat):Int)) rfl (by rw[Lib.decDigits_length]<;>rfl) (za rfl (zc ad7 rfl ((Yq _ fA (ki b) (fQ b) d1 d2 (by have:=(Cn hz he).q;unfold fQ;omega) gD).mono ?_)));exact zK ()):P:=h fun _=>k
theorem wW {P Q:Prop} (k:Q) (h:(Unit→Q)→P:=by
 intro zK;refine za rfl (qe (news:=[.int .u8 45]) u46 iV rfl de rfl av rfl (qq (HF.on E).here.2 ((HF.on E).here.2).lt rfl) (by simp[Value.oneCell']) (by unfold maxLen;omega) om (by exact Nat.le_trans HB (Nat.le_trans LW.size E.size)) ?_);exact zK ()):P:=h fun _=>k
theorem wX {P Q:Prop} (k:Q) (h:(Unit→Q)→P:=by
 intro zK;refine za rfl (qe (news:=[.int .u8 43]) u46 iV rfl de rfl av rfl (qq (HF.on E).here.2 ((HF.on E).here.2).lt rfl) (by simp[Value.oneCell']) (by unfold maxLen;omega) om (by exact Nat.le_trans HB (Nat.le_trans LW.size E.size)) ?_);exact zK ()):P:=h fun _=>k
theorem wY {P Q:Prop} (k:Q) (h:(Unit→Q)→P:=by
 intro zK;refine za rfl (qe (news:=[.int .u8 48,.int .u8 48]) u46 iV rfl de rfl av rfl (qq (HF.on E).here.2 ((HF.on E).here.2).lt rfl) (by simp[Value.oneCell']) (by unfold maxLen;omega) om (by exact Nat.le_trans HB (Nat.le_trans LW.size E.size)) ?_);exact zK ()):P:=h fun _=>k
theorem wZ {P Q:Prop} (k:Q) (h:(Unit→Q)→P:=by
 intro zK;refine od ?_;refine za rfl (jd (z:=0) underlying5 underlying3 rfl kr (za rfl (vu (z:=48) rfl rfl kr (za rfl (zv (cs:=#[.int .u8 48,.int .u8 48]) u46 dw mI de rfl (by rw[ym];rfl) ?_)))));exact zK ()):P:=h fun _=>k
theorem xA {P Q:Prop} (k:Q) (h:(Unit→Q)→P:=by
 intro zK;refine Ve ?_;refine za rfl (Et ae9 rfl (jC ?_));refine za rfl (vu (z:=63) rfl rfl kr (za rfl (va rfl rfl de (jp _ 63 de) (ya ?_))));refine zy 13 (.bool n) rfl (by rw[hn,ah7];congr 1;exact decide_eq_decide.2 om) ?_;exact zK ()):P:=h fun _=>k
theorem xB {P Q:Prop} (k:Q) (h:(Unit→Q)→P:=by
 intro zK;refine jz (τ:=[(0,_),(2,_),(3,_),(11,_),(13,_),(14,_),(15,_),(16,_),(140,.slice (some ⟨fA,0,none⟩) 32 32),(141,.int .u64 ((ki b:Nat):Int)),(142,.int .i64 (fQ b)),(144,.int .i64 ((Lib.nDigits (ki b):Nat):Int))]) ⟨rfl,rfl,rfl,rfl,rfl,rfl,rfl,rfl,congrArg some e0,congrArg some e1,congrArg some e2,congrArg some e4,trivial⟩ ?_;exact zK ()):P:=h fun _=>k
theorem xC {P Q:Prop} (k:Q) (h:(Unit→Q)→P:=by
 intro zK;refine za rfl (gl (z:=4503599627370496) rfl rfl de kr (za rfl (vq (z:=4503599627370495) rfl rfl kr (za rfl (gm rfl rfl (jR hb) (yu ?_))))));refine za rfl (gl (z:=2048) rfl rfl de kr (za rfl (vq (z:=2047) rfl rfl kr (yl ?_))));refine yn 67 rfl (by rw[beq_eq_false_iff_ne.2 om]<;>rfl) ?_;exact zK ()):P:=h fun _=>k
theorem Ma {P Q:Prop} (k:Q) (h:(Unit→Q)→P:=by
 intro zK;refine za rfl (gl rfl rfl om (Ye (vv b) (fZ b) om) (ze 127 (.int .u64 ((fM b:Nat):Int)) rfl (by rw[fM,Nat.mod_eq_of_lt (by have:=qy (fZ b);rw[hZ] at this ⊢;omega)]) (zn ?_)));refine zx ?_;refine yu ?_;refine zx ?_;refine ze 135 (.int .i64 (fX b-((fZ b:Nat):Int))) rfl (by congr 1;omega) (za rfl (zc ad8 rfl ((Lr _ (fM b) (fX b-((fZ b:Nat):Int)) (fX b) (fZ b) (Cn hz he) (HF.on E).here.1.2).mono ?_)));exact zK ()):P:=h fun _=>k
theorem VB {P:Prop} (h:P:=by
 clear On KN En;refine zq ?_;exact by rw[hR];exact ⟨_,_,rfl,av,(LW.step E ak),vR ak⟩):P:=h
theorem VD {P:Prop} (h:P:=by
 have e:(([]):List Value)++([.int .u8 48]:List Value)= [.int .u8 48]:=rfl;rw[←e];exact On):P:=h
theorem VE {P:Prop} (h:P:=by
 have e:(([.int .u8 45]):List Value)++([.int .u8 48]:List Value)= [.int .u8 45,.int .u8 48]:=rfl;rw[←e];exact On):P:=h
theorem VF {P:Prop} (h:P:=by
 have h:=congrArg List.length VG;unfold vj at h;rw[List.length_take,List.length_cons,Nat.min_eq_left (Cj _ _)] at h;exact h):P:=h
theorem Fe {P:Prop} (h:P:=by
 exact ⟨_,_,rfl,av,(LW.step E ak),vR ak⟩):P:=h
theorem Fg {P:Prop} (h:P:=by
 clear On KN En;refine zq ?_;exact by rw[hR,hs];exact ⟨_,_,rfl,av,(LW.step E ak),vR ak⟩):P:=h
theorem VH {P:Prop} (h:P:=by
 refine ⟨?_,arm,arm,arm,?_,trivial⟩
 · intro vs X wq K;exact zwx XA dw rfl ⟨Below.refl _ _,Left.of rfl⟩
 · refine yt ?_;intro vs X wq K;have LE:=K.1;refine zc U0 rfl ((yox (ki b) d1 om _ (HF.on (E.drew.trans (LE.mono OY))).here.2).mono ?_);exact fV):P:=h
theorem VI {P:Prop} (h:P:=by
 refine ⟨arm,arm,?_,?_,arm,?_,?_,?_,arm,trivial⟩
 · refine yt ?_;intro vs X wq K;exact va rfl rfl de (jp _ 52 de) ⟨Below.refl _ _,Left.of rfl⟩
 · refine yt ?_;intro vs X wq K;exact jd underlying3 u25 rfl (yj om) ⟨Below.refl _ _,Left.of rfl⟩
 · refine yt ?_;intro vs X wq K;exact gl (z:=2048) rfl rfl de kr ⟨Below.refl _ _,Left.of rfl⟩
 · refine yt ?_;intro vs X wq K;exact vq (z:=2047) rfl rfl kr ⟨Below.refl _ _,Left.of rfl⟩
 · refine yt ?_;intro vs X wq K;exact gm rfl rfl (Rs hb) ⟨Below.refl _ _,Left.of rfl⟩):P:=h
theorem ah8 {P:Prop} (h:P:=by
 have M2:=aB (ah [((Value.slice A 0 c).ownBlock)]) w1;have PO:=aP (ah [((Value.slice A 0 c).ownBlock)]) w1;have fK:∀q9,((Value.slice A 0 c).ownBlock)=some q9→((Value.slice A 0 c).ownBlock)=some q9∨w1.heap.size≤q9:=fun _ e=>Or.inl e;by_cases h0:jf b=0
 ·
  refine qk 78 rfl (by rw[h0];rfl) (yl ?_);refine za rfl (vu rfl rfl (yj om) (zo ?_));refine yi 14 (.int .i64 ((E1:Nat):Int)) rfl ((by congr 1;rw[hE1,if_pos h0,h0];rfl:(.int .i64 (((jf b:Nat):Int)+1):Value)=_)) (yi 15 (.int .u64 ((vv b:Nat):Int)) rfl ((by rw[vv,if_pos h0]:(.int .u64 ((b%4503599627370496:Nat):Int):Value)=_)) ?_);exact yy () ⟨rfl,rfl,rfl,rfl,rfl,rfl,rfl,rfl,trivial⟩ ⟨M2.step E PO,(by exact av),fK,trivial⟩
 ·
  refine yn 78 rfl (by rw[beq_eq_false_iff_ne.2 om]<;>rfl) (yf ?_);refine za rfl (gl (z:=4503599627370496) rfl rfl de kr (za rfl (Uz rfl rfl (Vh (n:=4503599627370496) om de) (zo ?_))));refine yi 14 (.int .i64 ((E1:Nat):Int)) rfl ((by congr 1;rw[hE1,if_neg h0]:(.int .i64 ((jf b:Nat):Int):Value)=_)) (yi 15 (.int .u64 ((vv b:Nat):Int)) rfl ((by rw[vv,if_neg h0,Yy (Nat.mod_lt _ de)]:(.int .u64 ((b%4503599627370496 ||| 4503599627370496:Nat):Int):Value)=_)) ?_);exact yy () ⟨rfl,rfl,rfl,rfl,rfl,rfl,rfl,rfl,trivial⟩ ⟨M2.step E PO,(by exact av),fK,trivial⟩):P:=h
theorem Yz {x y:Nat} (hx:x<9223372036854775808) (hy:y<9223372036854775808):IntKind.i64.wrap (BitVec.ofInt IntKind.i64.bits (x:Int) &&& BitVec.ofInt IntKind.i64.bits (y:Int)).toNat=((x &&& y:Nat):Int):=by
 show IntKind.i64.wrap (((BitVec.ofInt 64 (x:Int) &&& BitVec.ofInt 64 (y:Int)).toNat:Nat):Int)=_
 rw[BitVec.toNat_and,gr x om,gr y om];have:x &&& y≤x:=Nat.and_le_left;exact yj om
theorem Rs {b:Nat} (hb:b<18446744073709551616):IntKind.i64.wrap (BitVec.ofInt IntKind.i64.bits ((b/2^52:Nat):Int) &&& BitVec.ofInt IntKind.i64.bits 2047).toNat=((jf b:Nat):Int):=by
 rw[jf,show b/4503599627370496%2048=b/2^52 &&& 2047 from (Nat.and_two_pow_sub_one_eq_mod (b/2^52) 11).symm];exact Yz (y:=2047) om de
theorem Yy {a:Nat} (h:a<4503599627370496):a ||| 4503599627370496=a+4503599627370496:=by
 have:=Nat.two_pow_add_eq_or_of_lt (i:=52) h 1;rw[Nat.or_comm,Nat.add_comm];exact this.symm
theorem ah7 (m:Nat):(((m:Nat):Int) !=0)=decide (m≠0):=EP m 0
def ky (b:Nat):List UInt8:=vp (decide (9223372036854775808≤b))++(if vv b=0 then [48,101,43,48,48] else ot (vj b) (dx b))
def kx (b:Nat):List UInt8:=vp (decide (9223372036854775808≤b))++(if vv b=0 then [48] else xp (vj b) (dx b))
attribute [local irreducible] OW RS CW EW
section
variable (w:World) (base:Nat) (A:Option Addr) (c:Nat) (HB:base≤w.heap.size) (ho:w.ownsRow base 5 1 (.slice A 0 c) 0 [])
include HB ho
theorem YA:Calls prog 175 #[.slice A 0 c,.bool false,.slice none 0 0,.int .i64 0,.int .i64 0,.int .i64 (-1),.int .u8 101,.bool true] w (Vw w base (Value.slice A 0 c).ownBlock 5 [.int .u8 48,.int .u8 101,.int .u8 43,.int .u8 48,.int .u8 48]):=by
 refine zd func175 rfl ntmps175 rfl ?_;have av:World.ownsRow w base 5 1 (.slice A 0 c) 0 ([]):=ho;have HF:Per (ah [((Value.slice A 0 c).ownBlock)]) w (fun _=>True):=Per.dS;have LW:=aB (ah [((Value.slice A 0 c).ownBlock)]) w;have ak:=aP (ah [((Value.slice A 0 c).ownBlock)]) w;have E:=aB (ah [((Value.slice A 0 c).ownBlock)]) w;refine Vf ?_;refine ae2 ?_;refine Yr ?_;intro aK w2 aM kE bT;have bK:Apart (some aK) ((Value.slice A 0 c).ownBlock):=Apart.of_lt (zr av) bT;have rU:=bK.symm;have bT:_≤aK:=Nat.le_trans E.size bT;have Hf:=Nat.le_trans LW.size bT;replace av:=zk av kE aj.nil;replace E:=E.trans kE.no;replace HF:=HF.cons (zf bT);replace E:=E.cons (some aK);replace ak:=ah.grow ak (fun k e=>Or.inr (Nat.le_trans LW.size ((zf bT) k e)));obtain ⟨HF,LW,ak,E⟩:=dL HF LW E ak (Y:=ah [((Value.slice A 0 c).ownBlock)]) (ah.skip (ah.keep ah.aR)) (Per.aQ aM (aj.cons bK aj.nil));refine Yt ?_;intro v0 w4 On En KN;obtain ⟨dI,dJ,rfl⟩:=zp On;replace KN:∀q9,((Value.slice dI 1 dJ).ownBlock)=some q9→((Value.slice A 0 c).ownBlock)=some q9∨w2.heap.size≤q9:=KN;have HY:bL (ah [((Value.slice dI 1 dJ).ownBlock)]) (ah [((Value.slice A 0 c).ownBlock)]) w2:=(ah.grow ah.none_ (fun k e=>(KN k e).elim (fun e=>Or.inl (ah.head k e)) (fun h=>Or.inr (Nat.le_trans E.size h))));replace E:=E.step1 En ah.head;replace HF:=HF.turn E HY;have XT:=fun q9 (h:(ah [((Value.slice dI 1 dJ).ownBlock)]) q9)=>(HY q9 h).elim (ak q9) (fun h=>Or.inr (Nat.le_trans LW.size h));replace LW:=LW.step E ak;replace ak:=XT;replace E:=aB (ah [((Value.slice dI 1 dJ).ownBlock)]) w4;clear HY;replace av:World.ownsRow w4 base 5 1 (.slice dI 1 dJ) 1 ([.int .u8 48]):=by
  exact VD
 clear On KN En;refine KQ ?_;refine kG ?_;intro bC w6 aS dU cB;have bS:Apart (some bC) ((Value.slice dI 1 dJ).ownBlock):=Apart.of_lt (zr av) cB;have Fh:=bS.symm;have cB:_≤bC:=Nat.le_trans E.size cB;have Rt:=Nat.le_trans LW.size cB;replace av:=zk av dU aj.nil;replace E:=E.trans dU.no;replace HF:=HF.cons (zf cB);replace E:=E.cons (some bC);replace ak:=ah.grow ak (fun k e=>Or.inr (Nat.le_trans LW.size ((zf cB) k e)));obtain ⟨HF,LW,ak,E⟩:=dL HF LW E ak (Y:=ah [((Value.slice dI 1 dJ).ownBlock)]) (ah.skip (ah.keep ah.aR)) (Per.aQ aS (aj.cons bS aj.nil));refine kI ?_;intro v0 w8 On En KN;obtain ⟨gQ,gT,rfl⟩:=zp On;replace KN:∀q9,((Value.slice gQ 2 gT).ownBlock)=some q9→((Value.slice dI 1 dJ).ownBlock)=some q9∨w6.heap.size≤q9:=KN;have HY:bL (ah [((Value.slice gQ 2 gT).ownBlock)]) (ah [((Value.slice dI 1 dJ).ownBlock)]) w6:=(ah.grow ah.none_ (fun k e=>(KN k e).elim (fun e=>Or.inl (ah.head k e)) (fun h=>Or.inr (Nat.le_trans E.size h))));replace E:=E.step1 En ah.head;replace HF:=HF.turn E HY;have XT:=fun q9 (h:(ah [((Value.slice gQ 2 gT).ownBlock)]) q9)=>(HY q9 h).elim (ak q9) (fun h=>Or.inr (Nat.le_trans LW.size h));replace LW:=LW.step E ak;replace ak:=XT;replace E:=aB (ah [((Value.slice gQ 2 gT).ownBlock)]) w8;clear HY;replace av:World.ownsRow w8 base 5 1 (.slice gQ 2 gT) 2 ([.int .u8 48,.int .u8 101]):=by
  have e:(([.int .u8 48]):List Value)++([.int .u8 101]:List Value)= [.int .u8 48,.int .u8 101]:=rfl;rw[←e];exact On
 clear On KN En;refine wU ?_;intro YB oD Bb9 Eb9 Hr;have eP:Apart (some YB) ((Value.slice gQ 2 gT).ownBlock):=Apart.of_lt (zr av) Hr;have Ru:=eP.symm;have Hr:_≤YB:=Nat.le_trans E.size Hr;have ar8:=Nat.le_trans LW.size Hr;replace av:=zk av Eb9 aj.nil;replace E:=E.trans Eb9.no;replace HF:=HF.cons (zf Hr);replace E:=E.cons (some YB);replace ak:=ah.grow ak (fun k e=>Or.inr (Nat.le_trans LW.size ((zf Hr) k e)));obtain ⟨HF,LW,ak,E⟩:=dL HF LW E ak (Y:=ah [((Value.slice gQ 2 gT).ownBlock)]) (ah.skip (ah.keep ah.aR)) (Per.aQ Bb9 (aj.cons eP aj.nil));refine wX ?_;intro v0 dW On En KN;obtain ⟨cZ,dh,rfl⟩:=zp On;replace KN:∀q9,((Value.slice cZ 3 dh).ownBlock)=some q9→((Value.slice gQ 2 gT).ownBlock)=some q9∨oD.heap.size≤q9:=KN;have HY:bL (ah [((Value.slice cZ 3 dh).ownBlock)]) (ah [((Value.slice gQ 2 gT).ownBlock)]) oD:=(ah.grow ah.none_ (fun k e=>(KN k e).elim (fun e=>Or.inl (ah.head k e)) (fun h=>Or.inr (Nat.le_trans E.size h))));replace E:=E.step1 En ah.head;replace HF:=HF.turn E HY;have XT:=fun q9 (h:(ah [((Value.slice cZ 3 dh).ownBlock)]) q9)=>(HY q9 h).elim (ak q9) (fun h=>Or.inr (Nat.le_trans LW.size h));replace LW:=LW.step E ak;replace ak:=XT;replace E:=aB (ah [((Value.slice cZ 3 dh).ownBlock)]) dW;clear HY;replace av:World.ownsRow dW base 5 1 (.slice cZ 3 dh) 3 ([.int .u8 48,.int .u8 101,.int .u8 43]):=by
  have e:(([.int .u8 48,.int .u8 101]):List Value)++([.int .u8 43]:List Value)= [.int .u8 48,.int .u8 101,.int .u8 43]:=rfl;rw[←e];exact On
 clear On KN En;refine wZ ?_;intro rV fu YC Mc fO;have dK:Apart (some rV) ((Value.slice cZ 3 dh).ownBlock):=Apart.of_lt (zr av) fO;have Md:=dK.symm;have fO:_≤rV:=Nat.le_trans E.size fO;have ah9:=Nat.le_trans LW.size fO;replace av:=zk av Mc aj.nil;replace E:=E.trans Mc.no;replace HF:=HF.cons (zf fO);replace E:=E.cons (some rV);replace ak:=ah.grow ak (fun k e=>Or.inr (Nat.le_trans LW.size ((zf fO) k e)));obtain ⟨HF,LW,ak,E⟩:=dL HF LW E ak (Y:=ah [((Value.slice cZ 3 dh).ownBlock)]) (ah.skip (ah.keep ah.aR)) (Per.aQ YC (aj.cons dK aj.nil));refine wY ?_;intro v0 w16 On En KN;obtain ⟨dZ,d9,rfl⟩:=zp On;replace KN:∀q9,((Value.slice dZ 5 d9).ownBlock)=some q9→((Value.slice cZ 3 dh).ownBlock)=some q9∨fu.heap.size≤q9:=KN;have HY:bL (ah [((Value.slice dZ 5 d9).ownBlock)]) (ah [((Value.slice cZ 3 dh).ownBlock)]) fu:=(ah.grow ah.none_ (fun k e=>(KN k e).elim (fun e=>Or.inl (ah.head k e)) (fun h=>Or.inr (Nat.le_trans E.size h))));replace E:=E.step1 En ah.head;have XT:=fun q9 (h:(ah [((Value.slice dZ 5 d9).ownBlock)]) q9)=>(HY q9 h).elim (ak q9) (fun h=>Or.inr (Nat.le_trans LW.size h));replace LW:=LW.step E ak;replace ak:=XT;replace E:=aB (ah [((Value.slice dZ 5 d9).ownBlock)]) w16;clear HY;replace av:World.ownsRow w16 base 5 1 (.slice dZ 5 d9) 5 ([.int .u8 48,.int .u8 101,.int .u8 43,.int .u8 48,.int .u8 48]):=by
  have e:(([.int .u8 48,.int .u8 101,.int .u8 43]):List Value)++([.int .u8 48,.int .u8 48]:List Value)= [.int .u8 48,.int .u8 101,.int .u8 43,.int .u8 48,.int .u8 48]:=rfl;rw[←e];exact On
 clear On KN En;refine uP ?_;exact Fe
theorem YD:Calls prog 175 #[.slice A 0 c,.bool false,.slice none 0 0,.int .i64 0,.int .i64 0,.int .i64 (-1),.int .u8 102,.bool true] w (Vw w base (Value.slice A 0 c).ownBlock 1 [.int .u8 48]):=by
 refine zd func175 rfl ntmps175 rfl ?_;have av:World.ownsRow w base 5 1 (.slice A 0 c) 0 ([]):=ho;have HF:Per (ah [((Value.slice A 0 c).ownBlock)]) w (fun _=>True):=Per.dS;have LW:=aB (ah [((Value.slice A 0 c).ownBlock)]) w;have ak:=aP (ah [((Value.slice A 0 c).ownBlock)]) w;have E:=aB (ah [((Value.slice A 0 c).ownBlock)]) w;refine Vf ?_;refine uQ ?_;refine Yr ?_;intro aK w2 aM kE bT;have bK:Apart (some aK) ((Value.slice A 0 c).ownBlock):=Apart.of_lt (zr av) bT;have rU:=bK.symm;have bT:_≤aK:=Nat.le_trans E.size bT;have Hf:=Nat.le_trans LW.size bT;replace av:=zk av kE aj.nil;replace E:=E.trans kE.no;replace HF:=HF.cons (zf bT);replace E:=E.cons (some aK);replace ak:=ah.grow ak (fun k e=>Or.inr (Nat.le_trans LW.size ((zf bT) k e)));obtain ⟨HF,LW,ak,E⟩:=dL HF LW E ak (Y:=ah [((Value.slice A 0 c).ownBlock)]) (ah.skip (ah.keep ah.aR)) (Per.aQ aM (aj.cons bK aj.nil));refine Yt ?_;intro v0 w4 On En KN;obtain ⟨dI,dJ,rfl⟩:=zp On;replace KN:∀q9,((Value.slice dI 1 dJ).ownBlock)=some q9→((Value.slice A 0 c).ownBlock)=some q9∨w2.heap.size≤q9:=KN;have HY:bL (ah [((Value.slice dI 1 dJ).ownBlock)]) (ah [((Value.slice A 0 c).ownBlock)]) w2:=(ah.grow ah.none_ (fun k e=>(KN k e).elim (fun e=>Or.inl (ah.head k e)) (fun h=>Or.inr (Nat.le_trans E.size h))));replace E:=E.step1 En ah.head;have XT:=fun q9 (h:(ah [((Value.slice dI 1 dJ).ownBlock)]) q9)=>(HY q9 h).elim (ak q9) (fun h=>Or.inr (Nat.le_trans LW.size h));replace LW:=LW.step E ak;replace ak:=XT;replace E:=aB (ah [((Value.slice dI 1 dJ).ownBlock)]) w4;clear HY;replace av:World.ownsRow w4 base 5 1 (.slice dI 1 dJ) 1 ([.int .u8 48]):=by
  exact VD
 clear On KN En;refine jC ?_;exact Fe
theorem YE:Calls prog 175 #[.slice A 0 c,.bool true,.slice none 0 0,.int .i64 0,.int .i64 0,.int .i64 (-1),.int .u8 101,.bool true] w (Vw w base (Value.slice A 0 c).ownBlock 6 [.int .u8 45,.int .u8 48,.int .u8 101,.int .u8 43,.int .u8 48,.int .u8 48]):=by
 refine zd func175 rfl ntmps175 rfl ?_;have av:World.ownsRow w base 5 1 (.slice A 0 c) 0 ([]):=ho;have HF:Per (ah [((Value.slice A 0 c).ownBlock)]) w (fun _=>True):=Per.dS;have LW:=aB (ah [((Value.slice A 0 c).ownBlock)]) w;have ak:=aP (ah [((Value.slice A 0 c).ownBlock)]) w;have E:=aB (ah [((Value.slice A 0 c).ownBlock)]) w;refine Vf ?_;refine zq ?_;refine kQ ?_;intro aK w2 aM kE bT;have bK:Apart (some aK) ((Value.slice A 0 c).ownBlock):=Apart.of_lt (zr av) bT;have rU:=bK.symm;have bT:_≤aK:=Nat.le_trans E.size bT;have Hf:=Nat.le_trans LW.size bT;replace av:=zk av kE aj.nil;replace E:=E.trans kE.no;replace HF:=HF.cons (zf bT);replace E:=E.cons (some aK);replace ak:=ah.grow ak (fun k e=>Or.inr (Nat.le_trans LW.size ((zf bT) k e)));obtain ⟨HF,LW,ak,E⟩:=dL HF LW E ak (Y:=ah [((Value.slice A 0 c).ownBlock)]) (ah.skip (ah.keep ah.aR)) (Per.aQ aM (aj.cons bK aj.nil));refine wW ?_;intro v0 w4 On En KN;obtain ⟨dI,dJ,rfl⟩:=zp On;replace KN:∀q9,((Value.slice dI 1 dJ).ownBlock)=some q9→((Value.slice A 0 c).ownBlock)=some q9∨w2.heap.size≤q9:=KN;have HY:bL (ah [((Value.slice dI 1 dJ).ownBlock)]) (ah [((Value.slice A 0 c).ownBlock)]) w2:=(ah.grow ah.none_ (fun k e=>(KN k e).elim (fun e=>Or.inl (ah.head k e)) (fun h=>Or.inr (Nat.le_trans E.size h))));replace E:=E.step1 En ah.head;replace HF:=HF.turn E HY;have XT:=fun q9 (h:(ah [((Value.slice dI 1 dJ).ownBlock)]) q9)=>(HY q9 h).elim (ak q9) (fun h=>Or.inr (Nat.le_trans LW.size h));replace LW:=LW.step E ak;replace ak:=XT;replace E:=aB (ah [((Value.slice dI 1 dJ).ownBlock)]) w4;clear HY;replace av:World.ownsRow w4 base 5 1 (.slice dI 1 dJ) 1 ([.int .u8 45]):=by
  exact Me
 clear On KN En;refine Vb ?_;refine Yr ?_;intro bC w6 aS dU cB;have bS:Apart (some bC) ((Value.slice dI 1 dJ).ownBlock):=Apart.of_lt (zr av) cB;have Fh:=bS.symm;have cB:_≤bC:=Nat.le_trans E.size cB;have Rt:=Nat.le_trans LW.size cB;replace av:=zk av dU aj.nil;replace E:=E.trans dU.no;replace HF:=HF.cons (zf cB);replace E:=E.cons (some bC);replace ak:=ah.grow ak (fun k e=>Or.inr (Nat.le_trans LW.size ((zf cB) k e)));obtain ⟨HF,LW,ak,E⟩:=dL HF LW E ak (Y:=ah [((Value.slice dI 1 dJ).ownBlock)]) (ah.skip (ah.keep ah.aR)) (Per.aQ aS (aj.cons bS aj.nil));refine Yt ?_;intro v0 w8 On En KN;obtain ⟨gQ,gT,rfl⟩:=zp On;replace KN:∀q9,((Value.slice gQ 2 gT).ownBlock)=some q9→((Value.slice dI 1 dJ).ownBlock)=some q9∨w6.heap.size≤q9:=KN;have HY:bL (ah [((Value.slice gQ 2 gT).ownBlock)]) (ah [((Value.slice dI 1 dJ).ownBlock)]) w6:=(ah.grow ah.none_ (fun k e=>(KN k e).elim (fun e=>Or.inl (ah.head k e)) (fun h=>Or.inr (Nat.le_trans E.size h))));replace E:=E.step1 En ah.head;replace HF:=HF.turn E HY;have XT:=fun q9 (h:(ah [((Value.slice gQ 2 gT).ownBlock)]) q9)=>(HY q9 h).elim (ak q9) (fun h=>Or.inr (Nat.le_trans LW.size h));replace LW:=LW.step E ak;replace ak:=XT;replace E:=aB (ah [((Value.slice gQ 2 gT).ownBlock)]) w8;clear HY;replace av:World.ownsRow w8 base 5 1 (.slice gQ 2 gT) 2 ([.int .u8 45,.int .u8 48]):=by
  exact VE
 clear On KN En;refine KQ ?_;refine kG ?_;intro YB oD Bb9 Eb9 Hr;have eP:Apart (some YB) ((Value.slice gQ 2 gT).ownBlock):=Apart.of_lt (zr av) Hr;have Ru:=eP.symm;have Hr:_≤YB:=Nat.le_trans E.size Hr;have ar8:=Nat.le_trans LW.size Hr;replace av:=zk av Eb9 aj.nil;replace E:=E.trans Eb9.no;replace HF:=HF.cons (zf Hr);replace E:=E.cons (some YB);replace ak:=ah.grow ak (fun k e=>Or.inr (Nat.le_trans LW.size ((zf Hr) k e)));obtain ⟨HF,LW,ak,E⟩:=dL HF LW E ak (Y:=ah [((Value.slice gQ 2 gT).ownBlock)]) (ah.skip (ah.keep ah.aR)) (Per.aQ Bb9 (aj.cons eP aj.nil));refine kI ?_;intro v0 dW On En KN;obtain ⟨cZ,dh,rfl⟩:=zp On;replace KN:∀q9,((Value.slice cZ 3 dh).ownBlock)=some q9→((Value.slice gQ 2 gT).ownBlock)=some q9∨oD.heap.size≤q9:=KN;have HY:bL (ah [((Value.slice cZ 3 dh).ownBlock)]) (ah [((Value.slice gQ 2 gT).ownBlock)]) oD:=(ah.grow ah.none_ (fun k e=>(KN k e).elim (fun e=>Or.inl (ah.head k e)) (fun h=>Or.inr (Nat.le_trans E.size h))));replace E:=E.step1 En ah.head;replace HF:=HF.turn E HY;have XT:=fun q9 (h:(ah [((Value.slice cZ 3 dh).ownBlock)]) q9)=>(HY q9 h).elim (ak q9) (fun h=>Or.inr (Nat.le_trans LW.size h));replace LW:=LW.step E ak;replace ak:=XT;replace E:=aB (ah [((Value.slice cZ 3 dh).ownBlock)]) dW;clear HY;replace av:World.ownsRow dW base 5 1 (.slice cZ 3 dh) 3 ([.int .u8 45,.int .u8 48,.int .u8 101]):=by
  have e:(([.int .u8 45,.int .u8 48]):List Value)++([.int .u8 101]:List Value)= [.int .u8 45,.int .u8 48,.int .u8 101]:=rfl;rw[←e];exact On
 clear On KN En;refine wU ?_;intro rV fu YC Mc fO;have dK:Apart (some rV) ((Value.slice cZ 3 dh).ownBlock):=Apart.of_lt (zr av) fO;have Md:=dK.symm;have fO:_≤rV:=Nat.le_trans E.size fO;have ah9:=Nat.le_trans LW.size fO;replace av:=zk av Mc aj.nil;replace E:=E.trans Mc.no;replace HF:=HF.cons (zf fO);replace E:=E.cons (some rV);replace ak:=ah.grow ak (fun k e=>Or.inr (Nat.le_trans LW.size ((zf fO) k e)));obtain ⟨HF,LW,ak,E⟩:=dL HF LW E ak (Y:=ah [((Value.slice cZ 3 dh).ownBlock)]) (ah.skip (ah.keep ah.aR)) (Per.aQ YC (aj.cons dK aj.nil));refine wX ?_;intro v0 w16 On En KN;obtain ⟨dZ,d9,rfl⟩:=zp On;replace KN:∀q9,((Value.slice dZ 4 d9).ownBlock)=some q9→((Value.slice cZ 3 dh).ownBlock)=some q9∨fu.heap.size≤q9:=KN;have HY:bL (ah [((Value.slice dZ 4 d9).ownBlock)]) (ah [((Value.slice cZ 3 dh).ownBlock)]) fu:=(ah.grow ah.none_ (fun k e=>(KN k e).elim (fun e=>Or.inl (ah.head k e)) (fun h=>Or.inr (Nat.le_trans E.size h))));replace E:=E.step1 En ah.head;replace HF:=HF.turn E HY;have XT:=fun q9 (h:(ah [((Value.slice dZ 4 d9).ownBlock)]) q9)=>(HY q9 h).elim (ak q9) (fun h=>Or.inr (Nat.le_trans LW.size h));replace LW:=LW.step E ak;replace ak:=XT;replace E:=aB (ah [((Value.slice dZ 4 d9).ownBlock)]) w16;clear HY;replace av:World.ownsRow w16 base 5 1 (.slice dZ 4 d9) 4 ([.int .u8 45,.int .u8 48,.int .u8 101,.int .u8 43]):=by
  have e:(([.int .u8 45,.int .u8 48,.int .u8 101]):List Value)++([.int .u8 43]:List Value)= [.int .u8 45,.int .u8 48,.int .u8 101,.int .u8 43]:=rfl;rw[←e];exact On
 clear On KN En;refine wZ ?_;intro YF w18 ar9 ahq Ht;have xD:Apart (some YF) ((Value.slice dZ 4 d9).ownBlock):=Apart.of_lt (zr av) Ht;have ahz:=xD.symm;have Ht:_≤YF:=Nat.le_trans E.size Ht;have aw3:=Nat.le_trans LW.size Ht;replace av:=zk av ahq aj.nil;replace E:=E.trans ahq.no;replace HF:=HF.cons (zf Ht);replace E:=E.cons (some YF);replace ak:=ah.grow ak (fun k e=>Or.inr (Nat.le_trans LW.size ((zf Ht) k e)));obtain ⟨HF,LW,ak,E⟩:=dL HF LW E ak (Y:=ah [((Value.slice dZ 4 d9).ownBlock)]) (ah.skip (ah.keep ah.aR)) (Per.aQ ar9 (aj.cons xD aj.nil));refine wY ?_;intro v0 JX On En KN;obtain ⟨Mf,Mg,rfl⟩:=zp On;replace KN:∀q9,((Value.slice Mf 6 Mg).ownBlock)=some q9→((Value.slice dZ 4 d9).ownBlock)=some q9∨w18.heap.size≤q9:=KN;have HY:bL (ah [((Value.slice Mf 6 Mg).ownBlock)]) (ah [((Value.slice dZ 4 d9).ownBlock)]) w18:=(ah.grow ah.none_ (fun k e=>(KN k e).elim (fun e=>Or.inl (ah.head k e)) (fun h=>Or.inr (Nat.le_trans E.size h))));replace E:=E.step1 En ah.head;have XT:=fun q9 (h:(ah [((Value.slice Mf 6 Mg).ownBlock)]) q9)=>(HY q9 h).elim (ak q9) (fun h=>Or.inr (Nat.le_trans LW.size h));replace LW:=LW.step E ak;replace ak:=XT;replace E:=aB (ah [((Value.slice Mf 6 Mg).ownBlock)]) JX;clear HY;replace av:World.ownsRow JX base 5 1 (.slice Mf 6 Mg) 6 ([.int .u8 45,.int .u8 48,.int .u8 101,.int .u8 43,.int .u8 48,.int .u8 48]):=by
  have e:(([.int .u8 45,.int .u8 48,.int .u8 101,.int .u8 43]):List Value)++([.int .u8 48,.int .u8 48]:List Value)= [.int .u8 45,.int .u8 48,.int .u8 101,.int .u8 43,.int .u8 48,.int .u8 48]:=rfl;rw[←e];exact On
 clear On KN En;refine uP ?_;exact Fe
theorem YG:Calls prog 175 #[.slice A 0 c,.bool true,.slice none 0 0,.int .i64 0,.int .i64 0,.int .i64 (-1),.int .u8 102,.bool true] w (Vw w base (Value.slice A 0 c).ownBlock 2 [.int .u8 45,.int .u8 48]):=by
 refine zd func175 rfl ntmps175 rfl ?_;have av:World.ownsRow w base 5 1 (.slice A 0 c) 0 ([]):=ho;have HF:Per (ah [((Value.slice A 0 c).ownBlock)]) w (fun _=>True):=Per.dS;have LW:=aB (ah [((Value.slice A 0 c).ownBlock)]) w;have ak:=aP (ah [((Value.slice A 0 c).ownBlock)]) w;have E:=aB (ah [((Value.slice A 0 c).ownBlock)]) w;refine Vf ?_;refine od ?_;refine kQ ?_;intro aK w2 aM kE bT;have bK:Apart (some aK) ((Value.slice A 0 c).ownBlock):=Apart.of_lt (zr av) bT;have rU:=bK.symm;have bT:_≤aK:=Nat.le_trans E.size bT;have Hf:=Nat.le_trans LW.size bT;replace av:=zk av kE aj.nil;replace E:=E.trans kE.no;replace HF:=HF.cons (zf bT);replace E:=E.cons (some aK);replace ak:=ah.grow ak (fun k e=>Or.inr (Nat.le_trans LW.size ((zf bT) k e)));obtain ⟨HF,LW,ak,E⟩:=dL HF LW E ak (Y:=ah [((Value.slice A 0 c).ownBlock)]) (ah.skip (ah.keep ah.aR)) (Per.aQ aM (aj.cons bK aj.nil));refine wW ?_;intro v0 w4 On En KN;obtain ⟨dI,dJ,rfl⟩:=zp On;replace KN:∀q9,((Value.slice dI 1 dJ).ownBlock)=some q9→((Value.slice A 0 c).ownBlock)=some q9∨w2.heap.size≤q9:=KN;have HY:bL (ah [((Value.slice dI 1 dJ).ownBlock)]) (ah [((Value.slice A 0 c).ownBlock)]) w2:=(ah.grow ah.none_ (fun k e=>(KN k e).elim (fun e=>Or.inl (ah.head k e)) (fun h=>Or.inr (Nat.le_trans E.size h))));replace E:=E.step1 En ah.head;replace HF:=HF.turn E HY;have XT:=fun q9 (h:(ah [((Value.slice dI 1 dJ).ownBlock)]) q9)=>(HY q9 h).elim (ak q9) (fun h=>Or.inr (Nat.le_trans LW.size h));replace LW:=LW.step E ak;replace ak:=XT;replace E:=aB (ah [((Value.slice dI 1 dJ).ownBlock)]) w4;clear HY;replace av:World.ownsRow w4 base 5 1 (.slice dI 1 dJ) 1 ([.int .u8 45]):=by
  exact Me
 clear On KN En;refine kb ?_;refine Yr ?_;intro bC w6 aS dU cB;have bS:Apart (some bC) ((Value.slice dI 1 dJ).ownBlock):=Apart.of_lt (zr av) cB;have Fh:=bS.symm;have cB:_≤bC:=Nat.le_trans E.size cB;have Rt:=Nat.le_trans LW.size cB;replace av:=zk av dU aj.nil;replace E:=E.trans dU.no;replace HF:=HF.cons (zf cB);replace E:=E.cons (some bC);replace ak:=ah.grow ak (fun k e=>Or.inr (Nat.le_trans LW.size ((zf cB) k e)));obtain ⟨HF,LW,ak,E⟩:=dL HF LW E ak (Y:=ah [((Value.slice dI 1 dJ).ownBlock)]) (ah.skip (ah.keep ah.aR)) (Per.aQ aS (aj.cons bS aj.nil));refine Yt ?_;intro v0 w8 On En KN;obtain ⟨gQ,gT,rfl⟩:=zp On;replace KN:∀q9,((Value.slice gQ 2 gT).ownBlock)=some q9→((Value.slice dI 1 dJ).ownBlock)=some q9∨w6.heap.size≤q9:=KN;have HY:bL (ah [((Value.slice gQ 2 gT).ownBlock)]) (ah [((Value.slice dI 1 dJ).ownBlock)]) w6:=(ah.grow ah.none_ (fun k e=>(KN k e).elim (fun e=>Or.inl (ah.head k e)) (fun h=>Or.inr (Nat.le_trans E.size h))));replace E:=E.step1 En ah.head;have XT:=fun q9 (h:(ah [((Value.slice gQ 2 gT).ownBlock)]) q9)=>(HY q9 h).elim (ak q9) (fun h=>Or.inr (Nat.le_trans LW.size h));replace LW:=LW.step E ak;replace ak:=XT;replace E:=aB (ah [((Value.slice gQ 2 gT).ownBlock)]) w8;clear HY;replace av:World.ownsRow w8 base 5 1 (.slice gQ 2 gT) 2 ([.int .u8 45,.int .u8 48]):=by
  exact VE
 clear On KN En;refine jC ?_;exact Fe
theorem YH (b:Nat) (hb:b<18446744073709551616) (he:jf b≠2047) (hT:Per (ah [(Value.slice A 0 c).ownBlock]) w bY) (hD:Per (ah [(Value.slice A 0 c).ownBlock]) w dH):Calls prog 145 #[.slice A 0 c,.float .f64 b,.int .u8 101,.int .i64 (-1)] w (Vw w base (Value.slice A 0 c).ownBlock (ky b).length ((ky b).map bV)):=by
 have hel:jf b<2048:=Nat.mod_lt _ de;obtain ⟨n,hn⟩:∃n,n=decide (9223372036854775808≤b):=⟨_,rfl⟩;have hn0:vv b<9007199254740992:=by unfold vv;split<;>omega
 obtain ⟨E1,hE1⟩:∃E1:Nat,E1=if jf b=0 then 1 else jf b:=⟨_,rfl⟩
 have hE2:1≤E1∧E1≤2047:=by rw[hE1];split<;>omega
 have hX:fX b=((E1:Nat):Int)-1075:=by rw[fX,hE1];split<;>rfl
 refine zd func145 rfl ntmps145 rfl ?_;have av:World.ownsRow w base 5 1 (.slice A 0 c) 0 ([]:List Value):=ho;have HF:Per (ah [((Value.slice A 0 c).ownBlock)]) w (fun _=>True):=Per.dS;have LW:=aB (ah [((Value.slice A 0 c).ownBlock)]) w;have ak:=aP (ah [((Value.slice A 0 c).ownBlock)]) w;have E:=aB (ah [((Value.slice A 0 c).ownBlock)]) w;obtain ⟨HF,LW,E⟩:=qU HF LW E ak (hT);obtain ⟨HF,LW,E⟩:=qU HF LW E ak (hD);refine xA ?_;have OY:∀q9,(ah (oj [])) q9→q9<(World.drew w).heap.size→(ah [((Value.slice A 0 c).ownBlock)]) q9:=fun k h _=>(ah.none_) k h;refine qr (ah [((Value.slice A 0 c).ownBlock)]) (ah.grow ah.none_ (zr av)) [] [] (gH [Fx.of (.int .u64 ((b:Nat):Int)),
  Fx.of (.int .i64 52),
  Fx.of (.int .u64 ((b/2^52:Nat):Int)),
  Fx.of (.int .i64 ((b/2^52:Nat):Int)),
  Fx.of (.int .i64 11),
  Fx.of (.int .i64 2048),
  Fx.of (.int .i64 2047),
  Fx.of (.int .i64 ((jf b:Nat):Int)),
  Fx.of (.int .i64 ((jf b:Nat):Int))]) mixed rfl trivial (fun _ h=>by cases h) ?_ ?_
 · exact VI
 intro vs w1 LE AO AL AF AA;have kR:=av;replace av:=zk (w:=World.drew _) av LE aj.nil;replace E:=E.drew.trans (LE.mono OY);obtain ⟨_,e8,k8⟩:=AL.2.2.2.2.2.2.2.2.1;refine wT ?_;clear AL AF AA LE AO OY e8 k8 kR;refine ya ?_;refine xC ?_;refine yd ?_;replace HF:=HF.on E;replace LW:=LW.step E ak;replace E:=aB (ah [((Value.slice A 0 c).ownBlock)]) w1;refine vk (ι:=Unit) (fun _=>[(0,.slice A 0 c),(2,.int .u8 101),(3,.int .i64 (-1)),(11,.int .i64 52),(12,.int .i64 (-1023)),(13,.bool n),(14,.int .i64 ((E1:Nat):Int)),(15,.int .u64 ((vv b:Nat):Int))]) (fun _ w'=>Ext (ah [((Value.slice A 0 c).ownBlock)]) w1 w'∧World.ownsRow w' base 5 1 (.slice A 0 c) 0 ([]:List Value)∧(∀q9,((Value.slice A 0 c).ownBlock)=some q9→((Value.slice A 0 c).ownBlock)=some q9∨w1.heap.size≤q9)∧(True)) ?_ ?_
 ·
  exact ah8
 ·
  have bD:=(zr av);clear av;rintro _ w3 ⟨M2,av,fK,_⟩;have PO:bL (ah [((Value.slice A 0 c).ownBlock)]) (ah [((Value.slice A 0 c).ownBlock)]) w1:=(ah.grow ah.none_ (fun k e=>(fK k e).elim (fun e=>Or.inl (ah.head k e)) Or.inr));replace E:=E.trans M2;replace HF:=HF.turn E PO;have fJ:=LW.size;have XT:=fun q9 (h:(ah [((Value.slice A 0 c).ownBlock)]) q9)=>(PO q9 h).elim (ak q9) (fun h=>Or.inr (Nat.le_trans LW.size h));replace LW:=LW.step E ak;replace ak:=XT;clear fJ;replace E:=aB (ah [((Value.slice A 0 c).ownBlock)]) w3;clear bD;refine wQ ?_;refine zg rfl (fun hz=>?_) (fun hz=>?_)
  ·
   have hz:=of_decide_eq_true hz;have hR:ky b=vp n++ [48,101,43,48,48]:=by rw[hn];unfold ky;rw[if_pos hz]
   by_cases hs:n=true
   ·
    refine qk 13 rfl (by rw[hs]<;>rfl) (yu ?_);refine za rfl (zc nO rfl ((YE _ base A c (Nat.le_trans HB (Nat.le_trans LW.size E.size)) av).mono ?_));rintro e w4 ⟨A1,c1,rfl,On,En,KN⟩;refine ⟨_,rfl,?_⟩;replace KN:∀q9,((Value.slice A1 6 c1).ownBlock)=some q9→((Value.slice A 0 c).ownBlock)=some q9∨w3.heap.size≤q9:=KN;have HY:bL (ah [((Value.slice A1 6 c1).ownBlock)]) (ah [((Value.slice A 0 c).ownBlock)]) w3:=(ah.grow ah.none_ (fun k e=>(KN k e).elim (fun e=>Or.inl (ah.head k e)) (fun h=>Or.inr (Nat.le_trans E.size h))));replace E:=E.step1 En ah.head;have XT:=fun q9 (h:(ah [((Value.slice A1 6 c1).ownBlock)]) q9)=>(HY q9 h).elim (ak q9) (fun h=>Or.inr (Nat.le_trans LW.size h));replace LW:=LW.step E ak;replace ak:=XT;replace E:=aB (ah [((Value.slice A1 6 c1).ownBlock)]) w4;clear HY;replace av:World.ownsRow w4 base 5 1 (.slice A1 6 c1) 6 ([.int .u8 45,.int .u8 48,.int .u8 101,.int .u8 43,.int .u8 48,.int .u8 48]):=On;exact Fg
   ·
    have hs:=Bool.eq_false_iff.2 hs;refine yn 13 rfl (by rw[hs]<;>rfl) (yu ?_);refine za rfl (zc nO rfl ((YA _ base A c (Nat.le_trans HB (Nat.le_trans LW.size E.size)) av).mono ?_));rintro e w5 ⟨A1,c1,rfl,On,En,KN⟩;refine ⟨_,rfl,?_⟩;replace KN:∀q9,((Value.slice A1 5 c1).ownBlock)=some q9→((Value.slice A 0 c).ownBlock)=some q9∨w3.heap.size≤q9:=KN;have HY:bL (ah [((Value.slice A1 5 c1).ownBlock)]) (ah [((Value.slice A 0 c).ownBlock)]) w3:=(ah.grow ah.none_ (fun k e=>(KN k e).elim (fun e=>Or.inl (ah.head k e)) (fun h=>Or.inr (Nat.le_trans E.size h))));replace E:=E.step1 En ah.head;have XT:=fun q9 (h:(ah [((Value.slice A1 5 c1).ownBlock)]) q9)=>(HY q9 h).elim (ak q9) (fun h=>Or.inr (Nat.le_trans LW.size h));replace LW:=LW.step E ak;replace ak:=XT;replace E:=aB (ah [((Value.slice A1 5 c1).ownBlock)]) w5;clear HY;replace av:World.ownsRow w5 base 5 1 (.slice A1 5 c1) 5 ([.int .u8 48,.int .u8 101,.int .u8 43,.int .u8 48,.int .u8 48]):=On;exact Fg
  ·
   have hz:=of_decide_eq_false hz;obtain ⟨l1,l2,_⟩:=kC hz;obtain ⟨m1,m2⟩:=rQ hz om;have hZ:fZ b=64-gz (vv b):=rfl;obtain ⟨hF,d1,d2⟩:=xc hz he;obtain ⟨d,R,VG⟩:∃d R,vj b=d::R:=by
    cases hc:vj b with
    | nil=>have:=hF.aI.1;rw[hc] at this;exact absurd this de
    | cons d R=>exact ⟨d,R,rfl⟩
   have hRl:R.length+1≤18:=by have:=hF.len;rw[VG] at this;exact this
   have hlo:=hF.lo;have hhi:=hF.hi;refine vc ?_;refine za rfl (xi UK ?_);intro fA w7 gD PS mW;have bQ:Apart (some fA) ((Value.slice A 0 c).ownBlock):=Apart.of_lt (zr av) mW;have gZ:=bQ.symm;have mW:_≤fA:=Nat.le_trans E.size mW;have ag5:=Nat.le_trans LW.size mW;replace av:=zk av PS aj.nil;replace E:=E.trans PS.no;replace HF:=HF.cons (zf mW);replace E:=E.cons (some fA);replace ak:=ah.grow ak (fun k e=>Or.inr (Nat.le_trans LW.size ((zf mW) k e)));refine ya ?_;refine za rfl (zc KF rfl ((oF _ (vv b) om).mono ?_));rintro e w8 ⟨rfl,hb⟩;refine ⟨_,rfl,?_⟩;have Ec:=Ext.of_below hb No;replace gD:=gD.aH Ec aj.nil;replace av:=zk av Ec aj.nil;replace E:=E.trans Ec.no;refine wS ?_;rintro e w9 ⟨rfl,hb⟩;refine ⟨_,rfl,?_⟩;have Ec:=Ext.of_below hb No;replace gD:=gD.aH Ec aj.nil;replace av:=zk av Ec aj.nil;replace E:=E.trans Ec.no;refine yu ?_;have OY:∀q9,(ah (oj [])) q9→q9<(World.drew w9).heap.size→(ah [(some fA),((Value.slice A 0 c).ownBlock)]) q9:=fun k h _=>(ah.none_) k h;refine qI mixed (qL 5 rfl ?_);refine yok (ah [(some fA),((Value.slice A 0 c).ownBlock)]) (ah.grow (ah.grow ah.none_ (zr av)) (zj gD.lt)) [] [] (gH [Fx.of (.slice (some ⟨fA,0,none⟩) 32 32),
    Fx.of (.int .u64 ((ki b:Nat):Int)),
    Fx.of (.int .i64 (fQ b)),
    Fx.of (.int .u64 ((ki b:Nat):Int)),
    Fx.of (.int .i64 ((Lib.nDigits (ki b):Nat):Int))]) rfl trivial (fun _ h=>by cases h) ?_ ?_
   · exact VH
   intro vs oD LE AO AL AF AA;have YI:=gD;have kR:=av;replace gD:=gD.drew.aH LE aj.nil;replace av:=zk (w:=World.drew _) av LE aj.nil;replace E:=E.drew.trans (LE.mono OY);obtain ⟨_,e0,k0⟩:=AL.1;obtain ⟨_,e1,k1⟩:=AL.2.1;obtain ⟨_,e2,k2⟩:=AL.2.2.1;obtain ⟨_,e4,k4⟩:=AL.2.2.2.2.1;refine xB ?_;clear AL AF AA LE AO OY e0 e1 e2 e4 k0 k1 k2 k4 YI kR;refine Ky (iU kr (fun _ _ d_ _ _ h=>by cases d_<;>exact h) (wV ?_));rintro e gX ⟨rfl,⟨cs1,hB⟩,hE,hdc⟩;refine ⟨_,rfl,?_⟩;replace gD:=hB;clear hB;replace av:=zk av hE (aj.cons gZ aj.nil);replace E:=E.step1 hE ah.head;clear hE;have hnd:rO (Lib.decDigits (ki b)) (Lib.decDigits (ki b)).length=R.length+1:=by
    exact VF
   have arq:dx b=(((Lib.decDigits (ki b)).length:Nat):Int)+fQ b:=rfl;have hD2:dX _ fA (vj b):=hdc.take _;rw[VG] at hD2;refine ae3 ?_;refine wR ?_;have hR:ky b=vp n++ot (d::R) (dx b):=by rw[hn];unfold ky;rw[if_neg hz,VG]
   refine za rfl (ysv rfl rfl (ze 154 (.int .i64 (R.length:Int)) rfl (by congr 1;split<;>omega) (yu ?_)));refine za rfl (zwx XA dw rfl (yf ?_));replace LW:=LW.step E ak;have SB:∀q9,ah [((Value.slice A 0 c).ownBlock)] q9→ah [(some fA),((Value.slice A 0 c).ownBlock)] q9:=(ah.skip (ah.keep ah.aR));replace ak:=fun k h=>ak k (SB k h);clear SB;replace E:=aB (ah [((Value.slice A 0 c).ownBlock)]) gX;refine za rfl (zc nO rfl ((ag4 _ base A c (Nat.le_trans HB (Nat.le_trans LW.size E.size)) av n d R (dx b) om ⟨hlo,hhi⟩ fA hD2 (aj.cons bQ aj.nil _ rfl)).mono ?_));rintro e dW ⟨A1,c1,rfl,On,En,KN⟩;refine ⟨_,rfl,?_⟩;replace KN:∀q9,((Value.slice A1 ((vp n++ot (d::R) (dx b)).length) c1).ownBlock)=some q9→((Value.slice A 0 c).ownBlock)=some q9∨gX.heap.size≤q9:=KN;have HY:bL (ah [((Value.slice A1 ((vp n++ot (d::R) (dx b)).length) c1).ownBlock)]) (ah [((Value.slice A 0 c).ownBlock)]) gX:=(ah.grow ah.none_ (fun k e=>(KN k e).elim (fun e=>Or.inl (ah.head k e)) (fun h=>Or.inr (Nat.le_trans E.size h))));replace E:=E.step1 En ah.head;have XT:=fun q9 (h:(ah [((Value.slice A1 ((vp n++ot (d::R) (dx b)).length) c1).ownBlock)]) q9)=>(HY q9 h).elim (ak q9) (fun h=>Or.inr (Nat.le_trans LW.size h));replace LW:=LW.step E ak;replace ak:=XT;replace E:=aB (ah [((Value.slice A1 ((vp n++ot (d::R) (dx b)).length) c1).ownBlock)]) dW;clear HY;replace av:World.ownsRow dW base 5 1 (.slice A1 ((vp n++ot (d::R) (dx b)).length) c1) ((vp n++ot (d::R) (dx b)).length) ((vp n++ot (d::R) (dx b)).map bV):=On;exact VB
theorem YJ (b:Nat) (hb:b<18446744073709551616) (he:jf b≠2047) (hT:Per (ah [(Value.slice A 0 c).ownBlock]) w bY) (hD:Per (ah [(Value.slice A 0 c).ownBlock]) w dH):Calls prog 145 #[.slice A 0 c,.float .f64 b,.int .u8 102,.int .i64 (-1)] w (Vw w base (Value.slice A 0 c).ownBlock (kx b).length ((kx b).map bV)):=by
 have hel:jf b<2048:=Nat.mod_lt _ de;obtain ⟨n,hn⟩:∃n,n=decide (9223372036854775808≤b):=⟨_,rfl⟩;have hn0:vv b<9007199254740992:=by unfold vv;split<;>omega
 obtain ⟨E1,hE1⟩:∃E1:Nat,E1=if jf b=0 then 1 else jf b:=⟨_,rfl⟩
 have hE2:1≤E1∧E1≤2047:=by rw[hE1];split<;>omega
 have hX:fX b=((E1:Nat):Int)-1075:=by rw[fX,hE1];split<;>rfl
 refine zd func145 rfl ntmps145 rfl ?_;have av:World.ownsRow w base 5 1 (.slice A 0 c) 0 ([]:List Value):=ho;have HF:Per (ah [((Value.slice A 0 c).ownBlock)]) w (fun _=>True):=Per.dS;have LW:=aB (ah [((Value.slice A 0 c).ownBlock)]) w;have ak:=aP (ah [((Value.slice A 0 c).ownBlock)]) w;have E:=aB (ah [((Value.slice A 0 c).ownBlock)]) w;obtain ⟨HF,LW,E⟩:=qU HF LW E ak (hT);obtain ⟨HF,LW,E⟩:=qU HF LW E ak (hD);refine xA ?_;have OY:∀q9,(ah (oj [])) q9→q9<(World.drew w).heap.size→(ah [((Value.slice A 0 c).ownBlock)]) q9:=fun k h _=>(ah.none_) k h;refine qr (ah [((Value.slice A 0 c).ownBlock)]) (ah.grow ah.none_ (zr av)) [] [] (gH [Fx.of (.int .u64 ((b:Nat):Int)),
  Fx.of (.int .i64 52),
  Fx.of (.int .u64 ((b/2^52:Nat):Int)),
  Fx.of (.int .i64 ((b/2^52:Nat):Int)),
  Fx.of (.int .i64 11),
  Fx.of (.int .i64 2048),
  Fx.of (.int .i64 2047),
  Fx.of (.int .i64 ((jf b:Nat):Int)),
  Fx.of (.int .i64 ((jf b:Nat):Int))]) mixed rfl trivial (fun _ h=>by cases h) ?_ ?_
 · exact VI
 intro vs w1 LE AO AL AF AA;have kR:=av;replace av:=zk (w:=World.drew _) av LE aj.nil;replace E:=E.drew.trans (LE.mono OY);obtain ⟨_,e8,k8⟩:=AL.2.2.2.2.2.2.2.2.1;refine wT ?_;clear AL AF AA LE AO OY e8 k8 kR;refine ya ?_;refine xC ?_;refine yd ?_;replace HF:=HF.on E;replace LW:=LW.step E ak;replace E:=aB (ah [((Value.slice A 0 c).ownBlock)]) w1;refine vk (ι:=Unit) (fun _=>[(0,.slice A 0 c),(2,.int .u8 102),(3,.int .i64 (-1)),(11,.int .i64 52),(12,.int .i64 (-1023)),(13,.bool n),(14,.int .i64 ((E1:Nat):Int)),(15,.int .u64 ((vv b:Nat):Int))]) (fun _ w'=>Ext (ah [((Value.slice A 0 c).ownBlock)]) w1 w'∧World.ownsRow w' base 5 1 (.slice A 0 c) 0 ([]:List Value)∧(∀q9,((Value.slice A 0 c).ownBlock)=some q9→((Value.slice A 0 c).ownBlock)=some q9∨w1.heap.size≤q9)∧(True)) ?_ ?_
 ·
  exact ah8
 ·
  have bD:=(zr av);clear av;rintro _ w3 ⟨M2,av,fK,_⟩;have PO:bL (ah [((Value.slice A 0 c).ownBlock)]) (ah [((Value.slice A 0 c).ownBlock)]) w1:=(ah.grow ah.none_ (fun k e=>(fK k e).elim (fun e=>Or.inl (ah.head k e)) Or.inr));replace E:=E.trans M2;replace HF:=HF.turn E PO;have fJ:=LW.size;have XT:=fun q9 (h:(ah [((Value.slice A 0 c).ownBlock)]) q9)=>(PO q9 h).elim (ak q9) (fun h=>Or.inr (Nat.le_trans LW.size h));replace LW:=LW.step E ak;replace ak:=XT;clear fJ;replace E:=aB (ah [((Value.slice A 0 c).ownBlock)]) w3;clear bD;refine wQ ?_;refine zg rfl (fun hz=>?_) (fun hz=>?_)
  ·
   have hz:=of_decide_eq_true hz;have hR:kx b=vp n++ [48]:=by rw[hn];unfold kx;rw[if_pos hz]
   by_cases hs:n=true
   ·
    refine qk 13 rfl (by rw[hs]<;>rfl) (yu ?_);refine za rfl (zc nO rfl ((YG _ base A c (Nat.le_trans HB (Nat.le_trans LW.size E.size)) av).mono ?_));rintro e w4 ⟨A1,c1,rfl,On,En,KN⟩;refine ⟨_,rfl,?_⟩;replace KN:∀q9,((Value.slice A1 2 c1).ownBlock)=some q9→((Value.slice A 0 c).ownBlock)=some q9∨w3.heap.size≤q9:=KN;have HY:bL (ah [((Value.slice A1 2 c1).ownBlock)]) (ah [((Value.slice A 0 c).ownBlock)]) w3:=(ah.grow ah.none_ (fun k e=>(KN k e).elim (fun e=>Or.inl (ah.head k e)) (fun h=>Or.inr (Nat.le_trans E.size h))));replace E:=E.step1 En ah.head;have XT:=fun q9 (h:(ah [((Value.slice A1 2 c1).ownBlock)]) q9)=>(HY q9 h).elim (ak q9) (fun h=>Or.inr (Nat.le_trans LW.size h));replace LW:=LW.step E ak;replace ak:=XT;replace E:=aB (ah [((Value.slice A1 2 c1).ownBlock)]) w4;clear HY;replace av:World.ownsRow w4 base 5 1 (.slice A1 2 c1) 2 ([.int .u8 45,.int .u8 48]):=On;exact Fg
   ·
    have hs:=Bool.eq_false_iff.2 hs;refine yn 13 rfl (by rw[hs]<;>rfl) (yu ?_);refine za rfl (zc nO rfl ((YD _ base A c (Nat.le_trans HB (Nat.le_trans LW.size E.size)) av).mono ?_));rintro e w5 ⟨A1,c1,rfl,On,En,KN⟩;refine ⟨_,rfl,?_⟩;replace KN:∀q9,((Value.slice A1 1 c1).ownBlock)=some q9→((Value.slice A 0 c).ownBlock)=some q9∨w3.heap.size≤q9:=KN;have HY:bL (ah [((Value.slice A1 1 c1).ownBlock)]) (ah [((Value.slice A 0 c).ownBlock)]) w3:=(ah.grow ah.none_ (fun k e=>(KN k e).elim (fun e=>Or.inl (ah.head k e)) (fun h=>Or.inr (Nat.le_trans E.size h))));replace E:=E.step1 En ah.head;have XT:=fun q9 (h:(ah [((Value.slice A1 1 c1).ownBlock)]) q9)=>(HY q9 h).elim (ak q9) (fun h=>Or.inr (Nat.le_trans LW.size h));replace LW:=LW.step E ak;replace ak:=XT;replace E:=aB (ah [((Value.slice A1 1 c1).ownBlock)]) w5;clear HY;replace av:World.ownsRow w5 base 5 1 (.slice A1 1 c1) 1 ([.int .u8 48]):=On;exact Fg
  ·
   have hz:=of_decide_eq_false hz;obtain ⟨l1,l2,_⟩:=kC hz;obtain ⟨m1,m2⟩:=rQ hz om;have hZ:fZ b=64-gz (vv b):=rfl;obtain ⟨hF,d1,d2⟩:=xc hz he;obtain ⟨d,R,VG⟩:∃d R,vj b=d::R:=by
    cases hc:vj b with
    | nil=>have:=hF.aI.1;rw[hc] at this;exact absurd this de
    | cons d R=>exact ⟨d,R,rfl⟩
   have hRl:R.length+1≤18:=by have:=hF.len;rw[VG] at this;exact this
   have hlo:=hF.lo;have hhi:=hF.hi;refine vc ?_;refine za rfl (xi UK ?_);intro fA w7 gD PS mW;have bQ:Apart (some fA) ((Value.slice A 0 c).ownBlock):=Apart.of_lt (zr av) mW;have gZ:=bQ.symm;have mW:_≤fA:=Nat.le_trans E.size mW;have ag5:=Nat.le_trans LW.size mW;replace av:=zk av PS aj.nil;replace E:=E.trans PS.no;replace HF:=HF.cons (zf mW);replace E:=E.cons (some fA);replace ak:=ah.grow ak (fun k e=>Or.inr (Nat.le_trans LW.size ((zf mW) k e)));refine ya ?_;refine za rfl (zc KF rfl ((oF _ (vv b) om).mono ?_));rintro e w8 ⟨rfl,hb⟩;refine ⟨_,rfl,?_⟩;have Ec:=Ext.of_below hb No;replace gD:=gD.aH Ec aj.nil;replace av:=zk av Ec aj.nil;replace E:=E.trans Ec.no;refine wS ?_;rintro e w9 ⟨rfl,hb⟩;refine ⟨_,rfl,?_⟩;have Ec:=Ext.of_below hb No;replace gD:=gD.aH Ec aj.nil;replace av:=zk av Ec aj.nil;replace E:=E.trans Ec.no;refine yu ?_;have OY:∀q9,(ah (oj [])) q9→q9<(World.drew w9).heap.size→(ah [(some fA),((Value.slice A 0 c).ownBlock)]) q9:=fun k h _=>(ah.none_) k h;refine qI mixed (qL 5 rfl ?_);refine yok (ah [(some fA),((Value.slice A 0 c).ownBlock)]) (ah.grow (ah.grow ah.none_ (zr av)) (zj gD.lt)) [] [] (gH [Fx.of (.slice (some ⟨fA,0,none⟩) 32 32),
    Fx.of (.int .u64 ((ki b:Nat):Int)),
    Fx.of (.int .i64 (fQ b)),
    Fx.of (.int .u64 ((ki b:Nat):Int)),
    Fx.of (.int .i64 ((Lib.nDigits (ki b):Nat):Int))]) rfl trivial (fun _ h=>by cases h) ?_ ?_
   · exact VH
   intro vs oD LE AO AL AF AA;have YI:=gD;have kR:=av;replace gD:=gD.drew.aH LE aj.nil;replace av:=zk (w:=World.drew _) av LE aj.nil;replace E:=E.drew.trans (LE.mono OY);obtain ⟨_,e0,k0⟩:=AL.1;obtain ⟨_,e1,k1⟩:=AL.2.1;obtain ⟨_,e2,k2⟩:=AL.2.2.1;obtain ⟨_,e4,k4⟩:=AL.2.2.2.2.1;refine xB ?_;clear AL AF AA LE AO OY e0 e1 e2 e4 k0 k1 k2 k4 YI kR;refine Ky (iU kr (fun _ _ d_ _ _ h=>by cases d_<;>exact h) (wV ?_));rintro e gX ⟨rfl,⟨cs1,hB⟩,hE,hdc⟩;refine ⟨_,rfl,?_⟩;replace gD:=hB;clear hB;replace av:=zk av hE (aj.cons gZ aj.nil);replace E:=E.step1 hE ah.head;clear hE;have hnd:rO (Lib.decDigits (ki b)) (Lib.decDigits (ki b)).length=R.length+1:=by
    exact VF
   have arq:dx b=(((Lib.decDigits (ki b)).length:Nat):Int)+fQ b:=rfl;have hD2:dX _ fA (vj b):=hdc.take _;rw[VG] at hD2;refine ae6 ?_;refine wR ?_;have hR:kx b=vp n++xp (d::R) (dx b):=by rw[hn];unfold kx;rw[if_neg hz,VG]
   obtain ⟨P,hP⟩:∃P,P=(((R.length+1:Nat):Int)-dx b).toNat:=⟨_,rfl⟩;refine za rfl (ysv rfl rfl (ze 160 (.int .i64 ((P:Nat):Int)) rfl (by congr 1;split<;>omega) (yu ?_)));refine za rfl (zwx XA dw rfl (yf ?_));replace LW:=LW.step E ak;have SB:∀q9,ah [((Value.slice A 0 c).ownBlock)] q9→ah [(some fA),((Value.slice A 0 c).ownBlock)] q9:=(ah.skip (ah.keep ah.aR));replace ak:=fun k h=>ak k (SB k h);clear SB;replace E:=aB (ah [((Value.slice A 0 c).ownBlock)]) gX;refine za rfl (zc nO rfl ((ah0 _ base A c (Nat.le_trans HB (Nat.le_trans LW.size E.size)) av n d R (dx b) P om ⟨hlo,hhi⟩ hP fA hD2 (aj.cons bQ aj.nil _ rfl)).mono ?_));rintro e dW ⟨A1,c1,rfl,On,En,KN⟩;refine ⟨_,rfl,?_⟩;replace KN:∀q9,((Value.slice A1 ((vp n++xp (d::R) (dx b)).length) c1).ownBlock)=some q9→((Value.slice A 0 c).ownBlock)=some q9∨gX.heap.size≤q9:=KN;have HY:bL (ah [((Value.slice A1 ((vp n++xp (d::R) (dx b)).length) c1).ownBlock)]) (ah [((Value.slice A 0 c).ownBlock)]) gX:=(ah.grow ah.none_ (fun k e=>(KN k e).elim (fun e=>Or.inl (ah.head k e)) (fun h=>Or.inr (Nat.le_trans E.size h))));replace E:=E.step1 En ah.head;have XT:=fun q9 (h:(ah [((Value.slice A1 ((vp n++xp (d::R) (dx b)).length) c1).ownBlock)]) q9)=>(HY q9 h).elim (ak q9) (fun h=>Or.inr (Nat.le_trans LW.size h));replace LW:=LW.step E ak;replace ak:=XT;replace E:=aB (ah [((Value.slice A1 ((vp n++xp (d::R) (dx b)).length) c1).ownBlock)]) dW;clear HY;replace av:World.ownsRow dW base 5 1 (.slice A1 ((vp n++xp (d::R) (dx b)).length) c1) ((vp n++xp (d::R) (dx b)).length) ((vp n++xp (d::R) (dx b)).map bV):=On;exact VB
end
end Go.Proofs.YtdofcnodhgaedaaGreatDoor
namespace Go.Proofs.YtdofcnodhgaedaaGreatDoor
open Go.RowKit Proofs.Tryz
section
attribute [local irreducible] OW RS CW EW
theorem xE {P Q:Prop} (k:Q) (h:(Unit→Q)→P:=by
 intro zK;refine za rfl (Kt (n:=24) (base:=w.heap.size) u46 iV rfl rfl rfl rfl de de SC de ?_);exact zK ()):P:=h fun _=>k
theorem xG {P Q:Prop} (k:Q) (h:(Unit→Q)→P:=by
 intro zK;refine uQ ?_;refine za rfl (vu (z:=3) rfl rfl kr (za rfl (ysv rfl rfl (ze 25 (.int .i64 24) rfl (by kernel_rfl:(.int .i64 (if (24:Int)>3 then 24 else 3):Value)=_) ?_))));exact zK ()):P:=h fun _=>k
section
variable (w:World) (hT:∀b,Below w.heap.size w b→bY b) (hD:∀b,Below w.heap.size w b→dH b) (b:Nat) (hb:b<18446744073709551616) (he:jf b≠2047)
include hT hD hb he
theorem Mh:Calls prog 105 #[.float .f64 b,.int .u8 101,.int .i64 (-1),.int .i64 64] w (aD w (.string ⟨(ky b).toArray⟩)):=by
 refine zd func105 rfl ntmps105 rfl ?_;have LW:=aB (No) w;have ak:=aP (No) w;have E:=aB (No) w;refine xG ?_;have XC:∀q9,(No) q9→q9<w.heap.size:=ah.none_;have SC:=Nat.le_trans LW.size E.size;have SE:=E.size;refine xE ?_;intro kS w2 YK Mi YL;replace E:=E.trans Mi.no;clear Mi;have Ct:World.ownsRow w2 w.heap.size 5 1 (.slice (some ⟨kS,0,none⟩) 0 24) 0 ([]):=YK;replace E:=E.cons ((Value.slice (some ⟨kS,0,none⟩) 0 24).ownBlock);replace ak:=ah.grow ak (fun k e=>Or.inr (Nat.le_trans LW.size ((fun k e=>Nat.le_trans SE ((zf YL) k e)) k e)));clear XC;refine yl ?_;refine za rfl (zc U2 rfl ((YH _ w.heap.size (some ⟨kS,0,none⟩) 24 (Nat.le_trans LW.size E.size) Ct b hb he (fun b hb=>hT b (LW.step (E.trans hb) ak).toBelow) (fun b hb=>hD b (LW.step (E.trans hb) ak).toBelow)).mono ?_));rintro e w3 ⟨A1,c1,rfl,On,En,KN⟩;refine ⟨_,rfl,?_⟩;replace KN:∀q9,((Value.slice A1 ((ky b).length) c1).ownBlock)=some q9→((Value.slice (some ⟨kS,0,none⟩) 0 24).ownBlock)=some q9∨w2.heap.size≤q9:=KN;have HY:bL (ah [((Value.slice A1 ((ky b).length) c1).ownBlock)]) (ah [((Value.slice (some ⟨kS,0,none⟩) 0 24).ownBlock)]) w:=(ah.grow ah.none_ (fun k e=>(KN k e).elim (fun e=>Or.inl (ah.head k e)) (fun h=>Or.inr (Nat.le_trans E.size h))));replace E:=E.step1 En ah.head;have XT:=fun q9 (h:(ah [((Value.slice A1 ((ky b).length) c1).ownBlock)]) q9)=>(HY q9 h).elim (ak q9) (fun h=>Or.inr (Nat.le_trans LW.size h));replace LW:=LW.step E ak;replace ak:=XT;replace E:=aB (ah [((Value.slice A1 ((ky b).length) c1).ownBlock)]) w3;clear HY;replace Ct:World.ownsRow w3 w.heap.size 5 1 (.slice A1 ((ky b).length) c1) ((ky b).length) ((ky b).map bV):=On;clear On KN En;refine za rfl (kg (l:=ky b) u46 underlying5 u9 rfl (zdz Ct rfl) (zq ?_));exact gi
theorem oH:Calls prog 70 #[.float .f64 b,.int .u8 101,.int .i64 (-1),.int .i64 64] w (aD w (.string ⟨(ky b).toArray⟩)):=by
 refine zd func70 rfl ntmps70 rfl ?_;have LW:=aB (No) w;have ak:=aP (No) w;have E:=aB (No) w;refine qa ?_;refine zb UY (Mh _ (later hT (LW.step E ak).toBelow) (later hD (LW.step E ak).toBelow) b hb he) E fun w1 E=>?_;exact GD
theorem Mj:Calls prog 105 #[.float .f64 b,.int .u8 102,.int .i64 (-1),.int .i64 64] w (aD w (.string ⟨(kx b).toArray⟩)):=by
 refine zd func105 rfl ntmps105 rfl ?_;have LW:=aB (No) w;have ak:=aP (No) w;have E:=aB (No) w;refine xG ?_;have XC:∀q9,(No) q9→q9<w.heap.size:=ah.none_;have SC:=Nat.le_trans LW.size E.size;have SE:=E.size;refine xE ?_;intro kS w2 YK Mi YL;replace E:=E.trans Mi.no;clear Mi;have Ct:World.ownsRow w2 w.heap.size 5 1 (.slice (some ⟨kS,0,none⟩) 0 24) 0 ([]):=YK;replace E:=E.cons ((Value.slice (some ⟨kS,0,none⟩) 0 24).ownBlock);replace ak:=ah.grow ak (fun k e=>Or.inr (Nat.le_trans LW.size ((fun k e=>Nat.le_trans SE ((zf YL) k e)) k e)));clear XC;refine yl ?_;refine za rfl (zc U2 rfl ((YJ _ w.heap.size (some ⟨kS,0,none⟩) 24 (Nat.le_trans LW.size E.size) Ct b hb he (fun b hb=>hT b (LW.step (E.trans hb) ak).toBelow) (fun b hb=>hD b (LW.step (E.trans hb) ak).toBelow)).mono ?_));rintro e w3 ⟨A1,c1,rfl,On,En,KN⟩;refine ⟨_,rfl,?_⟩;replace KN:∀q9,((Value.slice A1 ((kx b).length) c1).ownBlock)=some q9→((Value.slice (some ⟨kS,0,none⟩) 0 24).ownBlock)=some q9∨w2.heap.size≤q9:=KN;have HY:bL (ah [((Value.slice A1 ((kx b).length) c1).ownBlock)]) (ah [((Value.slice (some ⟨kS,0,none⟩) 0 24).ownBlock)]) w:=(ah.grow ah.none_ (fun k e=>(KN k e).elim (fun e=>Or.inl (ah.head k e)) (fun h=>Or.inr (Nat.le_trans E.size h))));replace E:=E.step1 En ah.head;have XT:=fun q9 (h:(ah [((Value.slice A1 ((kx b).length) c1).ownBlock)]) q9)=>(HY q9 h).elim (ak q9) (fun h=>Or.inr (Nat.le_trans LW.size h));replace LW:=LW.step E ak;replace ak:=XT;replace E:=aB (ah [((Value.slice A1 ((kx b).length) c1).ownBlock)]) w3;clear HY;replace Ct:World.ownsRow w3 w.heap.size 5 1 (.slice A1 ((kx b).length) c1) ((kx b).length) ((kx b).map bV):=On;clear On KN En;refine za rfl (kg (l:=kx b) u46 underlying5 u9 rfl (zdz Ct rfl) (zq ?_));exact gi
theorem Hu:Calls prog 70 #[.float .f64 b,.int .u8 102,.int .i64 (-1),.int .i64 64] w (aD w (.string ⟨(kx b).toArray⟩)):=by
 refine zd func70 rfl ntmps70 rfl ?_;have LW:=aB (No) w;have ak:=aP (No) w;have E:=aB (No) w;refine qa ?_;refine zb UY (Mj _ (later hT (LW.step E ak).toBelow) (later hD (LW.step E ak).toBelow) b hb he) E fun w1 E=>?_;exact GD
end
end
theorem VJ {c:UInt8}:∀ {h:List UInt8},c∉h→ ∀(l:List UInt8),Lib.indexByte (h++c::l) c=(h.length:Int)
 | [],_,l=>by
  show Lib.indexByte (c::l) c=0
  rw[Lib.indexByte,if_pos (by simp)]
 | d::h,hn,l=>by
  have h1:=VJ (h:=h) (fun hm=>hn (List.mem_cons_of_mem _ hm)) l;show Lib.indexByte (d::(h++c::l)) c=((h.length+1:Nat):Int)
  rw[Lib.indexByte,if_neg (by simp only[beq_iff_eq];intro e;exact hn (e▸List.mem_cons_self ..)),h1,if_neg (by simp only[beq_iff_eq];omega)];rfl
theorem Fj {c:UInt8}:∀ {h:List UInt8},c∉h→Lib.indexByte h c= -1
 | [],_=>by rw[Lib.indexByte]
 | d::h,hn=>by
  have h1:=Fj (h:=h) (fun hm=>hn (List.mem_cons_of_mem _ hm));rw[Lib.indexByte,if_neg (by simp only[beq_iff_eq];intro e;exact hn (e▸List.mem_cons_self ..)),h1,if_pos (by simp)]
theorem YM {c:UInt8} {h:List UInt8} (hm:c∈h):0≤Lib.indexByte h c:=by
 induction h with
 | nil=>cases hm
 | cons d h ih=>
  rw[Lib.indexByte];split
  · exact Int.le_refl _
  · rename_i hd
    rcases List.mem_cons.1 hm with e | hm
    · exact absurd (by simp[e]) hd
    · have:=ih hm;split
      · rename_i h1;simp only[beq_iff_eq] at h1;omega
      · omega
theorem YN {c:UInt8} {h:List UInt8}:decide (0≤Lib.indexByte h c)=decide (c∈h):=by
 by_cases hm:c∈h
 · rw[decide_eq_true hm,decide_eq_true (YM hm)]
 · rw[decide_eq_false hm,Fj hm];rfl
theorem Mk:gL 0= [43,48,48]:=by
 show 43::gY 0=_
 rw[j4 de];rfl
def fP (b:Nat):Int:=if vv b=0 then 0 else dx b-1
def vi (b:Nat):List UInt8:=vp (decide (9223372036854775808≤b))++(if vv b=0 then [48] else gg (vj b))
theorem zgk (b:Nat):ky b=vi b++101::gL (fP b):=by
 unfold ky vi fP;split
 · rw[Mk];simp
 · rw[ot,List.append_assoc]
theorem xH {b:Nat} (he:jf b≠2047):(101:UInt8)∉vi b:=by
 unfold vi;intro hm;rcases List.mem_append.1 hm with hm | hm
 · revert hm;cases decide (9223372036854775808≤b)<;>decide
 · split at hm
   · revert hm;decide
   · rename_i h0
     exact Lu (xc h0 he).1.aI rfl hm
theorem Ml {b:Nat} (he:jf b≠2047):-1000<fP b∧fP b<1000:=by
 unfold fP;split
 · decide
 · rename_i h0
   have h1:=(xc h0 he).1.lo;have h2:=(xc h0 he).1.hi;omega
theorem Hw {b:Nat} (h:fP b< -4∨15<fP b):LA b=ky b:=by
 unfold fP at h;unfold LA ky;split
 · rename_i h0;rw[if_pos h0] at h;omega
 · rename_i h0
   rw[if_neg h0] at h;rw[Bb,if_pos h]
theorem Fp {b:Nat} (he:jf b≠2047):(46:UInt8)∈kx b↔vv b≠0∧dx b<((vj b).length:Int):=by
 have hs:(46:UInt8)∉vp (decide (9223372036854775808≤b)):=by cases decide (9223372036854775808≤b)<;>decide
 unfold kx;by_cases h0:vv b=0
 · rw[if_pos h0,List.mem_append];exact ⟨fun h=>h.elim (fun h=>absurd h hs) (fun h=>absurd h de),fun h=>absurd h0 h.1⟩
 · rw[if_neg h0,List.mem_append];by_cases h1:dx b<((vj b).length:Int)
   · exact ⟨fun _=>⟨h0,h1⟩,fun _=>Or.inr (Lv h1)⟩
   · exact ⟨fun h=>h.elim (fun h=>absurd h hs) (fun h=>absurd h (Rk (xc h0 he).1.aI h1)),fun h=>absurd h.2 h1⟩
theorem Hy {b:Nat} (he:jf b≠2047) (h:¬(fP b< -4∨15<fP b)) (hd:(46:UInt8)∈kx b):LA b=kx b:=by
 obtain ⟨h0,h1⟩:=(Fp he).1 hd;unfold fP at h;rw[if_neg h0] at h;unfold LA kx;rw[if_neg h0,if_neg h0,Bb,if_neg h,if_pos h1]
theorem Mq {b:Nat} (he:jf b≠2047) (h:¬(fP b< -4∨15<fP b)) (hd:(46:UInt8)∉kx b):LA b=kx b++ [46,48]:=by
 unfold fP at h;unfold LA kx;by_cases h0:vv b=0
 · rw[if_pos h0,if_pos h0,List.append_assoc];rfl
 · rw[if_neg h0] at h;have h1:¬dx b<((vj b).length:Int):=fun h1=>hd ((Fp he).2 ⟨h0,h1⟩);rw[if_neg h0,if_neg h0,Bb,if_neg h,if_neg h1,List.append_assoc]
theorem qh (l m:List UInt8):(⟨l.toArray⟩:ByteArray)++ ⟨m.toArray⟩= ⟨(l++m).toArray⟩:=by
 refine ByteArray.ext ?_;rw[ByteArray.data_append];simp
theorem xI {D:List UInt8} {dp:Int} (h:D.length≤18) (h1:-400≤dp∧dp≤420):(xp D dp).length≤1000:=by
 unfold xp;rw[List.length_append];have a:(if 0<dp then D.take dp.toNat++List.replicate (dp.toNat-D.length) 48 else [48]).length≤440:=by
  exact LH
 have c:(if dp<(D.length:Int) then 46::(List.replicate (-dp).toNat 48++D.drop dp.toNat) else []).length≤440:=by
  split
  · rw[List.length_cons,List.length_append,List.length_replicate,List.length_drop];omega
  · exact Nat.zero_le _
 omega
theorem Mr {b:Nat} (he:jf b≠2047):(kx b).length≤2000:=by
 unfold kx;rw[List.length_append];have h:=yjz (decide (9223372036854775808≤b));split
 · show _+1≤_;omega
 · rename_i h0
   have hF:=(xc h0 he).1;have:=xI hF.len ⟨hF.lo,hF.hi⟩;omega
def xu (b:Nat):List UInt8:=if aY b=true then [110,97,110] else if rg b=9218868437227405312 then (if ng b=true then [45,105,110,102] else [105,110,102]) else LA b
section
attribute [local irreducible] OW RS CW EW
theorem lW {P Q:Prop} (k:Q) (h:(Unit→Q)→P:=by
 intro zK;refine oq (rs:=[.cell 2 24]) (vs:=[_]) rfl ⟨⟨_,rfl,zzq u24 rfl xn DC rfl⟩,trivial⟩ ?_;exact zK ()):P:=h fun _=>k
theorem Oa {P:Prop} (h:P:=by
 refine qu ?_;exact ⟨by unfold Jb;rw[h1,h2,h3,h4,ho];rfl,aT LW E ak⟩):P:=h
theorem Oc {P:Prop} (h:P:=by
 refine qa ?_;exact ⟨by unfold Jb eqS;rw[h1,h2,h3,ho];rfl,aT LW E ak⟩):P:=h
theorem Oe {P:Prop} (h:P:=by
 refine qa ?_;exact ⟨by unfold Jb eqS;rw[h1,h2,h3,h4,ho];rfl,aT LW E ak⟩):P:=h
theorem Wv {P:Prop} (h:P:=by
 refine qu ?_;exact ⟨by refine congrArg (fun z=>Ending.returned (.bool z)) ?_;unfold eZ;first | (simp_all;done) | (simp_all;omega),aT LW E ak⟩):P:=h
theorem Ww {P:Prop} (h:P:=by
 refine yt ?_;intro vs X wq K;have XN:=K.2.1;refine zc Gv rfl ((zvk _ ua A1 B1 c1 d1).mono ?_);rintro e w2 ⟨A3,c3,rfl,hN,hb⟩;exact ⟨_,rfl,hb,⟨(A3,c3),rfl,ykz hN XN⟩⟩):P:=h
section
variable (w:World) (ua ub:PV) (A1 B1 A2 B2:Option Addr) (c1 d1 c2 d2:Nat) (hx:ay w A1 ua.xs) (hl:ua.xs.length≤9223372036854775807) (ha:ua.bits<18446744073709551616) (hy:ay w A2 ub.xs) (hl':ub.xs.length≤9223372036854775807) (hb0:ub.bits<18446744073709551616)
theorem Jd:Calls prog 47 #[bI ua A1 c1 B1 d1] w (aD w (.bool (eZ ua.k))):=by
 refine zh func47 ntmps47 fun HF LW ak E=>?_;refine zo ?_;refine zl HF LW E ak fun aK w2 HF LW E=>?_;refine qu ?_;refine yg 6 rfl (fun h1=>?_) (fun h1=>?_)
 ·
  replace h1:=of_decide_eq_true h1;exact Wv
 ·
  replace h1:=of_decide_eq_false h1;exact Wv
include hx hl
theorem qc (r:Bool) (hr:PV.good ua=r):Calls prog 6 #[bI ua A1 c1 B1 d1] w (aD w (.bool r)):=by
 subst hr;exact Jc w ua.k ua.yes ua.neg A1 B1 ua.xs c1 ua.bits ua.ni d1 ua.s hx hl
omit hx hl in
theorem ZG (r:Bool) (hr:eZ ua.k=r):Calls prog 47 #[bI ua A1 c1 B1 d1] w (aD w (.bool r)):=by
 subst hr;exact Jd w ua A1 B1 c1 d1
omit hx hl
theorem zvk:Calls prog 33 #[bI ua A1 c1 B1 d1] w (N8 w A1 ua.cn ua.xs ua.cx):=by
 refine zd func33 rfl ntmps33 rfl (jr ?_);rintro g1 wA BX E1 G1;refine jk ?_;rintro g2 wB BY E2 G2;have F7:=BX.ext E2 (fun h=>h.elim);have dV:=E1.trans E2;refine yd ?_;refine zg rfl (fun hk=>?_) (fun hk=>?_)
 ·
  have hk1:ua.k=1:=by simpa using hk
  have e1:ua.cn=false:=by unfold PV.cn;rw[if_pos hk1]
  refine zn ?_;refine zg rfl (fun hyes=>?_) (fun hyes=>?_)
  ·
   have e2:ua.cx= [1]:=by unfold PV.cx;rw[if_pos hk1,if_pos hyes]
   refine zo ?_;refine za rfl (zc qN rfl ((Rw 1 _ de de).mono ?_));rintro e w1 ⟨A3,c3,rfl,hO,hb⟩;refine ⟨_,rfl,?_⟩;have E3:=Ext.of_below hb No;have Je:=BY.ext E3 (fun h=>h.elim);refine yx (qz xn rfl rfl Je rfl rfl rfl ?_);rintro wC DC E4;have hs:=dV.size;have h3:=zlq hO E4 BY.lt hs;refine ya ?_;refine lW ?_;exact ⟨A3,c3,by rw[e1,e2,←Ws];rfl,Or.inr (by rw[e2,←Ws];exact h3),((dV.trans E3).step E4 (fun q hq=>Or.inr (by have:=nD hq;have:=E1.size;omega))).toBelow⟩
  ·
   have e2:ua.cx= []:=by unfold PV.cx;rw[if_pos hk1,if_neg (by rw[hyes];decide)]
   refine yf ?_;refine yix ?_;refine yx (qz xn rfl rfl BY rfl rfl rfl ?_);rintro wC DC E4;refine yf ?_;refine lW ?_;exact ⟨none,0,by rw[e1,e2];rfl,Or.inr (by rw[e2];exact SN),(dV.step E4 (fun q hq=>Or.inr (by have:=nD hq;have:=E1.size;omega))).toBelow⟩
 ·
  have hk1:ua.k≠1:=by simpa using hk
  have e1:ua.cn=ua.neg:=by unfold PV.cn;rw[if_neg hk1]
  have e2:ua.cx=ua.xs:=by unfold PV.cx;rw[if_neg hk1]
  refine zR ?_;refine yx (qz xn rfl rfl BY rfl rfl rfl ?_);rintro wC DC E4;refine yl ?_;have E5:Ext No w wC:=dV.step E4 (fun q hq=>Or.inr (by have:=nD hq;have:=E1.size;omega));refine lW ?_;exact ⟨A1,c1,by rw[e1,e2];rfl,Or.inl ⟨rfl,e2⟩,E5.toBelow⟩
include hx hl ha hy hl' hb0
theorem Og:Calls prog 57 #[bI ua A1 c1 B1 d1,bI ub A2 c2 B2 d2] w (aD w (.tuple #[.int .i64 (Dx ua ub),.bool (sQ ua ub)])):=by
 have hcl:=PV.Dy hl;have hcl':=PV.Dy hl';refine zh func57 ntmps57 fun HF LW ak E=>?_;replace HF:=HF.and (Per.aF hx);replace HF:=HF.and (Per.aF hy);by_cases hk3:ua.k=3
 ·
  by_cases hj3:ub.k=3
  ·
   refine zo ?_;refine zl HF LW E ak fun aK w2 HF LW E=>(zl HF LW E ak fun rT w4 HF LW E=>?_);refine vc ?_;refine xv 12 rfl ((by simp[hk3]:(.bool (ua.k==3):Value)=_)) (zn ?_);refine qk 8 rfl (sw hj3) (zn ?_);refine zb ac6 (nP _ ua.bits ub.bits) E fun w5 E=>(yd ?_);exact ⟨by unfold Dx sQ;rw[if_pos hk3,if_pos hk3,if_pos hj3,if_pos hj3];rfl,aT LW E ak⟩
  ·
   refine zo ?_;refine zl HF LW E ak fun fA w7 HF LW E=>(zl HF LW E ak fun bP w9 HF LW E=>?_);refine vc ?_;refine xv 12 rfl ((by simp[hk3]:(.bool (ua.k==3):Value)=_)) (zn ?_);refine yn 8 rfl (sw hj3) (qu ?_);refine qk 24 rfl (sw hk3) (zo ?_);have OY:∀q9,(ah (oj [])) q9→q9<(World.drew w9).heap.size→(No) q9:=fun k h _=>(ah.none_) k h;refine qr (No) ah.none_ [] [] (gH [Fx.of (.pointer (some ⟨fA,4,none⟩)),
    Fx.of (.int .u64 (ua.bits:Int)),
    Fx.of (bI ub A2 c2 B2 d2),
    ⟨(Option Addr×Nat),fun (A3,c3)=>.agg #[.bool ub.cn,.slice A3 ub.cx.length c3],fun (A3,c3) b=>(lV b A2 A3 ub.xs (PV.cx ub))⟩,
    Fx.of (.tuple #[.int .i64 (tQ ua.bits ub.cn ub.cx),.bool (oc ua.bits ub.cn ub.cx)]),
    Fx.of (.int .i64 (tQ ua.bits ub.cn ub.cx)),
    Fx.of (.bool (oc ua.bits ub.cn ub.cx)),
    Fx.of (.int .i64 (tQ ua.bits ub.cn ub.cx)),
    Fx.of (.bool (oc ua.bits ub.cn ub.cx))]) mixed rfl trivial (fun _ h=>by cases h) ?_ ?_
   · refine ⟨arm,arm,arm,?_,?_,arm,arm,arm,arm,trivial⟩
     · refine yt ?_;intro vs X wq K;have XN:=K.2.1;refine zc Gv rfl ((zvk _ ub A2 B2 c2 d2).mono ?_);rintro e w2 ⟨A3,c3,rfl,hN,hb⟩;exact ⟨_,rfl,hb,⟨(A3,c3),rfl,ykz hN XN⟩⟩
     · refine yt ?_;intro vs X wq K;have LE:=K.1;obtain ⟨⟨A3,c3⟩,e3,k3⟩:=K.dep 3 rfl rfl rfl;refine jc 31 _ rfl e3 (zc ac7 rfl ((lS _ ua.bits ha ub.cn A3 c3 ub.cx ((k3.here).nums (HF.on (E.drew.trans (LE.mono OY))).here.1.1.2) hcl').mono ?_));exact fV
   intro vs oD LE AO AL AF AA;replace E:=E.drew.trans (LE.mono OY);obtain ⟨_,e7,k7⟩:=AL.2.2.2.2.2.2.2.1;obtain ⟨_,e8,k8⟩:=AL.2.2.2.2.2.2.2.2.1;refine jz (τ:=[(2,_),(3,_),(4,.int .i64 (tQ ua.bits ub.cn ub.cx)),(5,.bool (oc ua.bits ub.cn ub.cx))]) ⟨rfl,rfl,congrArg some e7,congrArg some e8,trivial⟩ ?_;clear AL AF AA LE AO OY e7 e8 k7 k8;refine ya ?_;exact ⟨by unfold Dx sQ;rw[if_pos hk3,if_pos hk3,if_neg hj3,if_neg hj3];rfl,aT LW E ak⟩
 ·
  refine zo ?_;refine zl HF LW E ak fun LQ dW HF LW E=>(zl HF LW E ak fun rV fu HF LW E=>?_);refine vc ?_;refine gy 12 rfl ((by simp[hk3]:(.bool (ua.k==3):Value)=_)) (od ?_);refine yn 24 rfl (sw hk3) ?_;by_cases hj3:ub.k=3
  ·
   refine qu ?_;refine qk 35 rfl (sw hj3) (zo ?_);have OY:∀q9,(ah (oj [])) q9→q9<(World.drew fu).heap.size→(No) q9:=fun k h _=>(ah.none_) k h;refine qr (No) ah.none_ [] [] (gH [Fx.of (.pointer (some ⟨rV,4,none⟩)),
    Fx.of (.int .u64 (ub.bits:Int)),
    Fx.of (bI ua A1 c1 B1 d1),
    ⟨(Option Addr×Nat),fun (A3,c3)=>.agg #[.bool ua.cn,.slice A3 ua.cx.length c3],fun (A3,c3) b=>(lV b A1 A3 ua.xs (PV.cx ua))⟩,
    Fx.of (.tuple #[.int .i64 (tQ ub.bits ua.cn ua.cx),.bool (oc ub.bits ua.cn ua.cx)]),
    Fx.of (.tuple #[.int .i64 (tQ ub.bits ua.cn ua.cx),.bool (oc ub.bits ua.cn ua.cx)]),
    Fx.of (.int .i64 (tQ ub.bits ua.cn ua.cx)),
    Fx.of (.bool (oc ub.bits ua.cn ua.cx)),
    Fx.of (.int .i64 (tQ ub.bits ua.cn ua.cx)),
    Fx.of (.bool (oc ub.bits ua.cn ua.cx))]) mixed rfl trivial (fun _ h=>by cases h) ?_ ?_
   · refine ⟨arm,arm,arm,?_,?_,arm,arm,arm,arm,arm,trivial⟩
     · exact Ww
     · refine yt ?_;intro vs X wq K;have LE:=K.1;obtain ⟨⟨A3,c3⟩,e3,k3⟩:=K.dep 3 rfl rfl rfl;refine jc 43 _ rfl e3 (zc ac7 rfl ((lS _ ub.bits hb0 ua.cn A3 c3 ua.cx ((k3.here).nums (HF.on (E.drew.trans (LE.mono OY))).here.1.1.1.2) hcl).mono ?_));exact fV
   intro vs Ck LE AO AL AF AA;replace E:=E.drew.trans (LE.mono OY);obtain ⟨_,e8,k8⟩:=AL.2.2.2.2.2.2.2.2.1;obtain ⟨_,e9,k9⟩:=AL.2.2.2.2.2.2.2.2.2.1;refine jz (τ:=[(2,_),(3,_),(4,_),(5,_),(6,.int .i64 (tQ ub.bits ua.cn ua.cx)),(7,.bool (oc ub.bits ua.cn ua.cx))]) ⟨rfl,rfl,rfl,rfl,congrArg some e8,congrArg some e9,trivial⟩ ?_;clear AL AF AA LE AO OY e8 e9 k8 k9;have hcv:=SL ub.bits ua.cn ua.cx;refine yf ?_;refine js ?_;refine qu ?_;exact ⟨by unfold Dx sQ;rw[if_neg hk3,if_neg hk3,if_pos hj3,if_pos hj3];rfl,aT LW E ak⟩
  ·
   refine qu ?_;refine yn 35 rfl (sw hj3) (ya ?_);have OY:∀q9,(ah (oj [])) q9→q9<(World.drew fu).heap.size→(No) q9:=fun k h _=>(ah.none_) k h;refine qr (No) ah.none_ [] [] (gH [Fx.of (bI ua A1 c1 B1 d1),
    ⟨(Option Addr×Nat),fun (A3,c3)=>.agg #[.bool ua.cn,.slice A3 ua.cx.length c3],fun (A3,c3) b=>(lV b A1 A3 ua.xs (PV.cx ua))⟩,
    Fx.of (bI ub A2 c2 B2 d2),
    ⟨(Option Addr×Nat),fun (A4,c4)=>.agg #[.bool ub.cn,.slice A4 ub.cx.length c4],fun (A4,c4) b=>(lV b A2 A4 ub.xs (PV.cx ub))⟩,
    Fx.of (.int .i64 (yZ (zm ua.cn ua.cx&&zm ub.cn ub.cx) (num ua.cn ua.cx) (num ub.cn ub.cx))),
    Fx.of (.int .i64 (yZ (zm ua.cn ua.cx&&zm ub.cn ub.cx) (num ua.cn ua.cx) (num ub.cn ub.cx))),
    Fx.of (.bool true)]) mixed rfl trivial (fun _ h=>by cases h) ?_ ?_
   · refine ⟨arm,?_,arm,?_,?_,arm,arm,trivial⟩
     · exact Ww
     · refine yt ?_;intro vs X wq K;have XN:=K.2.1;refine zc Gv rfl ((zvk _ ub A2 B2 c2 d2).mono ?_);rintro e w2 ⟨A4,c4,rfl,hN,hb⟩;exact ⟨_,rfl,hb,⟨(A4,c4),rfl,ykz hN XN⟩⟩
     · intro vs X wq K;have LE:=K.1;obtain ⟨⟨A3,c3⟩,e1,k1⟩:=K.dep 1 rfl rfl rfl;refine jc 51 _ rfl e1 ?_;obtain ⟨⟨A4,c4⟩,e3,k3⟩:=K.dep 3 rfl rfl rfl;refine jc 53 _ rfl e3 (zc ac8 rfl ((FI A3 A4 c3 c4 ua.cx ub.cx _ ua.cn ub.cn ((k1.here).nums (HF.on (E.drew.trans (LE.mono OY))).here.1.1.1.2) ((k3.here).nums (HF.on (E.drew.trans (LE.mono OY))).here.1.1.2) hcl hcl').mono ?_));exact fV
   intro vs w16 LE AO AL AF AA;replace E:=E.drew.trans (LE.mono OY);obtain ⟨_,e5,k5⟩:=AL.2.2.2.2.2.1;obtain ⟨_,e6,k6⟩:=AL.2.2.2.2.2.2.1;refine jz (τ:=[(4,.int .i64 (yZ (zm ua.cn ua.cx&&zm ub.cn ub.cx) (num ua.cn ua.cx) (num ub.cn ub.cx))),(5,.bool true)]) ⟨congrArg some e5,congrArg some e6,trivial⟩ ?_;clear AL AF AA LE AO OY e5 e6 k5 k6;refine yl ?_;exact ⟨by unfold Dx sQ;rw[if_neg hk3,if_neg hk3,if_neg hj3,if_neg hj3];rfl,aT LW E ak⟩
theorem ZH (h1:ua.good=false):Calls prog 20 #[bI ua A1 c1 B1 d1,bI ub A2 c2 B2 d2] w (aD w (.bool (Jb ua ub))):=by
 have _:=hx;have _:=hl;have _:=ha;have _:=hy;have _:=hl';have _:=hb0;refine zh func20 ntmps20 fun HF LW ak E=>?_;replace HF:=HF.and (Per.aF hx);replace HF:=HF.and (Per.aF hy);refine zo ?_;refine zl HF LW E ak fun aK w2 HF LW E=>(zl HF LW E ak fun rT w4 HF LW E=>?_);refine zn ?_;refine zb fC (qc _ ua A1 B1 c1 d1 (HF.on E).here.1.1.1.2 hl false h1) E fun w5 E=>(KQ ?_);exact ⟨by unfold Jb;rw[h1];rfl,aT LW E ak⟩
theorem ZI (h1:ua.good=true) (h2:ub.good=false):Calls prog 20 #[bI ua A1 c1 B1 d1,bI ub A2 c2 B2 d2] w (aD w (.bool (Jb ua ub))):=by
 have _:=hx;have _:=hl;have _:=ha;have _:=hy;have _:=hl';have _:=hb0;refine zh func20 ntmps20 fun HF LW ak E=>?_;replace HF:=HF.and (Per.aF hx);replace HF:=HF.and (Per.aF hy);refine zo ?_;refine zl HF LW E ak fun aK w2 HF LW E=>(zl HF LW E ak fun rT w4 HF LW E=>?_);refine zn ?_;refine zb fC (qc _ ua A1 B1 c1 d1 (HF.on E).here.1.1.1.2 hl true h1) E fun w5 E=>(yl ?_);refine zb fC (qc _ ub A2 B2 c2 d2 (HF.on E).here.1.1.2 hl' false h2) E fun w6 E=>(kb ?_);exact ⟨by unfold Jb;rw[h1,h2];rfl,aT LW E ak⟩
theorem ZJ (h1:ua.good=true) (h2:ub.good=true) (h3:eZ ua.k=true) (h4:eZ ub.k=true):Calls prog 20 #[bI ua A1 c1 B1 d1,bI ub A2 c2 B2 d2] w (aD w (.bool (Jb ua ub))):=by
 have _:=hx;have _:=hl;have _:=ha;have _:=hy;have _:=hl';have _:=hb0;refine zh func20 ntmps20 fun HF LW ak E=>?_;replace HF:=HF.and (Per.aF hx);replace HF:=HF.and (Per.aF hy);refine zo ?_;refine zl HF LW E ak fun aK w2 HF LW E=>(zl HF LW E ak fun rT w4 HF LW E=>?_);refine zn ?_;refine zb fC (qc _ ua A1 B1 c1 d1 (HF.on E).here.1.1.1.2 hl true h1) E fun w5 E=>(yl ?_);refine zb fC (qc _ ub A2 B2 c2 d2 (HF.on E).here.1.1.2 hl' true h2) E fun w6 E=>(qa ?_);refine zb BI (ZG _ ua A1 B1 c1 d1 true h3) E fun w7 E=>(zo ?_);refine zb BI (ZG _ ub A2 B2 c2 d2 true h4) E fun w8 E=>(yu ?_);refine zb aq1 (Og _ ua ub A1 B1 A2 B2 c1 d1 c2 d2 (HF.on E).here.1.1.1.2 hl ha (HF.on E).here.1.1.2 hl' hb0) E fun w9 E=>(qa ?_);by_cases ho:sQ ua ub=true
 ·
  refine xv 28 rfl (by rw[ho]<;>rfl) ?_;exact Oa
 ·
  have ho:=Bool.eq_false_iff.2 ho;refine gy 28 rfl (by rw[ho]<;>rfl) ?_;exact Oa
theorem ZK (h1:ua.good=true) (h2:ub.good=true) (h3:eZ ua.k=false):Calls prog 20 #[bI ua A1 c1 B1 d1,bI ub A2 c2 B2 d2] w (aD w (.bool (Jb ua ub))):=by
 have _:=hx;have _:=hl;have _:=ha;have _:=hy;have _:=hl';have _:=hb0;refine zh func20 ntmps20 fun HF LW ak E=>?_;replace HF:=HF.and (Per.aF hx);replace HF:=HF.and (Per.aF hy);refine zo ?_;refine zl HF LW E ak fun aK w2 HF LW E=>(zl HF LW E ak fun rT w4 HF LW E=>?_);refine zn ?_;refine zb fC (qc _ ua A1 B1 c1 d1 (HF.on E).here.1.1.1.2 hl true h1) E fun w5 E=>(yl ?_);refine zb fC (qc _ ub A2 B2 c2 d2 (HF.on E).here.1.1.2 hl' true h2) E fun w6 E=>(qa ?_);refine zb BI (ZG _ ua A1 B1 c1 d1 false h3) E fun w7 E=>(KQ ?_);by_cases ho:(ua.k==ub.k)=true
 ·
  refine xv 37 rfl (by rw[ho]<;>rfl) ?_;exact Oc
 ·
  have ho:=Bool.eq_false_iff.2 ho;refine gy 37 rfl (by rw[ho]<;>rfl) ?_;exact Oc
theorem ZL (h1:ua.good=true) (h2:ub.good=true) (h3:eZ ua.k=true) (h4:eZ ub.k=false):Calls prog 20 #[bI ua A1 c1 B1 d1,bI ub A2 c2 B2 d2] w (aD w (.bool (Jb ua ub))):=by
 have _:=hx;have _:=hl;have _:=ha;have _:=hy;have _:=hl';have _:=hb0;refine zh func20 ntmps20 fun HF LW ak E=>?_;replace HF:=HF.and (Per.aF hx);replace HF:=HF.and (Per.aF hy);refine zo ?_;refine zl HF LW E ak fun aK w2 HF LW E=>(zl HF LW E ak fun rT w4 HF LW E=>?_);refine zn ?_;refine zb fC (qc _ ua A1 B1 c1 d1 (HF.on E).here.1.1.1.2 hl true h1) E fun w5 E=>(yl ?_);refine zb fC (qc _ ub A2 B2 c2 d2 (HF.on E).here.1.1.2 hl' true h2) E fun w6 E=>(qa ?_);refine zb BI (ZG _ ua A1 B1 c1 d1 true h3) E fun w7 E=>(zo ?_);refine zb BI (ZG _ ub A2 B2 c2 d2 false h4) E fun w8 E=>(uP ?_);by_cases ho:(ua.k==ub.k)=true
 ·
  refine xv 37 rfl (by rw[ho]<;>rfl) ?_;exact Oe
 ·
  have ho:=Bool.eq_false_iff.2 ho;refine gy 37 rfl (by rw[ho]<;>rfl) ?_;exact Oe
theorem Oh:Calls prog 20 #[bI ua A1 c1 B1 d1,bI ub A2 c2 B2 d2] w (aD w (.bool (Jb ua ub))):=by
 cases h1:ua.good
 · exact ZH w ua ub A1 B1 A2 B2 c1 d1 c2 d2 hx hl ha hy hl' hb0 h1
 cases h2:ub.good
 · exact ZI w ua ub A1 B1 A2 B2 c1 d1 c2 d2 hx hl ha hy hl' hb0 h1 h2
 cases h3:eZ ua.k
 · exact ZK w ua ub A1 B1 A2 B2 c1 d1 c2 d2 hx hl ha hy hl' hb0 h1 h2 h3
 cases h4:eZ ub.k
 · exact ZL w ua ub A1 B1 A2 B2 c1 d1 c2 d2 hx hl ha hy hl' hb0 h1 h2 h3 h4
 · exact ZJ w ua ub A1 B1 A2 B2 c1 d1 c2 d2 hx hl ha hy hl' hb0 h1 h2 h3 h4
end
theorem z8 {P Q:Prop} (k:Q) (h:(Unit→Q)→P:=by
 intro zK;refine zq ?_;refine za rfl (vd (j:=i) u46 dw rfl rfl rfl hil (za rfl (jm underlying5 rfl rfl (hcell _ XI) ?_)));exact zK ()):P:=h fun _=>k
theorem jt {P Q:Prop} (k:Q) (h:(Unit→Q)→P:=by
 intro zK;refine za rfl (ylx u9 rfl ?_);exact zK ()):P:=h fun _=>k
def go (h:Nat) (x:UInt8):Nat:=(31*h+x.toNat+1)%2147483647
def Ou (l:List UInt8):Nat:=l.foldl go l.length
noncomputable def gh (v:PV):Int:=if v.good then (if v.k=0 then 1 else if v.k=3 then og v.bits else if v.k=4 then ((Ou v.s.data.toList:Nat):Int) else zY v.cn v.cx) else 0
def vg (v:PV):Bool:=if v.good then (if v.k=1 then v.yes else if v.k=2 then decide ((0:Int)<(v.xs.length:Int)) else if v.k=3 then (IntKind.u64.wrap ((v.bits:Int)*2) !=0) else !(v.s.toList==(⟨#[]⟩:ByteArray).toList)) else false
theorem F9 (l:List UInt8) (h:Nat) (hh:h<2147483647):l.foldl go h<2147483647:=by
 induction l generalizing h with
 | nil=>exact hh
 | cons x l ih=>exact ih _ (Nat.mod_lt _ de)
theorem pq {l:List UInt8} {i:Nat} {x:UInt8} (h:l[i]? =some x) (n:Nat):(l.take (i+1)).foldl go n=go ((l.take i).foldl go n) x:=by
 obtain ⟨hi,he⟩:=List.getElem?_eq_some_iff.1 h;rw[List.take_succ_eq_append_getElem hi,List.foldl_append,he];rfl
theorem Ov (m x:Nat):(31*((m:Nat):Int)+((x:Nat):Int)+1).tmod 2147483647=(((31*m+x+1)%2147483647:Nat):Int):=by
 rw[Int.tmod_eq_emod_of_nonneg om];omega
section
variable (w:World) (ua:PV) (A1 B1:Option Addr) (c1 d1:Nat) (hx:ay w A1 ua.xs) (hl:ua.xs.length≤9223372036854775807) (ha:ua.bits<18446744073709551616)
include hx hl ha
theorem ph0 (g1:ua.good=false):Calls prog 9 #[bI ua A1 c1 B1 d1] w (aD w (.int .i64 (gh ua))):=by
 have _:=hx;have _:=hl;have _:=ha;refine zh func9 ntmps9 fun HF LW ak E=>?_;replace HF:=HF.and (Per.aF hx);refine zo ?_;refine zl HF LW E ak fun aK w2 HF LW E=>?_;refine zn ?_;refine zb fC (qc _ ua A1 B1 c1 d1 (HF.on E).here.1.2 hl false g1) E fun w3 E=>(vc ?_);exact ⟨by unfold gh;rw[g1];rfl,aT LW E ak⟩
theorem ph1 (g1:ua.good=true) (h0:ua.k=0):Calls prog 9 #[bI ua A1 c1 B1 d1] w (aD w (.int .i64 (gh ua))):=by
 have _:=hx;have _:=hl;have _:=ha;refine zh func9 ntmps9 fun HF LW ak E=>?_;replace HF:=HF.and (Per.aF hx);refine zo ?_;refine zl HF LW E ak fun aK w2 HF LW E=>?_;refine zn ?_;refine zb fC (qc _ ua A1 B1 c1 d1 (HF.on E).here.1.2 hl true g1) E fun w3 E=>(JR ?_);refine qk 11 rfl (sw h0) (yd ?_);exact ⟨by unfold gh;rw[g1,if_pos rfl,if_pos h0];rfl,aT LW E ak⟩
theorem ph2 (g1:ua.good=true) (h0:¬ua.k=0) (h3:ua.k=3):Calls prog 9 #[bI ua A1 c1 B1 d1] w (aD w (.int .i64 (gh ua))):=by
 have _:=hx;have _:=hl;have _:=ha;refine zh func9 ntmps9 fun HF LW ak E=>?_;replace HF:=HF.and (Per.aF hx);refine zo ?_;refine zl HF LW E ak fun aK w2 HF LW E=>?_;refine zn ?_;refine zb fC (qc _ ua A1 B1 c1 d1 (HF.on E).here.1.2 hl true g1) E fun w3 E=>(JR ?_);refine yn 11 rfl (sw h0) (zn ?_);refine qk 13 rfl (sw h3) (ya ?_);refine zb ap1 (Ld _ ua.bits ha) E fun w4 E=>(zn ?_);exact ⟨by unfold gh;rw[g1,if_pos rfl,if_neg h0,if_pos h3];rfl,aT LW E ak⟩
theorem ph4 (g1:ua.good=true) (h0:¬ua.k=0) (h3:¬ua.k=3) (h4:¬ua.k=4):Calls prog 9 #[bI ua A1 c1 B1 d1] w (aD w (.int .i64 (gh ua))):=by
 have _:=hx;have _:=hl;have _:=ha;have hcl:=PV.Dy hl;refine zh func9 ntmps9 fun HF LW ak E=>?_;replace HF:=HF.and (Per.aF hx);refine zo ?_;refine zl HF LW E ak fun aK w2 HF LW E=>?_;refine zn ?_;refine zb fC (qc _ ua A1 B1 c1 d1 (HF.on E).here.1.2 hl true g1) E fun w3 E=>(JR ?_);refine yn 11 rfl (sw h0) (zn ?_);refine yn 13 rfl (sw h3) (zn ?_);refine yn 18 rfl (sw h4) (zn ?_);refine za rfl (zc Gv rfl ((zvk _ ua A1 B1 c1 d1).mono ?_));rintro e w4 ⟨A3,c3,rfl,hN,hb⟩;refine ⟨_,rfl,?_⟩;replace E:=Qh E hb;have hN3:ay w4 A3 ua.cx:=hN.elim (fun h=>by rw[h.1,h.2];exact (HF.on E).here.1.2) (fun h=>h.nums);refine zb ap2 (zZ ua.cn A3 c3 ua.cx _ hN3 hcl) E fun w5 E=>(ya ?_);exact ⟨by unfold gh;rw[g1,if_pos rfl,if_neg h0,if_neg h3,if_neg h4];rfl,aT LW E ak⟩
theorem ph3 (g1:ua.good=true) (h0:¬ua.k=0) (h3:¬ua.k=3) (h4:ua.k=4) (hsl:ua.s.size≤20000):Calls prog 9 #[bI ua A1 c1 B1 d1] w (aD w (.int .i64 (gh ua))):=by
 have _:=ha;have hsn:ua.s.data.toList.length=ua.s.size:=by rw[Array.length_toList];rfl
 have hbx:∀x:UInt8,x.toNat<256:=fun x=>x.toNat_lt;refine zd func9 rfl ntmps9 rfl (jr ?_);rintro gv wA BX E1 G1;refine zq ?_;refine za rfl (zwz (cs:=#[.int .i64 ua.k,.bool ua.yes,.bool ua.neg,.slice A1 ua.xs.length c1,.int .u64 (ua.bits:Int),.string ua.s,.slice B1 ua.ni d1]) u28 rfl tL rfl rfl (fun j v hj↦by have h:=(BX.cell j).trans hj;rw[Nat.zero_add];exact h) (za rfl (zc fC rfl ((qc _ ua A1 B1 c1 d1 (Per.aF hx _ E1) hl true g1).mono ?_))));rintro e w1 ⟨rfl,hb⟩;refine ⟨_,rfl,?_⟩;have E2:=E1.trans (Ext.of_below hb No);have BX2:=BX.ext (Ext.of_below hb No) (fun h=>h.elim);refine JR ?_;refine yn 11 rfl (sw h0) (zn ?_);refine yn 13 rfl (sw h3) (zn ?_);refine qk 18 rfl (sw h4) (ya ?_);refine jt ?_;refine yu ?_;refine za rfl (zvv u9 u46 underlying5 rfl rfl rfl ?_);rintro gx cx wC RX E5 GX;have E6:=E2.trans E5;refine ya ?_;refine qt (ι:=Nat) (fun i=>[(3,.int .i64 (((ua.s.data.toList.take i).foldl go ua.s.size:Nat):Int)),(25,.slice (some ⟨gx,0,none⟩) ua.s.size cx),(26,.int .i64 (ua.s.size:Int)),(27,.int .i64 ((i:Nat):Int))]) (fun i w'=>i≤ua.s.size∧Ext No wC w') (fun i=>ua.s.size-i) 0 ⟨rfl,rfl,rfl,rfl,trivial⟩ (⟨Nat.zero_le _,Ext.refl _ _⟩) ?_;rintro i w3 ⟨hin,XI⟩;refine zq ?_;refine zg rfl (fun hic=>?_) (fun hic=>?_)
 ·
  have hic:=of_decide_eq_true hic;have hil:i<ua.s.size:=om;obtain ⟨x,hxl⟩:∃x,ua.s.data.toList[i]? =some x:=⟨_,List.getElem?_eq_getElem om⟩;have hxb:=hbx x;obtain ⟨m,hm⟩:∃m,m=(ua.s.data.toList.take i).foldl go ua.s.size:=⟨_,rfl⟩;have hml:m<2147483647:=by rw[hm];exact F9 _ _ om
  have hcell:∀z,Ext No wC z→z.cell? ⟨gx,0+i,none⟩=some (.int .u8 (x.toNat:Int)):=fun z hz=>by
   rw[Nat.zero_add];exact Per.ab5 RX z hz i (.int .u8 (x.toNat:Int)) (by rw[List.getElem?_map,hxl];rfl)
  rw[←hm];refine zy 3 (.int .i64 ((m:Nat):Int)) rfl (rfl) (z8 ?_);refine ya ?_;refine zkq ?_;refine aN ?_;refine yiq ?_;refine yc ?_;refine za rfl (ju rfl rfl de (Ov m x.toNat) (jl ?_));exact yk (i+1) (by show ua.s.size-(i+1)<ua.s.size-i;omega) ⟨by rw[pq hxl,←hm];rfl,rfl,rfl,rfl,trivial⟩ (⟨om,XI⟩)
 ·
  have hic:=of_decide_eq_false hic;obtain rfl:i=ua.s.size:=om;refine oe ?_;exact ⟨by unfold gh Ou;rw[g1,if_pos rfl,if_neg h0,if_neg h3,if_pos h4,hsn,List.take_of_length_le om];rfl,(E6.trans XI).toBelow⟩
theorem sV:Calls prog 9 #[bI ua A1 c1 B1 d1] w (aD w (.int .i64 (gh ua))):=by
 cases g1:ua.good
 · exact ph0 w ua A1 B1 c1 d1 hx hl ha g1
 by_cases h0:ua.k=0
 · exact ph1 w ua A1 B1 c1 d1 hx hl ha g1 h0
 by_cases h3:ua.k=3
 · exact ph2 w ua A1 B1 c1 d1 hx hl ha g1 h0 h3
 by_cases h4:ua.k=4
 · exact ph3 w ua A1 B1 c1 d1 hx hl ha g1 h0 h3 h4 (PV.F8 g1 h4)
 · exact ph4 w ua A1 B1 c1 d1 hx hl ha g1 h0 h3 h4
end
end
end Go.Proofs.YtdofcnodhgaedaaGreatDoor
namespace Go.Proofs.YtdofcnodhgaedaaGreatDoor
open Go.RowKit Proofs.Tryz
theorem Aa {P Q:Prop} (k:Q) (h:(Unit→Q)→P:=by
 intro zK;refine qu ?_;refine jt ?_;refine EA ?_;refine xv 25 rfl (by rw[decide_eq_true om]) (zn ?_);refine qk 30 rfl (by rw[decide_eq_true om]) (qa ?_);exact zK ()):P:=h fun _=>k
theorem Ab {P Q:Prop} (k:Q) (h:(Unit→Q)→P:=by
 intro zK;refine za rfl (oi (l:=1) (h:=S.size) u9 rfl ⟨_,rfl⟩ rfl om (Nat.le_refl _) (ze 41 (.string T) rfl (by rw[hTd]<;>rfl) (zq ?_)));refine jt ?_;refine yl ?_;refine yn 44 rfl (by rw[decide_eq_false om]) (vc ?_);refine za rfl (zvv u9 u46 underlying5 rfl rfl rfl ?_);exact zK ()):P:=h fun _=>k
theorem sW {P:Prop} (h:P:=by
 rw[Array.length_toList] at h;exact h):P:=h
theorem al3 {P:Prop} (h:P:=by
 have hic:=of_decide_eq_true hic;have hil:i<T.size:=om;obtain ⟨x,hxl⟩:∃x,ds[i]? =some x:=⟨_,List.getElem?_eq_getElem om⟩;have hxd:=hd x (List.mem_of_getElem? hxl);have hnx:=Ji hxl;have hb0:=yzk (ds.take i) 0 (fun c hc=>hd c (List.mem_of_mem_take hc));have hp:10^(ds.take i).length≤10^3:=Nat.pow_le_pow_right de (by rw[List.length_take];omega);obtain ⟨m,hm⟩:∃m,m=rP 0 (ds.take i):=⟨_,rfl⟩;have hml:m<1000:=by rw[hm];omega
 have hcell:∀z,Ext No wC z→z.cell? ⟨gx,0+i,none⟩=some (.int .u8 (x.toNat:Int)):=fun z hz=>by
  rw[Nat.zero_add];exact Per.ab5 RX z hz i (.int .u8 (x.toNat:Int)) (by rw[hT,List.getElem?_map,hxl];rfl)
 rw[←hm];refine zy 6 (.int .i64 ((m:Nat):Int)) rfl (rfl) (zq ?_);refine za rfl (vd (j:=i) u46 dw rfl rfl rfl hil (za rfl (jm underlying5 rfl rfl (hcell _ XI) (zq ?_))));refine za rfl (vq rfl rfl (UC om) (yd ?_));refine yn 56 rfl (by rw[decide_eq_false om]<;>rfl) (ya ?_);refine za rfl (jw rfl rfl (yj om) (aN ?_));refine za rfl (jd underlying3 underlying5 rfl (yj om) (za rfl (vu rfl rfl (yj om) (ya ?_))));refine za rfl (vu rfl rfl (yj om) (zo ?_));refine yi 6 (.int .i64 ((rP 0 (ds.take (i+1)):Nat):Int)) rfl ((by rw[hnx,←hm];congr 1;omega:(.int .i64 ((((m:Nat):Int)*10)+((x.toNat:Int)-48)):Value)=_)) ?_;exact yk (i+1) (by show T.size-(i+1)<T.size-i;omega) ⟨rfl,rfl,rfl,rfl,rfl,trivial⟩ (⟨om,XI⟩)):P:=h
theorem yzk:∀(l:List UInt8) (n:Nat),(∀c∈l,48≤c.toNat∧c.toNat≤57)→rP n l<(n+1)*10^l.length
 | [],n,_=>by show n<(n+1)*1;omega
 | c::l,n,h=>by
  have h1:=h c (List.mem_cons_self ..);have h2:=yzk l (n*10+(c.toNat-48)) (fun d hd=>h d (List.mem_cons_of_mem _ hd));have h3:(n*10+(c.toNat-48)+1)*10^l.length≤(n+1)*10*10^l.length:=Nat.mul_le_mul_right _ om;show rP (n*10+(c.toNat-48)) l<(n+1)*10^(l.length+1)
  rw[Nat.pow_succ,Nat.mul_comm (10^l.length) 10,←Nat.mul_assoc];omega
theorem Ji {l:List UInt8} {k:Nat} {c:UInt8} (h:l[k]? =some c):rP 0 (l.take (k+1))=rP 0 (l.take k)*10+(c.toNat-48):=by
 obtain ⟨hk,rfl⟩:=List.getElem?_eq_some_iff.1 h;rw[List.take_succ_eq_append_getElem hk,yqk]
theorem lY (S:ByteArray) (n:Nat):(S.extract n S.size).data.toList=S.data.toList.drop n:=by
 rw[ByteArray.data_extract,Array.toList_extract];show ((S.data.toList.drop n).take (S.data.size-n))=S.data.toList.drop n
 rw[List.take_of_length_le (by rw[List.length_drop,Array.length_toList];exact Nat.le_refl _)]
theorem yov {S:ByteArray} {x:UInt8} {l:List UInt8} (h:S.data.toList=x::l):(S.data[0]?).map (·.toNat)=some x.toNat:=by
 rw[←Array.getElem?_toList,h];rfl
attribute [local irreducible] OW RS CW EW
section
variable (w:World)
theorem ZM (S:ByteArray) (ds:List UInt8) (hS:S.data.toList=45::ds) (hl:ds.length=2∨ds.length=3) (hd:∀c∈ds,48≤c.toNat∧c.toNat≤57):Calls prog 107 #[.string S] w (aD w (.tuple #[.int .i64 (0-((rP 0 ds:Nat):Int)),.nilIface])):=by
 have hn:S.size=ds.length+1:=by
  have h:=congrArg List.length hS;exact sW
 obtain ⟨T,hTd⟩:∃T,T=S.extract 1 S.size:=⟨_,rfl⟩;have hT:T.data.toList=ds:=by rw[hTd,lY,hS];rfl
 have hTn:T.size=ds.length:=by
  have h:=congrArg List.length hT;exact sW
 refine zd func107 rfl ntmps107 rfl (Aa ?_);refine za rfl (qm (j:=0) (b:=45) u9 rfl rfl rfl (yov hS) ?_);have _:=hd;refine vc ?_;refine Ab ?_;rintro gx cx wC RX E5 GX;refine ya ?_;refine zy 6 (.int .i64 ((rP 0 (ds.take 0):Nat):Int)) rfl (rfl) (qt (ι:=Nat) (fun i=>[(5,.string S),(6,.int .i64 ((rP 0 (ds.take i):Nat):Int)),(47,.slice (some ⟨gx,0,none⟩) T.size cx),(48,.int .i64 (T.size:Int)),(49,.int .i64 ((i:Nat):Int))]) (fun i w'=>i≤T.size∧Ext No wC w') (fun i=>T.size-i) 0 ⟨rfl,rfl,rfl,rfl,rfl,trivial⟩ (⟨Nat.zero_le _,Ext.refl _ _⟩) ?_);rintro i w2 ⟨hin,XI⟩;refine zq ?_;refine zg rfl (fun hic=>?_) (fun hic=>?_)
 ·
  exact al3
 ·
  have hic:=of_decide_eq_false hic;have hie:ds.take i=ds:=List.take_of_length_le om;rw[hie];have hb0:=yzk ds 0 hd;have hp:10^ds.length≤10^3:=Nat.pow_le_pow_right de om;refine zy 6 (.int .i64 ((rP 0 ds:Nat):Int)) rfl (rfl) (qu ?_);refine za rfl (qm (j:=0) (b:=45) u9 rfl rfl rfl (yov hS) (zq ?_));refine js ?_;refine kb ?_;exact ⟨rfl,(E5.trans XI).toBelow⟩
theorem ZN (S:ByteArray) (ds:List UInt8) (hS:S.data.toList=43::ds) (hl:ds.length=2∨ds.length=3) (hd:∀c∈ds,48≤c.toNat∧c.toNat≤57):Calls prog 107 #[.string S] w (aD w (.tuple #[.int .i64 (((rP 0 ds:Nat):Int)),.nilIface])):=by
 have hn:S.size=ds.length+1:=by
  have h:=congrArg List.length hS;exact sW
 obtain ⟨T,hTd⟩:∃T,T=S.extract 1 S.size:=⟨_,rfl⟩;have hT:T.data.toList=ds:=by rw[hTd,lY,hS];rfl
 have hTn:T.size=ds.length:=by
  have h:=congrArg List.length hT;exact sW
 refine zd func107 rfl ntmps107 rfl (Aa ?_);refine za rfl (qm (j:=0) (b:=43) u9 rfl rfl rfl (yov hS) (yl ?_));refine fU rfl (qm (j:=0) (b:=43) u9 rfl rfl rfl (yov hS) (yu ?_));refine Ab ?_;rintro gx cx wC RX E5 GX;refine ya ?_;refine zy 6 (.int .i64 ((rP 0 (ds.take 0):Nat):Int)) rfl (rfl) (qt (ι:=Nat) (fun i=>[(5,.string S),(6,.int .i64 ((rP 0 (ds.take i):Nat):Int)),(47,.slice (some ⟨gx,0,none⟩) T.size cx),(48,.int .i64 (T.size:Int)),(49,.int .i64 ((i:Nat):Int))]) (fun i w'=>i≤T.size∧Ext No wC w') (fun i=>T.size-i) 0 ⟨rfl,rfl,rfl,rfl,rfl,trivial⟩ (⟨Nat.zero_le _,Ext.refl _ _⟩) ?_);rintro i w2 ⟨hin,XI⟩;refine zq ?_;refine zg rfl (fun hic=>?_) (fun hic=>?_)
 ·
  exact al3
 ·
  have hic:=of_decide_eq_false hic;have hie:ds.take i=ds:=List.take_of_length_le om;rw[hie];have hb0:=yzk ds 0 hd;have hp:10^ds.length≤10^3:=Nat.pow_le_pow_right de om;refine zy 6 (.int .i64 ((rP 0 ds:Nat):Int)) rfl (rfl) (qu ?_);refine za rfl (qm (j:=0) (b:=43) u9 rfl rfl rfl (yov hS) (od ?_));exact ⟨rfl,(E5.trans XI).toBelow⟩
theorem Ac (S:ByteArray) (p:Int) (hp:-1000<p∧p<1000) (hS:S.data.toList=gL p):Calls prog 72 #[.string S] w (aD w (.tuple #[.int .i64 p,.nilIface])):=by
 obtain ⟨u,hu⟩:∃u,u=p.natAbs:=⟨_,rfl⟩;have hv:=Ls u;have hl:=j6 (u:=u) om;have hd:=Cm u;rw[gL,←hu] at hS;have key:∀w,Calls prog 107 #[.string S] w (aD w (.tuple #[.int .i64 p,.nilIface])):=by
  intro w;by_cases h:p<0
  · rw[if_pos h] at hS;have:=ZM w S (gY u) hS hl hd;rw[hv,show 0-((u:Nat):Int)=p from om] at this;exact this
  · rw[if_neg h] at hS;have:=ZN w S (gY u) hS hl hd;rw[hv,show ((u:Nat):Int)=p from om] at this;exact this
 refine zd func72 rfl ntmps72 rfl ?_;have LW:=aB (No) w;have ak:=aP (No) w;have E:=aB (No) w;refine qu ?_;refine zb acj (key _) E fun w1 E=>(qa ?_);refine za rfl (Ql underlying63 rfl (uP ?_));exact gi
end
end Go.Proofs.YtdofcnodhgaedaaGreatDoor
namespace Go.Proofs.YtdofcnodhgaedaaGreatDoor
open Go.RowKit Proofs.Tryz
theorem Ad {P Q:Prop} (k:Q) (h:(Unit→Q)→P:=by
 intro zK;refine za rfl (oi (l:=(vi b).length+1) (h:=(⟨(ky b).toArray⟩:ByteArray).size) u9 rfl ⟨_,rfl⟩ rfl om (Nat.le_refl _) ?_);exact zK ()):P:=h fun _=>k
theorem ku {P:Prop} (h:P:=by
 exact ⟨by rw[hX];rfl,aT LW E ak⟩):P:=h
theorem Ga {b:Nat} (h:aY b=false) (hi:rg b≠9218868437227405312):jf b≠2047:=by
 unfold aY at h;have h:=of_decide_eq_false h;unfold rg at h hi;unfold jf;omega
theorem ZO {b:Nat} (hb:b<18446744073709551616):decide (9223372036854775808≤b)=ng b:=by
 unfold ng;by_cases h:9223372036854775808≤b
 · rw[decide_eq_true h,show b/9223372036854775808%2=1 from om];rfl
 · rw[decide_eq_false h,show b/9223372036854775808%2=0 from om];rfl
theorem ZP {b:Nat} (he:jf b≠2047):Lib.indexByte (⟨(ky b).toArray⟩:ByteArray).data.toList ((101:Int).toNat.toUInt8)=((vi b).length:Int):=by
 show Lib.indexByte (ky b) 101=_
 rw[zgk,VJ (xH he)]
theorem Gb (b:Nat):((⟨(ky b).toArray⟩:ByteArray).extract ((vi b).length+1) (⟨(ky b).toArray⟩:ByteArray).size).data.toList=gL (fP b):=by
 rw[lY];show (ky b).drop ((vi b).length+1)=_
 rw[zgk,List.drop_append];simp
theorem Ae (b:Nat):(⟨(ky b).toArray⟩:ByteArray).size=(vi b).length+1+(gL (fP b)).length:=by
 show (ky b).toArray.size=_
 rw[List.size_toArray,zgk,List.length_append,List.length_cons];omega
theorem SV (b:Nat):(vp (ng b)).length≤1:=yjz _
theorem ZQ (s:ByteArray) (c:Int) (w:World):Calls prog 71 #[.string s,.int .u8 c] w fun e w'=>e= .returned (.int .i64 (Lib.indexByte s.data.toList c.toNat.toUInt8))∧Below w.heap.size w w':=
 (Tryz.strings_IndexByte s c w).mono fun _ _ ⟨a,b⟩=>⟨a,b▸Below.refl _ _⟩
theorem Jj (s:ByteArray) (c:UInt8) (w:World):Calls prog 73 #[.string s,.string ⟨#[c]⟩] w fun e w'=>e= .returned (.bool (decide (c∈s.data.toList)))∧Below w.heap.size w w':=
 (Tryz.strings_Contains_one s c w).mono fun _ _ ⟨a,b⟩=>⟨by rw[a,YN],b▸Below.refl _ _⟩
theorem lZ {p:Int} (h:-1000<p∧p<1000):(gL p).length≤4:=by
 unfold gL;have:=j6 (u:=p.natAbs) om;rw[List.length_cons];omega
theorem yux {b:Nat} (he:jf b≠2047):(vi b).length≤30:=by
 unfold vi;rw[List.length_append];have h:=yjz (decide (9223372036854775808≤b));split
 · show _+1≤_;omega
 · rename_i h0
   have hF:=(xc h0 he).1;have h1:=hF.len;unfold gg;rw[List.length_append,List.length_take];split
   · rw[List.length_cons,List.length_drop];omega
   · show _+(_+0)≤_;omega
attribute [local irreducible] OW RS CW EW
section
variable (w:World) (hT:∀b,Below w.heap.size w b→bY b) (hD:∀b,Below w.heap.size w b→dH b) (b:Nat) (hb:b<18446744073709551616)
include hT hD hb
theorem Jk:Calls prog 35 #[.int .u64 ((b:Nat):Int)] w (aD w (.string ⟨(xu b).toArray⟩)):=by
 refine zd func35 rfl ntmps35 rfl ?_;have LW:=aB (No) w;have ak:=aP (No) w;have E:=aB (No) w;refine yu ?_;refine za rfl (gf (b:=b) uS rfl (qu ?_));refine kz ?_;refine yl ?_;by_cases hn:aY b=true
 ·
  have hX:xu b= [110,97,110]:=by rw[xu,if_pos hn]
  refine qk 10 rfl (by rw[jy,hn]<;>rfl) (yd ?_);exact ku
 ·
  have hn:=Bool.eq_false_iff.2 hn;refine yn 10 rfl (by rw[jy,hn]<;>rfl) (yf ?_);refine zb fD (vb _ b hb) E fun w1 E=>?_;by_cases hi:rg b=9218868437227405312
  ·
   refine yl ?_;refine qk 14 rfl (by rw[decide_eq_true hi]<;>rfl) (ya ?_);refine za rfl (qbx rfl rfl (zo ?_));refine zy 18 (.bool (ng b)) rfl (by rw[jN hn om]<;>rfl) (zg rfl (fun h=>?_) (fun h=>?_))
   ·
    have hX:xu b= [45,105,110,102]:=by rw[xu,if_neg (by rw[hn];decide),if_pos hi,if_pos h]
    refine yd ?_;exact ku
   ·
    have hX:xu b= [105,110,102]:=by rw[xu,if_neg (by rw[hn];decide),if_pos hi,if_neg (by rw[h];decide)]
    refine qa ?_;exact ku
  ·
   have he:=Ga hn hi;have hX:xu b=LA b:=by rw[xu,if_neg (by rw[hn];decide),if_neg hi]
   have hp:=Ml he;have hsz:=Ae b;have hl1:=yux he;have hl2:=lZ hp;refine yl ?_;refine yn 14 rfl (by rw[decide_eq_false hi]<;>rfl) (zn ?_);refine zb XG (oH _ (later hT (LW.step E ak).toBelow) (later hD (LW.step E ak).toBelow) b hb he) E fun w2 E=>(zq ?_);refine zb aq4 (ZQ _ _ _) E fun w3 E=>(ze 22 (.int .i64 (((vi b).length:Nat):Int)) rfl (by rw[ZP he]<;>rfl) (zn ?_));refine yc ?_;refine ze 26 (.int .i64 (((vi b).length+1:Nat):Int)) rfl (rfl) (Ad ?_);refine zb ac1 (Ac _ _ (fP b) hp (Gb b)) E fun w4 E=>(qu ?_);replace LW:=LW.step E ak;replace E:=aB (No) w4;refine vk (ι:=Bool) (fun t=>[(3,.float .f64 b),(4,.string ⟨(ky b).toArray⟩),(36,.bool t)]) (fun t w'=>Ext (No) w4 w'∧((t=true↔(fP b< -4∨15<fP b)))) ?_ ?_
   ·
    have M5:=aB (No) w4;have Ym:=aP (No) w4;by_cases h1:fP b< -4
    ·
     refine yf ?_;refine xv 33 rfl (by rw[decide_eq_true h1]<;>rfl) (yf ?_);exact yy true ⟨rfl,rfl,rfl,trivial⟩ ⟨M5.step E Ym,⟨fun _=>Or.inl h1,fun _=>rfl⟩⟩
    ·
     refine yf ?_;refine gy 33 rfl (by rw[decide_eq_false h1]<;>rfl) (yf ?_);exact yy (decide (15<fP b)) ⟨rfl,rfl,rfl,trivial⟩ ⟨M5.step E Ym,⟨fun h=>Or.inr (of_decide_eq_true h),fun h=>decide_eq_true (h.resolve_left h1)⟩⟩
   ·
    rintro t w6 ⟨M5,ht⟩;replace E:=E.trans M5;replace LW:=LW.step E ak;replace E:=aB (No) w6;refine zg rfl (fun h2=>?_) (fun h2=>?_)
    ·
     have hY:=Hw (ht.1 h2);refine qu ?_;exact ⟨by rw[hX,hY];rfl,aT LW E ak⟩
    ·
     have h3:¬(fP b< -4∨15<fP b):=fun h=>by rw[ht.2 h] at h2;cases h2
     refine ya ?_;refine zb XG (Hu _ (later hT (LW.step E ak).toBelow) (later hD (LW.step E ak).toBelow) b hb he) E fun w7 E=>(zn ?_);refine zb aq5 (Jj _ _ _) E fun w8 E=>?_;by_cases hm:(46:UInt8)∈kx b
     ·
      have hY:=Hy he h3 hm;refine yl ?_;refine yn 42 rfl (by rw[show (⟨(kx b).toArray⟩:ByteArray).data.toList=kx b from rfl,decide_eq_true hm];rfl) (qa ?_);exact ⟨by rw[hX,hY];rfl,aT LW E ak⟩
     ·
      have hY:=Mq he h3 hm;have hfl:=Mr he;have hfs:(⟨(kx b).toArray⟩:ByteArray).size=(kx b).length:=rfl;refine yl ?_;refine qk 42 rfl (by rw[show (⟨(kx b).toArray⟩:ByteArray).data.toList=kx b from rfl,decide_eq_false hm];rfl) (yl ?_);refine za rfl (ve rfl rfl (by rw[hfs];show _+2≤_;omega) (qa ?_));exact ⟨by rw[hX,hY,←qh];rfl,aT LW E ak⟩
end
end Go.Proofs.YtdofcnodhgaedaaGreatDoor
namespace Go.Proofs.YtdofcnodhgaedaaGreatDoor
open Go.RowKit Proofs.Tryz
section
attribute [local irreducible] OW RS CW EW
theorem al8 {P:Prop} (h:P:=by
 refine zy 4 (.int .i64 (((limbs i).length:Int)-1-((0:Nat):Int))) rfl (by simp) ?_;replace HF:=HF.on E;replace LW:=LW.step E ak;replace E:=aB (No) w3;refine qt (ι:=Nat) (fun k=>[(1,.pointer (some ⟨aK,0,none⟩)),(3,.string ⟨(jq i k).toArray⟩),(4,.int .i64 (((limbs i).length:Int)-1-(k:Int)))]) (fun k w'=>Ext (No) w3 w'∧(k≤(limbs i).length)) (fun k=>(limbs i).length-k) 0 ⟨rfl,rfl,rfl,trivial⟩ ⟨Ext.refl _ _,Nat.zero_le _⟩ ?_;rintro k w5 ⟨M4,hk⟩;have XM4:=aP (No) w3;replace E:=E.trans M4;replace HF:=HF.on E;replace LW:=LW.step E ak;replace E:=aB (No) w5;refine zn ?_;refine zg rfl (fun q=>?_) (fun q=>?_)
 ·
  have q:=of_decide_eq_true q;obtain ⟨m,hm⟩:∃m,m=i.natAbs/au^((limbs i).length-1-k)%au:=⟨_,rfl⟩;have hm18:m<au:=by rw[hm];exact Nat.mod_lt _ (by unfold au;omega)
  have RN:m<18446744073709551616:=by unfold au at hm18;omega
  have hnd:=mo hm18;have hlt:=DY (i:=i) hk hl2;have hdl:=Lib.decDigits_length m;refine qu ?_;refine za rfl (vd (j:=(limbs i).length-1-k) u22 uy rfl rfl om om ?_);obtain ⟨b9,o9,P9,_,WA⟩:=((HF.on E).here.1.2).2 hpos;obtain ⟨rfl,rfl⟩:b9=bx∧o9=ox:=by simpa using P9.symm
  have hc8:=WA ((limbs i).length-1-k) om;rw[OE,←hm] at hc8;refine za rfl (jm u25 rfl rfl hc8 (zb aq3 (au5 m RN _ (ht.below (LW.step E ak).toBelow)) E fun w6 E=>(yd ?_)));refine za rfl (vq rfl rfl (yj om) (yl ?_));refine zg rfl (fun h2=>?_) (fun h2=>?_)
  ·
   have h2:=of_decide_eq_true h2;have hk0:0<k:=om;refine zo ?_;refine za rfl (ylx u9 rfl (ze 36 (.int .i64 ((Lib.nDigits m:Nat):Int)) rfl (by rw[ZT,hdl]) (za rfl (oi (l:=Lib.nDigits m) (h:=18) u9 rfl ⟨_,rfl⟩ rfl hnd (Nat.le_refl _) (ze 37 (.string ⟨(List.replicate (18-Lib.nDigits m) (48:UInt8)).toArray⟩) rfl (by rw[Ao]<;>rfl) (aN ?_))))));refine za rfl (ve rfl rfl (by rw[ZT,ZT,List.length_replicate,hdl];omega) (ze 39 (.string ⟨(List.replicate (18-Lib.nDigits m) (48:UInt8)++Lib.decDigits m).toArray⟩) rfl (by rw[DZ]<;>rfl) (zq ?_)));refine za rfl (ve rfl rfl (by rw[ZT,ZT,List.length_append,List.length_replicate,hdl];omega) (ze 42 (.string ⟨(jq i (k+1)).toArray⟩) rfl (by rw[DZ,hm,ywk hk0 om]<;>rfl) (zq ?_)));refine za rfl (vq rfl rfl (yj om) (zo ?_));refine yi 4 (.int .i64 (((limbs i).length:Int)-1-((k+1:Nat):Int))) rfl ((by rw[show ((limbs i).length:Int)-1-(k:Int)-1=((limbs i).length:Int)-1-((k+1:Nat):Int) from om]:(.int .i64 ((((limbs i).length:Int)-1-(k:Int))-1):Value)=_)) ?_;exact yk (k+1) (by show (limbs i).length-(k+1)<(limbs i).length-k;omega) ⟨rfl,rfl,rfl,trivial⟩ ⟨M4.step E XM4,(by omega:k+1≤(limbs i).length)⟩
  ·
   have h2:=of_decide_eq_false h2;have hk0:k=0:=om;have hone:jq i k++Lib.decDigits m=jq i (k+1):=by rw[hm,hk0];exact mq hpos
   refine ya ?_;refine za rfl (ve rfl rfl (by rw[ZT,ZT,hdl];omega) (ze 42 (.string ⟨(jq i (k+1)).toArray⟩) rfl (by rw[DZ,hone]<;>rfl) (zq ?_)));refine za rfl (vq rfl rfl (yj om) (zo ?_));refine yi 4 (.int .i64 (((limbs i).length:Int)-1-((k+1:Nat):Int))) rfl ((by rw[show ((limbs i).length:Int)-1-(k:Int)-1=((limbs i).length:Int)-1-((k+1:Nat):Int) from om]:(.int .i64 ((((limbs i).length:Int)-1-(k:Int))-1):Value)=_)) ?_;exact yk (k+1) (by show (limbs i).length-(k+1)<(limbs i).length-k;omega) ⟨rfl,rfl,rfl,trivial⟩ ⟨M4.step E XM4,(by omega:k+1≤(limbs i).length)⟩
 ·
  have q:=of_decide_eq_false q;obtain rfl:k=(limbs i).length:=om;refine kb ?_;exact ⟨by rw[DX hpos];rfl,aT LW E ak⟩):P:=h
def Tab (w:World):Prop:=∀b,Below w.heap.size w b→Lib.TabIs prog b "internal/strconv.uint64pow10" .u64 Lib.pow10Tab
theorem Tab.below {w w':World} (h:Tab w) (hb:Below w.heap.size w w'):Tab w':=fun b hb'=>h b (hb.trans (hb'.mono hb.size))
theorem ZT (l:List UInt8):(⟨l.toArray⟩:ByteArray).size=l.length:=by simp[ByteArray.size]
theorem DZ (a b:List UInt8):(⟨a.toArray⟩:ByteArray)++ ⟨b.toArray⟩= ⟨(a++b).toArray⟩:=by
 apply ByteArray.ext
 rw[ByteArray.data_append];simp
theorem ZU (a:List UInt8) (l h:Nat):(⟨a.toArray⟩:ByteArray).extract l h= ⟨((a.take h).drop l).toArray⟩:=by
 apply ByteArray.ext
 rw[ByteArray.data_extract];apply Array.ext'
 simp[List.extract,List.drop_take]
theorem Ao {n:Nat}:(⟨#[48,48,48,48,48,48,48,48,48,48,48,48,48,48,48,48,48,48]⟩:ByteArray).extract n 18= ⟨(List.replicate (18-n) (48:UInt8)).toArray⟩:=by
 have h:=ZU (List.replicate 18 48) n 18;rw[List.take_of_length_le (by simp),List.drop_replicate] at h;exact h
theorem au5 (u:Nat) (hu64:u<18446744073709551616) (w:World) (ht:Tab w):Calls prog 69 #[.int .u64 u,.int .i64 10] w (aD w (.string ⟨(Lib.decDigits u).toArray⟩)):=by
 refine zd func69 rfl ntmps69 rfl ?_;have LW:=aB (No) w;have ak:=aP (No) w;have E:=aB (No) w;refine qu ?_;refine zb acz (Rn u hu64 _ (ht.below (LW.step E ak).toBelow)) E fun w1 E=>?_;exact GD
section
variable (i:Int) (A:Option Addr) (c:Nat) (w:World) (hi:i.natAbs<au^30) (hx:ay w A (limbs i)) (ht:Tab w)
include hi hx ht
theorem Jw (h0:i=0):Calls prog 34 #[.agg #[.bool (decide (i<0)),.slice A (limbs i).length c]] w (aD w (.string ⟨(Lib.itoa i).toArray⟩)):=by
 have _:=ht;have hl:((limbs i).length:Int)=0:=by rw[h0,qn];rfl
 refine zh func34 ntmps34 fun HF LW ak E=>?_;replace HF:=HF.and (Per.aF hx);refine zo ?_;refine zl HF LW E ak fun aK w2 HF LW E=>?_;refine zn ?_;refine zb uG (Ig A c _ hi (HF.on E).here.1.2) E fun w3 E=>(oe ?_);refine qk 12 rfl (by rw[hl];rfl) ?_;exact WI
theorem OG (hn:i<0):Calls prog 34 #[.agg #[.bool (decide (i<0)),.slice A (limbs i).length c]] w (aD w (.string ⟨(Lib.itoa i).toArray⟩)):=by
 have hpos:=ybk (j:=i) om;have hl:((limbs i).length:Int)≠0:=om;have hl2:=vf hi;have hdi:decide (i<0)=true:=decide_eq_true hn;obtain ⟨bx,ox,rfl,hbx,hcx⟩:=hx.2 hpos;refine zh func34 ntmps34 fun HF LW ak E=>?_;replace HF:=HF.and (Per.aF hx);refine zo ?_;refine zl HF LW E ak fun aK w2 HF LW E=>?_;refine zn ?_;refine zb uG (Ig _ c _ hi (HF.on E).here.1.2) E fun w3 E=>(oe ?_);refine yn 12 rfl (by rw[beq_eq_false_iff_ne.2 hl]<;>rfl) (oe ?_);refine qk 14 rfl (by rw[hdi]<;>rfl) (qa ?_);refine zx ?_;refine yf ?_;refine zy 3 (.string ⟨(jq i 0).toArray⟩) rfl (by rw[ztk,if_pos hn]<;>rfl) ?_;exact al8
theorem OH (hn:0<i):Calls prog 34 #[.agg #[.bool (decide (i<0)),.slice A (limbs i).length c]] w (aD w (.string ⟨(Lib.itoa i).toArray⟩)):=by
 have hpos:=ybk (j:=i) om;have hl:((limbs i).length:Int)≠0:=om;have hl2:=vf hi;have hdi:decide (i<0)=false:=decide_eq_false om;obtain ⟨bx,ox,rfl,hbx,hcx⟩:=hx.2 hpos;refine zh func34 ntmps34 fun HF LW ak E=>?_;replace HF:=HF.and (Per.aF hx);refine zo ?_;refine zl HF LW E ak fun aK w2 HF LW E=>?_;refine zn ?_;refine zb uG (Ig _ c _ hi (HF.on E).here.1.2) E fun w3 E=>(oe ?_);refine yn 12 rfl (by rw[beq_eq_false_iff_ne.2 hl]<;>rfl) (oe ?_);refine yn 14 rfl (by rw[hdi]<;>rfl) (qu ?_);refine zx ?_;refine yf ?_;refine zy 3 (.string ⟨(jq i 0).toArray⟩) rfl (by rw[ztk,if_neg om]<;>rfl) ?_;exact al8
theorem al9:Calls prog 34 #[.agg #[.bool (decide (i<0)),.slice A (limbs i).length c]] w (aD w (.string ⟨(Lib.itoa i).toArray⟩)):=by
 rcases Int.lt_trichotomy i 0 with h | h | h
 · exact OG i A c w hi hx ht h
 · exact Jw i A c w hi hx ht h
 · exact OH i A c w hi hx ht h
end
theorem Ap {P Q:Prop} (k:Q) (h:(Unit→Q)→P:=by
 intro zK;refine ya ?_;refine za rfl (UA u59 rfl rfl hb rfl (za rfl (Td u59 rfl rfl ?_)));exact zK ()):P:=h fun _=>k
theorem OL:mO prog 110 Extern.AbiNoEscape.same:=⟨_,func110,kr,kr,kr,kr⟩
theorem mD:(prog.info? 61).map (·.size)=some 2:=kr
theorem OM:liesAt prog prog.depth 61 (2/prog.cellsOf 61) 0 61 1=true:=kr
def J2 (w:World) (lo b:Nat) (p:Value) (l:List UInt8) (F:Nat→Prop):Prop:=∃A c,aA w b 61 #[p,.slice A l.length c]∧w.ownsRow lo 5 1 (.slice A l.length c) l.length (Lib.byteCells l)∧ ∀q,(Value.slice A l.length c).ownBlock=some q→F q
def Adr (b:Nat) (p:Value):Prop:=p= .pointer none∨p= .pointer (some ⟨b,0,none⟩)
theorem J2.lib {w:World} {lo b:Nat} {p:Value} {l:List UInt8} {F:Nat→Prop} (h:J2 w lo b p l F) (hp:Adr b p) (hb:lo≤b):Lib.IsBuilder 61 5 lo b (Lib.byteCells l) w:=by
 obtain ⟨A,c,h1,h2,_⟩:=h;have hl:(Lib.byteCells l).length=l.length:=by unfold Lib.byteCells;simp
 have hne:(Value.slice A l.length c).ownBlock≠some b:=fun e=>by
  obtain ⟨cur,h3⟩:=lT h2 e;have h4:=h1.symm.trans h3;injection h4 with h4
  injection h4 with _ h4
  exact absurd h4 de
 rcases hp with rfl | rfl
 · exact Or.inl ⟨hb,_,h1,by rw[hl];exact h2,hne⟩
 · exact Or.inr ⟨hb,_,h1,by rw[hl];exact h2,hne⟩
theorem J2.no {w w':World} {lo b:Nat} {p:Value} {l:List UInt8} {F:Nat→Prop} (h:J2 w lo b p l F) (E:Ext No w w'):J2 w' lo b p l F:=by
 obtain ⟨A,c,h1,h2,h3⟩:=h;exact ⟨A,c,h1.ext E (fun h=>h.elim),vw h2 E (fun _ _ h=>h.elim),h3⟩
section
variable (w:World) (lo b:Nat) (p:Value) (hp:Adr b p)
theorem Te (s0:Value) (hb:aA w b 61 #[.pointer none,s0]):Calls prog 74 #[.pointer (some ⟨b,0,none⟩)] w fun e w'=>e= .returned (.tuple #[])∧aA w' b 61 #[.pointer (some ⟨b,0,none⟩),s0]∧Ext (ah [some b]) w w':=by
 refine zd func74 rfl ntmps74 rfl (Ap ?_);refine zq ?_;refine za rfl (ZV u59 underlying124 mD de rfl hb (Nat.zero_lt_succ 1) (za rfl (iR (args:=[.pointer (some ⟨b,0,none⟩)]) (v:=.pointer (some ⟨b,0,none⟩)) OL rfl (Lib.run_noEscape _ _) (za rfl (OI underlying124 u59 mD rfl hb OM (zo ?_))))));refine yx (ysk (cs':=#[.pointer (some ⟨b,0,none⟩),s0]) ao5 rfl rfl hb rfl rfl (Nat.le_of_ble_eq_true rfl) rfl ?_);rintro wB B2 E2;refine aN ?_;refine Bz rfl ?_;exact ⟨rfl,B2,E2⟩
theorem Tf (s0:Value) (hb:aA w b 61 #[.pointer (some ⟨b,0,none⟩),s0]):Calls prog 74 #[.pointer (some ⟨b,0,none⟩)] w fun e w'=>e= .returned (.tuple #[])∧aA w' b 61 #[.pointer (some ⟨b,0,none⟩),s0]∧Ext (ah [some b]) w w':=by
 refine zd func74 rfl ntmps74 rfl (Ap ?_);refine yu ?_;refine za rfl (UA u59 rfl rfl hb rfl (aN ?_));refine za rfl (Jy u59 mD rfl rfl (yf ?_));refine Bz rfl ?_;exact ⟨rfl,hb,Ext.refl _ _⟩
include hp
theorem OO (s0:Value) (hb:aA w b 61 #[p,s0]):Calls prog 74 #[.pointer (some ⟨b,0,none⟩)] w fun e w'=>e= .returned (.tuple #[])∧aA w' b 61 #[.pointer (some ⟨b,0,none⟩),s0]∧Ext (ah [some b]) w w':=by
 rcases hp with rfl | rfl
 · exact Te w b s0 hb
 · exact Tf w b s0 hb
variable (l:List UInt8) (hl:l.length≤900000) (F:Nat→Prop) (h:J2 w lo b p l F) (hbl:lo≤b) (hF:∀q,w.heap.size≤q→F q)
include hl h hbl hF
theorem OP (x:UInt8):Calls prog 36 #[.pointer (some ⟨b,0,none⟩),.int .u8 (x.toNat:Int)] w fun e w'=>e= .returned .nilIface∧J2 w' lo b (.pointer (some ⟨b,0,none⟩)) (l++ [x]) F∧Ext (fun q=>q=b∨F q) w w':=by
 obtain ⟨A,c,hB,hO,hFb⟩:=h;have hlt:=hB.lt;refine zd func36 rfl ntmps36 rfl (yu ?_);refine za rfl (zc ac2 rfl ((OO _ b p hp _ hB).mono ?_));rintro e w1 ⟨rfl,hB2,hE⟩;refine ⟨_,rfl,?_⟩;have hO2:=xx hO hB de hE;have hs:=hE.size;refine yu ?_;refine za rfl (UA u46 rfl rfl hB2 rfl (aN ?_));refine kH ?_;rintro gx wI Bx E17 Gx;have O17:=vw hO2 E17 (fun _ _ h=>h.elim);have B17:=hB2.ext E17 (fun h=>h.elim);have azq:=E17.size;refine za rfl (yfv (n':=(l++ [x]).length) (xs':=Lib.byteCells (l++ [x])) u46 iV rfl de rfl O17 rfl (yfx Bx Bx.lt rfl) (by simp[Value.oneCell']) (by rw[List.length_append];rfl) (by unfold Lib.byteCells;rw[List.map_append];rfl) (by rw[List.length_append];unfold maxLen;simp;omega) (by rw[List.length_append];simp;omega) om ?_);rintro A5 c5 wJ O18 E18 N18;have au:=o7 B17 O17 de E18;refine zo ?_;refine yx (ysk (cs':=#[.pointer (some ⟨b,0,none⟩),.slice A5 (l++ [x]).length c5]) ab6 rfl rfl au rfl rfl (Nat.le_of_ble_eq_true rfl) rfl ?_);rintro wK B19 E19;have O19:=xx O18 au de E19;refine qu ?_;exact ⟨rfl,⟨A5,c5,B19,O19,fun q hq=>(N18 q hq).elim (hFb q) (fun h=>hF q om)⟩,(((hE.mono (Y:=fun q=>q=b∨F q) (fun q hq _=>Or.inl (nD hq))).step E17 (fun _ h=>h.elim)).step E18 (fun q hq=>Or.inl (Or.inr (hFb q (qbz hq))))).step E19 (fun q hq=>Or.inl (Or.inl (nD hq)))⟩
theorem qcv (s:ByteArray) (hs1:s.size≤1000) (hl0:0<l.length):Calls prog 37 #[.pointer (some ⟨b,0,none⟩),.string s] w fun e w'=>e= .returned (.tuple #[.int .i64 (s.size:Int),.nilIface])∧J2 w' lo b (.pointer (some ⟨b,0,none⟩)) (l++s.data.toList) F∧Ext (fun q=>q=b∨F q) w w':=by
 obtain ⟨A,c,hB,hO,hFb⟩:=h;have hlt:=hB.lt;have hsl:s.data.toList.length=s.size:=by rw[Array.length_toList];rfl
 refine zd func37 rfl ntmps37 rfl (qu ?_);refine za rfl (zc ac2 rfl ((OO _ b p hp _ hB).mono ?_));rintro e w1 ⟨rfl,hB2,hE⟩;refine ⟨_,rfl,?_⟩;have hO2:=xx hO hB de hE;have hs:=hE.size;refine yu ?_;refine za rfl (UA u46 rfl rfl hB2 rfl (aN ?_));refine za rfl (tF (n':=(l++s.data.toList).length) u46 u9 iV rfl hO2 hl0 rfl (by rw[List.length_append,hsl]) (by rw[List.length_append,hsl];omega) om ?_);rintro A5 c5 wJ O18 E18 N18;have O18:wJ.ownsRow lo 5 1 (.slice A5 (l++s.data.toList).length c5) (l++s.data.toList).length (Lib.byteCells (l++s.data.toList)):=by
  have e:Lib.byteCells (l++s.data.toList)=Lib.byteCells l++Lib.strCells s:=by unfold Lib.byteCells Lib.strCells;rw[List.map_append]
  rw[e];exact O18
 have au:=o7 hB2 hO2 de E18;refine zo ?_;refine yx (ysk (cs':=#[.pointer (some ⟨b,0,none⟩),.slice A5 (l++s.data.toList).length c5]) ab6 rfl rfl au rfl rfl (Nat.le_of_ble_eq_true rfl) rfl ?_);rintro wK B19 E19;have O19:=xx O18 au de E19;refine ya ?_;refine jt ?_;refine zq ?_;exact ⟨rfl,⟨A5,c5,B19,O19,fun q hq=>(N18 q hq).elim (hFb q) (fun h=>hF q om)⟩,((hE.mono (Y:=fun q=>q=b∨F q) (fun q hq _=>Or.inl (nD hq))).step E18 (fun q hq=>Or.inl (Or.inr (hFb q (qbz hq))))).step E19 (fun q hq=>Or.inl (Or.inl (nD hq)))⟩
end
theorem Aq {P Q:Prop} (k:Q) (h:(Unit→Q)→P:=by
 intro zK;refine yf ?_;refine za rfl (gm rfl rfl (alq x) (za rfl (ytx (j:=x.toNat%16) u9 rfl rfl rfl (OQ om) ?_)));exact zK ()):P:=h fun _=>k
theorem Ar {P Q:Prop} (k:Q) (h:(Unit→Q)→P:=by
 intro zK;refine ya ?_;refine za rfl (va rfl rfl de (au6 x) (za rfl (ytx (j:=x.toNat/16) u9 rfl rfl rfl (OQ (by have:=x.toNat_lt;omega)) ?_)));exact zK ()):P:=h fun _=>k
def au7:List UInt8:=[48,49,50,51,52,53,54,55,56,57,97,98,99,100,101,102]
def kq (n:Nat):UInt8:=au7.getD n 0
def qb (x:UInt8):List UInt8:=
 if x.toNat=10 then [92,110] else if x.toNat=9 then [92,116] else if x.toNat=92 then [92,x] else if x.toNat=39 then [92,x]
 else if x.toNat<32 then [92,120,kq (x.toNat/16),kq (x.toNat%16)] else if 126<x.toNat then [92,120,kq (x.toNat/16),kq (x.toNat%16)] else [x]
def qf (l:List UInt8):List UInt8:=39::l.flatMap qb
theorem ZW (x:UInt8):(qb x).length≤4:=by unfold qb;(repeat' split)<;>simp
theorem zzk:∀(l:List UInt8),(qf l).length≤1+4*l.length
 | []=>de
 | x::l=>by
  have h:=zzk l;have h2:=ZW x;unfold qf at h ⊢;simp only[List.length_cons,List.flatMap_cons,List.length_append] at h ⊢
  omega
theorem gk {l:List UInt8} {i:Nat} {x:UInt8} (h:l[i]? =some x):qf (l.take (i+1))=qf (l.take i)++qb x:=by
 unfold qf;obtain ⟨hi,he⟩:=List.getElem?_eq_some_iff.1 h;rw[List.take_succ_eq_append_getElem hi,List.flatMap_append,he];simp
theorem au6 (x:UInt8):(x.toNat:Int).fdiv (2^(min (4:Int).toNat IntKind.u8.bits))=((x.toNat/16:Nat):Int):=by
 have key:∀n:Fin 256,(n.val:Int).fdiv (2^(min (4:Int).toNat IntKind.u8.bits))=((n.val/16:Nat):Int):=by decide +kernel
 exact key ⟨x.toNat,x.toNat_lt⟩
theorem alq (x:UInt8):IntKind.u8.wrap (BitVec.ofInt IntKind.u8.bits (x.toNat:Int) &&& BitVec.ofInt IntKind.u8.bits 15).toNat=((x.toNat%16:Nat):Int):=by
 have key:∀n:Fin 256,IntKind.u8.wrap (BitVec.ofInt IntKind.u8.bits (n.val:Int) &&& BitVec.ofInt IntKind.u8.bits 15).toNat=((n.val%16:Nat):Int):=by decide +kernel
 exact key ⟨x.toNat,x.toNat_lt⟩
theorem OQ {j:Nat} (h:j<16):(⟨#[48,49,50,51,52,53,54,55,56,57,97,98,99,100,101,102]⟩:ByteArray)[j]? =some (kq j):=by
 have key:∀n:Fin 16,(#[48,49,50,51,52,53,54,55,56,57,97,98,99,100,101,102]:Array UInt8)[n.val]? =some (kq n.val):=by decide +kernel
 exact key ⟨j,h⟩
section
variable (w:World) (ua:PV) (A1 B1:Option Addr) (c1 d1:Nat) (hx:ay w A1 ua.xs) (hl:ua.xs.length≤9223372036854775807) (g1:ua.good=true) (h4:ua.k=4) (hsl:ua.s.size≤20000)
include hx hl g1 h4 hsl
theorem Au:Calls prog 11 #[bI ua A1 c1 B1 d1] w (aD w (.string ⟨(qf ua.s.data.toList++ [39]).toArray⟩)):=by
 have hsn:ua.s.data.toList.length=ua.s.size:=by rw[Array.length_toList];rfl
 obtain ⟨lo,hlo⟩:∃lo,lo=w.heap.size:=⟨_,rfl⟩;refine zd func11 rfl ntmps11 rfl (jr ?_);rintro gv wA BX E1 G1;refine yd ?_;refine gy 9 rfl (by rw[h4];rfl) (fU rfl (zwz (cs:=#[.int .i64 ua.k,.bool ua.yes,.bool ua.neg,.slice A1 ua.xs.length c1,.int .u64 (ua.bits:Int),.string ua.s,.slice B1 ua.ni d1]) u28 rfl tL rfl rfl (fun j v hj↦by have h:=(BX.cell j).trans hj;rw[Nat.zero_add];exact h) (fU rfl (zc fC rfl ((qc _ ua A1 B1 c1 d1 (Per.aF hx _ E1) hl true g1).mono ?_)))));rintro e w1 ⟨rfl,hb⟩;refine ⟨_,rfl,?_⟩;have E2:=E1.trans (Ext.of_below hb No);have BX2:=BX.ext (Ext.of_below hb No) (fun h=>h.elim);refine qu ?_;refine za rfl (xi ao6 ?_);rintro gb wB BB E3 G3;have E4:=E2.trans E3;have BX3:=BX2.ext E3 (fun h=>h.elim);have hs2:=E2.size;have hgb:lo≤gb:=om;obtain ⟨hi,hhi⟩:∃hi,hi=wB.heap.size:=⟨_,rfl⟩;have hs4:=E4.size;have hlh:lo≤hi:=om;refine yf ?_;refine za rfl (zc iW rfl ((OP _ lo gb (.pointer none) (Or.inl rfl) [] de (fun q=>hi≤q) ⟨none,0,BB,ykq,fun q hq=>(by cases hq)⟩ hgb (fun q hq=>by show hi≤q;omega) 39).mono ?_));rintro e w2 ⟨rfl,M0,X0⟩;refine ⟨_,rfl,?_⟩;have T0:Ext (fun q=>lo≤q) w w2:=(E4.noL lo).step X0 (fun q hq=>Or.inl (hq.elim (fun h=>by show lo≤q;omega) (fun h=>by have h:hi≤q:=h;show lo≤q;omega)));obtain ⟨A3,c3,MB,MO,MF⟩:=M0;have hvb:gv<gb:=by have:=BX2.lt;omega
 have hbh:gb<hi:=by have:=BB.lt;omega
 have BX4:=BX3.ext X0 (fun hq=>hq.elim (fun h=>om) (fun h=>by have h:hi≤gv:=h;omega));refine zn ?_;refine za rfl (zvv u9 u46 underlying5 rfl rfl rfl ?_);rintro gx cx wC RX E5 GX;have T1:=T0.step E5 (fun _ h=>h.elim);have hsX:=X0.size;have M1:J2 wC lo gb (.pointer (some ⟨gb,0,none⟩)) (qf (ua.s.data.toList.take 0)) (fun q=>hi≤q∧(0<ua.s.size→q≠gx)):=J2.no ⟨A3,c3,MB,MO,fun q hq=>⟨MF q hq,fun _ e=>by have:=zr MO q hq;omega⟩⟩ E5;have au8:0<ua.s.size→gx<wC.heap.size:=fun h0=>World.block_lt_of_cell? _ _ (RX 0 _ (by rw[List.getElem?_map,List.getElem?_eq_getElem (show 0<ua.s.data.toList.length from om)];rfl));have Gf:∀ {z},Ext (fun q=>q=gb∨(hi≤q∧(0<ua.s.size→q≠gx))) wC z→ ∀q,z.heap.size≤q→hi≤q∧(0<ua.s.size→q≠gx):=fun h q hq=>by
  have h1:=h.size;have h2:=E5.size;exact ⟨om,fun h0 e=>by have:=au8 h0;omega⟩
 refine ya ?_;refine qt (ι:=Nat) (fun i=>[(3,.pointer (some ⟨gb,0,none⟩)),(19,.slice (some ⟨gx,0,none⟩) ua.s.size cx),(20,.int .i64 (ua.s.size:Int)),(21,.int .i64 ((i:Nat):Int))]) (fun i w'=>i≤ua.s.size∧Ext (fun q=>q=gb∨(hi≤q∧(0<ua.s.size→q≠gx))) wC w'∧J2 w' lo gb (.pointer (some ⟨gb,0,none⟩)) (qf (ua.s.data.toList.take i)) (fun q=>hi≤q∧(0<ua.s.size→q≠gx))) (fun i=>ua.s.size-i) 0 ⟨rfl,rfl,rfl,rfl,trivial⟩ (⟨Nat.zero_le _,Ext.refl _ _,M1⟩) ?_;rintro i w4 ⟨hin,XI,MI⟩;have hML:=zzk (ua.s.data.toList.take i);rw[List.length_take] at hML;have hM0:0<(qf (ua.s.data.toList.take i)).length:=Nat.zero_lt_succ _;refine zq ?_;refine zg rfl (fun hic=>?_) (fun hic=>?_)
 ·
  have hic:=of_decide_eq_true hic;have hil:i<ua.s.size:=om;obtain ⟨x,hxl⟩:∃x,ua.s.data.toList[i]? =some x:=⟨_,List.getElem?_eq_getElem om⟩;have hcell:∀z,Ext (fun q=>q=gb∨(hi≤q∧(0<ua.s.size→q≠gx))) wC z→z.cell? ⟨gx,0+i,none⟩=some (.int .u8 (x.toNat:Int)):=fun z hz=>by
   have h1:=RX i (.int .u8 (x.toNat:Int)) (by rw[List.getElem?_map,hxl];rfl);rw[Nat.zero_add];refine (hz.cell (World.block_lt_of_cell? _ _ h1) (fun hq=>hq.elim (fun h=>?_) (fun h=>h.2 om rfl))).trans h1;have h:gx=gb:=h;have:=hsX;omega
  refine z8 ?_;refine qa ?_;by_cases h10:x.toNat=10
  ·
   refine qk 27 rfl (by rw[h10];rfl) (zo ?_);refine za rfl (zc Qq rfl ((qcv _ lo gb _ (Or.inr rfl) (qf (ua.s.data.toList.take i)) (by first | omega | (simp only[List.length_append,List.length_cons,List.length_nil];omega)) (fun q=>hi≤q∧(0<ua.s.size→q≠gx)) MI hgb (Gf XI) ⟨#[92,110]⟩ de (by first | omega | (simp only[List.length_append];omega))).mono ?_));rintro e w5 ⟨rfl,M1,X1⟩;refine ⟨_,rfl,?_⟩;have T1:=XI.step X1 (fun q hq=>Or.inl hq);refine jl ?_;exact yk (i+1) (by show ua.s.size-(i+1)<ua.s.size-i;omega) ⟨rfl,rfl,rfl,rfl,trivial⟩ (⟨om,T1,by rw[gk hxl];rw[show qb x= [92,110] from (by unfold qb;rw[if_pos h10])];first | exact M1 | (have h:=M1;simp only[List.append_assoc] at h;exact h)⟩)
  ·
   refine yn 27 rfl (congrArg Value.bool (beq_eq_false_iff_ne.2 (fun h=>h10 om))) (yu ?_);by_cases h9:x.toNat=9
   ·
    refine qk 31 rfl (by rw[h9];rfl) (zo ?_);refine za rfl (zc Qq rfl ((qcv _ lo gb _ (Or.inr rfl) (qf (ua.s.data.toList.take i)) (by first | omega | (simp only[List.length_append,List.length_cons,List.length_nil];omega)) (fun q=>hi≤q∧(0<ua.s.size→q≠gx)) MI hgb (Gf XI) ⟨#[92,116]⟩ de (by first | omega | (simp only[List.length_append];omega))).mono ?_));rintro e w6 ⟨rfl,M2,X2⟩;refine ⟨_,rfl,?_⟩;have T2:=XI.step X2 (fun q hq=>Or.inl hq);refine jl ?_;exact yk (i+1) (by show ua.s.size-(i+1)<ua.s.size-i;omega) ⟨rfl,rfl,rfl,rfl,trivial⟩ (⟨om,T2,by rw[gk hxl];rw[show qb x= [92,116] from (by unfold qb;rw[if_neg h10,if_pos h9])];first | exact M2 | (have h:=M2;simp only[List.append_assoc] at h;exact h)⟩)
   ·
    refine yn 31 rfl (congrArg Value.bool (beq_eq_false_iff_ne.2 (fun h=>h9 om))) (zq ?_);by_cases ZX:x.toNat=92
    ·
     refine xv 38 rfl (by rw[ZX];rfl) (qu ?_);refine za rfl (zc iW rfl ((OP _ lo gb _ (Or.inr rfl) (qf (ua.s.data.toList.take i)) (by first | omega | (simp only[List.length_append,List.length_cons,List.length_nil];omega)) (fun q=>hi≤q∧(0<ua.s.size→q≠gx)) MI hgb (Gf XI) 92).mono ?_));rintro e w7 ⟨rfl,M3,X3⟩;refine ⟨_,rfl,?_⟩;have T3:=XI.step X3 (fun q hq=>Or.inl hq);refine yf ?_;refine za rfl (zc iW rfl ((OP _ lo gb _ (Or.inr rfl) ((qf (ua.s.data.toList.take i))++ [92]) (by first | omega | (simp only[List.length_append,List.length_cons,List.length_nil];omega)) (fun q=>hi≤q∧(0<ua.s.size→q≠gx)) M3 hgb (Gf T3) x).mono ?_));rintro e w8 ⟨rfl,M4,X4⟩;refine ⟨_,rfl,?_⟩;have T4:=T3.step X4 (fun q hq=>Or.inl hq);refine jl ?_;exact yk (i+1) (by show ua.s.size-(i+1)<ua.s.size-i;omega) ⟨rfl,rfl,rfl,rfl,trivial⟩ (⟨om,T4,by rw[gk hxl];rw[show qb x= [92,x] from (by unfold qb;rw[if_neg h10,if_neg h9,if_pos ZX])];first | exact M4 | (have h:=M4;simp only[List.append_assoc] at h;exact h)⟩)
    ·
     refine gy 38 rfl (congrArg Value.bool (beq_eq_false_iff_ne.2 (fun h=>ZX om))) (zq ?_);by_cases h39:x.toNat=39
     ·
      refine qk 35 rfl (by rw[h39];rfl) (yl ?_);refine za rfl (zc iW rfl ((OP _ lo gb _ (Or.inr rfl) (qf (ua.s.data.toList.take i)) (by first | omega | (simp only[List.length_append,List.length_cons,List.length_nil];omega)) (fun q=>hi≤q∧(0<ua.s.size→q≠gx)) MI hgb (Gf XI) 92).mono ?_));rintro e w9 ⟨rfl,M5,X5⟩;refine ⟨_,rfl,?_⟩;have T5:=XI.step X5 (fun q hq=>Or.inl hq);refine yf ?_;refine za rfl (zc iW rfl ((OP _ lo gb _ (Or.inr rfl) ((qf (ua.s.data.toList.take i))++ [92]) (by first | omega | (simp only[List.length_append,List.length_cons,List.length_nil];omega)) (fun q=>hi≤q∧(0<ua.s.size→q≠gx)) M5 hgb (Gf T5) x).mono ?_));rintro e oD ⟨rfl,M6,X6⟩;refine ⟨_,rfl,?_⟩;have T6:=T5.step X6 (fun q hq=>Or.inl hq);refine jl ?_;exact yk (i+1) (by show ua.s.size-(i+1)<ua.s.size-i;omega) ⟨rfl,rfl,rfl,rfl,trivial⟩ (⟨om,T6,by rw[gk hxl];rw[show qb x= [92,x] from (by unfold qb;rw[if_neg h10,if_neg h9,if_neg ZX,if_pos h39])];first | exact M6 | (have h:=M6;simp only[List.append_assoc] at h;exact h)⟩)
     ·
      refine yn 35 rfl (congrArg Value.bool (beq_eq_false_iff_ne.2 (fun h=>h39 om))) (zq ?_);by_cases h32:x.toNat<32
      ·
       refine xv 48 rfl (congrArg Value.bool (decide_eq_true (show (x.toNat:Int)<32 from om))) (qu ?_);refine za rfl (zc Qq rfl ((qcv _ lo gb _ (Or.inr rfl) (qf (ua.s.data.toList.take i)) (by first | omega | (simp only[List.length_append,List.length_cons,List.length_nil];omega)) (fun q=>hi≤q∧(0<ua.s.size→q≠gx)) MI hgb (Gf XI) ⟨#[92,120]⟩ de (by first | omega | (simp only[List.length_append];omega))).mono ?_));rintro e gX ⟨rfl,M7,X7⟩;refine ⟨_,rfl,?_⟩;have T7:=XI.step X7 (fun q hq=>Or.inl hq);refine Ar ?_;refine za rfl (zc iW rfl ((OP _ lo gb _ (Or.inr rfl) ((qf (ua.s.data.toList.take i))++ [92,120]) (by first | omega | (simp only[List.length_append,List.length_cons,List.length_nil];omega)) (fun q=>hi≤q∧(0<ua.s.size→q≠gx)) M7 hgb (Gf T7) (kq (x.toNat/16))).mono ?_));rintro e dW ⟨rfl,M8,X8⟩;refine ⟨_,rfl,?_⟩;have T8:=T7.step X8 (fun q hq=>Or.inl hq);refine Aq ?_;refine za rfl (zc iW rfl ((OP _ lo gb _ (Or.inr rfl) (((qf (ua.s.data.toList.take i))++ [92,120])++ [(kq (x.toNat/16))]) (by first | omega | (simp only[List.length_append,List.length_cons,List.length_nil];omega)) (fun q=>hi≤q∧(0<ua.s.size→q≠gx)) M8 hgb (Gf T8) (kq (x.toNat%16))).mono ?_));rintro e vN ⟨rfl,M9,X9⟩;refine ⟨_,rfl,?_⟩;have T9:=T8.step X9 (fun q hq=>Or.inl hq);refine jl ?_;exact yk (i+1) (by show ua.s.size-(i+1)<ua.s.size-i;omega) ⟨rfl,rfl,rfl,rfl,trivial⟩ (⟨om,T9,by rw[gk hxl];rw[show qb x= [92,120,kq (x.toNat/16),kq (x.toNat%16)] from (by unfold qb;rw[if_neg h10,if_neg h9,if_neg ZX,if_neg h39,if_pos h32])];first | exact M9 | (have h:=M9;simp only[List.append_assoc] at h;exact h)⟩)
      ·
       refine gy 48 rfl (congrArg Value.bool (decide_eq_false (show ¬(x.toNat:Int)<32 from om))) (zq ?_);by_cases alz:126<x.toNat
       ·
        refine qk 45 rfl (congrArg Value.bool (decide_eq_true (show (126:Int)<(x.toNat:Int) from om))) (yl ?_);refine za rfl (zc Qq rfl ((qcv _ lo gb _ (Or.inr rfl) (qf (ua.s.data.toList.take i)) (by first | omega | (simp only[List.length_append,List.length_cons,List.length_nil];omega)) (fun q=>hi≤q∧(0<ua.s.size→q≠gx)) MI hgb (Gf XI) ⟨#[92,120]⟩ de (by first | omega | (simp only[List.length_append];omega))).mono ?_));rintro e fu ⟨rfl,M10,X10⟩;refine ⟨_,rfl,?_⟩;have T10:=XI.step X10 (fun q hq=>Or.inl hq);refine Ar ?_;refine za rfl (zc iW rfl ((OP _ lo gb _ (Or.inr rfl) ((qf (ua.s.data.toList.take i))++ [92,120]) (by first | omega | (simp only[List.length_append,List.length_cons,List.length_nil];omega)) (fun q=>hi≤q∧(0<ua.s.size→q≠gx)) M10 hgb (Gf T10) (kq (x.toNat/16))).mono ?_));rintro e Ck ⟨rfl,M11,X11⟩;refine ⟨_,rfl,?_⟩;have T11:=T10.step X11 (fun q hq=>Or.inl hq);refine Aq ?_;refine za rfl (zc iW rfl ((OP _ lo gb _ (Or.inr rfl) (((qf (ua.s.data.toList.take i))++ [92,120])++ [(kq (x.toNat/16))]) (by first | omega | (simp only[List.length_append,List.length_cons,List.length_nil];omega)) (fun q=>hi≤q∧(0<ua.s.size→q≠gx)) M11 hgb (Gf T11) (kq (x.toNat%16))).mono ?_));rintro e w16 ⟨rfl,M12,X12⟩;refine ⟨_,rfl,?_⟩;have T12:=T11.step X12 (fun q hq=>Or.inl hq);refine jl ?_;exact yk (i+1) (by show ua.s.size-(i+1)<ua.s.size-i;omega) ⟨rfl,rfl,rfl,rfl,trivial⟩ (⟨om,T12,by rw[gk hxl];rw[show qb x= [92,120,kq (x.toNat/16),kq (x.toNat%16)] from (by unfold qb;rw[if_neg h10,if_neg h9,if_neg ZX,if_neg h39,if_neg h32,if_pos alz])];first | exact M12 | (have h:=M12;simp only[List.append_assoc] at h;exact h)⟩)
       ·
        refine yn 45 rfl (congrArg Value.bool (decide_eq_false (show ¬(126:Int)<(x.toNat:Int) from om))) (yl ?_);refine za rfl (zc iW rfl ((OP _ lo gb _ (Or.inr rfl) (qf (ua.s.data.toList.take i)) (by first | omega | (simp only[List.length_append,List.length_cons,List.length_nil];omega)) (fun q=>hi≤q∧(0<ua.s.size→q≠gx)) MI hgb (Gf XI) x).mono ?_));rintro e mV ⟨rfl,wG,X13⟩;refine ⟨_,rfl,?_⟩;have T13:=XI.step X13 (fun q hq=>Or.inl hq);refine jl ?_;exact yk (i+1) (by show ua.s.size-(i+1)<ua.s.size-i;omega) ⟨rfl,rfl,rfl,rfl,trivial⟩ (⟨om,T13,by rw[gk hxl];rw[show qb x= [x] from (by unfold qb;rw[if_neg h10,if_neg h9,if_neg ZX,if_neg h39,if_neg h32,if_neg alz])];first | exact wG | (have h:=wG;simp only[List.append_assoc] at h;exact h)⟩)
 ·
  have hic:=of_decide_eq_false hic;obtain rfl:i=ua.s.size:=om;rw[List.take_of_length_le om] at MI hML hM0;refine zn ?_;refine za rfl (zc iW rfl ((OP _ lo gb _ (Or.inr rfl) (qf ua.s.data.toList) (by first | omega | (simp only[List.length_append,List.length_cons,List.length_nil];omega)) (fun q=>hi≤q∧(0<ua.s.size→q≠gx)) MI hgb (Gf XI) 39).mono ?_));rintro e w18 ⟨rfl,M14,X14⟩;refine ⟨_,rfl,?_⟩;have T14:=XI.step X14 (fun q hq=>Or.inl hq);refine yf ?_;refine za rfl (zc ap5 rfl (((Tryz.Builder_String_any lo gb _ _ (J2.lib M14 (Or.inr rfl) hgb) (by have:=T14.size;have:=T1.size;omega))).mono ?_));rintro e EU ⟨rfl,hb⟩;refine ⟨_,rfl,(ya ?_)⟩;exact ⟨rfl,((T1.step T14 (fun q hq=>Or.inl (hq.elim (fun h=>by show lo≤q;omega) (fun h=>by show lo≤q;omega)))).step (show Ext (fun q=>lo≤q) _ _ from ⟨hb.os,hb.tape,hb.output,hb.size,fun k _ hk=>hb.block k (Nat.lt_of_not_le hk)⟩) (fun q hq=>Or.inl hq)).below (fun q hq=>by rw[←hlo];exact hq)⟩
end
end
theorem Tg {b:Nat} (hb:b<18446744073709551616):(IntKind.u64.wrap (((b:Nat):Int)*2) !=0)=decide (rg b≠0):=by
 have h:IntKind.u64.wrap (((b:Nat):Int)*2)=((2*rg b:Nat):Int):=by
  unfold IntKind.wrap rg;exact Ej
 rw[h];refine Bool.eq_iff_iff.2 ?_;rw[bne_iff_ne,decide_eq_true_eq];omega
theorem PV.alj {v:PV} (h:v.good=true) (hk:v.k=1∨v.k=2):zm v.cn v.cx=true:=by
 have hc:=PV.canon h hk;generalize num v.cn v.cx=i at hc
 rw[hc.1,hc.2.1];exact qo hc.2.2
section
attribute [local irreducible] OW RS CW EW
theorem Av {P Q:Prop} (k:Q) (h:(Unit→Q)→P:=by
 intro zK;refine yl ?_;refine oq (rs:=[.cell 2 28]) (vs:=[_]) rfl ⟨⟨_,rfl,zzq u28 rfl tL DC rfl⟩,trivial⟩ ?_;exact zK ()):P:=h fun _=>k
theorem WM {P:Prop} (h:P:=by
 refine yt ?_;intro vs X wq K;refine vt rfl (zc ap0 rfl ((Ti _).mono ?_));exact fV):P:=h
theorem WO {P:Prop} (h:P:=by
 refine yx (qz tL rfl rfl BY rfl rfl rfl ?_);rintro wC DC E4;refine yl ?_;refine oq (rs:=[.cell 2 28]) (vs:=[_]) rfl ⟨⟨_,rfl,zzq u28 rfl tL DC rfl⟩,trivial⟩ ?_;exact ⟨rfl,(E2.step E4 (fun q hq=>Or.inr (by have:=nD hq;omega))).toBelow⟩):P:=h
theorem am0:(2:Int)=dz (zm false [1]&&zm false [1]) (num false [1]+num false [1]):=by
 have h:=qo (i:=1) de;rw[Ws] at h;have h:zm false [1]=true:=h;rw[h,Oi];exact (xy de).symm
theorem am1:(0:Int)=cK (zm false [1]&&zm false [1]) (num false [1]+num false [1]):=by
 have h:=qo (i:=1) de;rw[Ws] at h;have h:zm false [1]=true:=h;rw[h,Oi];exact (xz de).symm
theorem lV.own {w:World} {A1 A:Option Addr} {xs ys:List Nat} (h:lV w A1 A xs ys) (hne:ys≠xs):ay w A ys:=h.resolve_left (fun e=>hne e.2)
def pvT:PV:=⟨1,true,false,[],0,⟨#[]⟩,0⟩
def pvO:PV:=⟨2,false,false,[1],0,⟨#[]⟩,0⟩
theorem D5 (n:Bool) (xs:List Nat):P8 n xs n xs=true:=by unfold P8;simp
theorem OV:PV.good pvT=true:=by unfold PV.good pvT;simp
theorem OX:PV.good pvO=true:=by
 have h:=qo (i:=1) de;rw[Ws] at h;have h:zm false [1]=true:=h;unfold PV.good pvO;simp[h]
theorem OZ {X:Nat→Prop} {w:World} {lo base c:Nat} {A:Option Addr} {xs:List Nat} (h:Own w base A c xs) (hX:∀k,X k→k<base) (hb:lo≤base):Per X w (fun b=>Own b lo A c xs):=fun b E=>⟨ysq (vw h.1 E (fun q hq hx=>by have:=qav h.1 q hq;have:=hX q hx;omega)) hb,h.2⟩
section
variable (w:World)
theorem O4 (ua:PV) (A1 B1:Option Addr) (c1 d1:Nat) (n:Bool) (xs:List Nat) (hn:ua.cn=n) (hc:ua.cx=xs):Calls prog 33 #[bI ua A1 c1 B1 d1] w (N8 w A1 n ua.xs xs):=by
 subst hn hc;exact zvk w ua A1 B1 c1 d1
theorem O5 (b:Bool):Calls prog 24 #[.bool b] w (aD w (.agg #[.int .i64 1,.bool b,.bool false,.slice none 0 0,.int .u64 0,.string ⟨#[]⟩,.slice none 0 0])):=by
 refine zd func24 rfl ntmps24 rfl (zo ?_);refine ow ?_;rintro gR wB BY E2 G2;refine ya ?_;refine za rfl (Xq (cs:=#[.int .i64 1,.bool b,.bool false,.slice none 0 0,.int .u64 0,.string ⟨#[]⟩,.slice none 0 0]) uE BH rfl rfl ?_);exact WO
theorem Gg (s:ByteArray):Calls prog 27 #[.string s] w (aD w (.agg #[.int .i64 4,.bool false,.bool false,.slice none 0 0,.int .u64 0,.string s,.slice none 0 0])):=by
 refine zd func27 rfl ntmps27 rfl (zo ?_);refine ow ?_;rintro gR wB BY E2 G2;refine ya ?_;refine za rfl (Xq (cs:=#[.int .i64 4,.bool false,.bool false,.slice none 0 0,.int .u64 0,.string s,.slice none 0 0]) uE BH rfl rfl ?_);exact WO
def am2 (W:World) (i:Int) (e:Ending) (w':World):Prop:=∃A c,e= .returned (.agg #[.int .i64 2,.bool false,.bool (decide (i<0)),.slice A (limbs i).length c,.int .u64 0,.string ⟨#[]⟩,.slice none 0 0])∧Own w' W.heap.size A c (limbs i)∧Below W.heap.size W w'
theorem Gh (A:Option Addr) (c:Nat) (i:Int) (hx:aL w A (aC i)) (hl:(aC i).length≤1048576):Calls prog 25 #[.agg #[.bool (decide (i<0)),.slice A (aC i).length c]] w (am2 w i):=by
 refine zd func25 rfl ntmps25 rfl (jr ?_);rintro gA wA BX E1 G1;refine ow ?_;rintro gR wB BY E2 G2;have F7:=BX.ext E2 (fun h=>h.elim);have dV:=E1.trans E2;have hs:=dV.size;refine ya ?_;refine za rfl (zc ac0 rfl ((FH A c i _ (Per.Di hx _ dV) hl).mono ?_));rintro e w1 ⟨A3,c3,rfl,hO,hb⟩;refine ⟨_,rfl,?_⟩;have E3:=Ext.of_below hb No;have Je:=BY.ext E3 (fun h=>h.elim);refine za rfl (Xq (cs:=#[.int .i64 2,.bool false,.bool (decide (i<0)),.slice A3 (limbs i).length c3,.int .u64 0,.string ⟨#[]⟩,.slice none 0 0]) uE BH rfl rfl (yx (qz tL rfl rfl Je rfl rfl rfl ?_)));rintro wC DC E4;refine Av ?_;exact ⟨A3,c3,rfl,zlq hO E4 BY.lt hs,((dV.trans E3).step E4 (fun q hq=>Or.inr (by have:=nD hq;have:=E1.size;omega))).toBelow⟩
theorem O6 (A:Option Addr) (c:Nat) (n:Bool) (xs:List Nat):Calls prog 54 #[.agg #[.bool n,.slice A xs.length c]] w (aD w (.agg #[.int .i64 2,.bool false,.bool n,.slice A xs.length c,.int .u64 0,.string ⟨#[]⟩,.slice none 0 0])):=by
 refine zd func54 rfl ntmps54 rfl (jr ?_);rintro gA wA BX E1 G1;refine ow ?_;rintro gR wB BY E2 G2;have F7:=BX.ext E2 (fun h=>h.elim);have dV:=E1.trans E2;have hs:=dV.size;refine ya ?_;refine za rfl (Xq (cs:=#[.int .i64 2,.bool false,.bool n,.slice A xs.length c,.int .u64 0,.string ⟨#[]⟩,.slice none 0 0]) uE BH rfl rfl (yx (qz tL rfl rfl BY rfl rfl rfl ?_)));rintro wC DC E4;refine Av ?_;exact ⟨rfl,(dV.step E4 (fun q hq=>Or.inr (by have:=nD hq;have:=E1.size;omega))).toBelow⟩
theorem Tj (A B:Option Addr) (c d:Nat) (xs ys:List Nat) (n1 n2:Bool) (v f:Int) (hv:v=dz (zm n1 xs&&zm n2 ys) (num n1 xs+num n2 ys)) (hf:f=cK (zm n1 xs&&zm n2 ys) (num n1 xs+num n2 ys)) (hx:ay w A xs) (hy:ay w B ys) (hl:xs.length≤9223372036854775807) (hl':ys.length≤9223372036854775807) :
 Calls prog 82 #[.int .i64 1,.agg #[.bool n1,.slice A xs.length c],.agg #[.bool n2,.slice B ys.length d]] w (yb w v f):=by
 refine zd func82 rfl ntmps82 rfl (jr ?_);rintro gA wA BX E1 G1;refine za rfl (yax rfl ?_);rintro gC wC BZ E2 G2;refine jk ?_;rintro gR wB BY E3 G3;have F7:=(BX.ext E2 (fun h=>h.elim)).ext E3 (fun h=>h.elim);have BZb:=BZ.ext E3 (fun h=>h.elim);have dV:=(E1.trans E2).trans E3;have hs:=dV.size;refine EB ?_;have hadd:=RU A B c d xs ys wB n1 n2 (Per.aF hx _ dV) (Per.aF hy _ dV) hl hl';rw[←hv,←hf] at hadd;refine za rfl (zc ad3 rfl ((hadd).mono ?_));rintro e w1 ⟨A3,c3,rfl,hO,hb⟩;refine ⟨_,rfl,?_⟩;have E4:=Ext.of_below hb No;have Je:=BY.ext E4 (fun h=>h.elim);refine zo ?_;refine yx (qz xn rfl rfl Je rfl rfl rfl ?_);rintro wD DC E5;refine zn ?_;exact ⟨A3,c3,rfl,zlq hO E5 BY.lt hs,((dV.trans E4).step E5 (fun q hq=>Or.inr (by have:=nD hq;have:=E1.size;have:=E2.size;omega))).toBelow⟩
theorem Jz (A:Option Addr) (c:Nat) (hx:ay w A [1]):Calls prog 48 #[.int .i64 1,.agg #[.int .i64 1,.bool true,.bool false,.slice none 0 0,.int .u64 0,.string ⟨#[]⟩,.slice none 0 0],.agg #[.int .i64 2,.bool false,.bool false,.slice A 1 c,.int .u64 0,.string ⟨#[]⟩,.slice none 0 0]] w fun e w'=>∃A4 c4,e= .returned (.tuple #[.agg #[.int .i64 2,.bool false,.bool (decide (2<0)),.slice A4 (limbs 2).length c4,.int .u64 0,.string ⟨#[]⟩,.slice none 0 0],.int .i64 0])∧Own w' w.heap.size A4 c4 (limbs 2)∧Below w.heap.size w w':=by
 refine zd func48 rfl ntmps48 rfl (jr ?_);rintro gA wA BX E1 G1;refine za rfl (yax rfl ?_);rintro gC wC BZ E2 G2;refine ow ?_;rintro gR wB BY E3 G3;have F7:=(BX.ext E2 (fun h=>h.elim)).ext E3 (fun h=>h.elim);have BZb:=BZ.ext E3 (fun h=>h.elim);have dV:=(E1.trans E2).trans E3;have hs:=dV.size;refine Vf ?_;refine zo ?_;refine qr (No) ah.none_ [⟨9,10,24,#[.bool false,.slice none 0 0]⟩] [] (gH [Fx.of (.int .i64 1),
  Fx.of (.agg #[.int .i64 1,.bool true,.bool false,.slice none 0 0,.int .u64 0,.string ⟨#[]⟩,.slice none 0 0]),
  ⟨(Option Addr×Nat),fun (A5,c5)=>.agg #[.bool false,.slice A5 1 c5],fun (A5,c5) b=>(lV b none A5 [] [1])⟩,
  Fx.of (.agg #[.int .i64 2,.bool false,.bool false,.slice A 1 c,.int .u64 0,.string ⟨#[]⟩,.slice none 0 0]),
  ⟨(Option Addr×Nat),fun (A6,c6)=>.agg #[.bool false,.slice A6 1 c6],fun (A6,c6) b=>(lV b A A6 [1] [1])⟩,
  ⟨(Option Addr×Nat),fun (A7,c7)=>.tuple #[.agg #[.bool (decide ((2:Int)<0)),.slice A7 (limbs 2).length c7],.int .i64 0],fun (A7,c7) b=>(Own b wB.heap.size A7 c7 (limbs 2))⟩,
  ⟨(Option Addr×Nat),fun (A7,c7)=>.tuple #[.agg #[.bool (decide ((2:Int)<0)),.slice A7 (limbs 2).length c7],.int .i64 0],fun (A7,c7) b=>(Own b wB.heap.size A7 c7 (limbs 2))⟩,
  ⟨(Option Addr×Nat),fun (A7,c7)=>.agg #[.bool (decide ((2:Int)<0)),.slice A7 (limbs 2).length c7],fun (A7,c7) b=>(Own b wB.heap.size A7 c7 (limbs 2))⟩,
  Fx.of (.int .i64 0),
  Fx.of undef,
  Fx.of undef,
  Fx.of (.int .i64 0)]) mixed rfl trivial (fun _ h=>by cases h) ?_ ?_
 · refine ⟨arm,?_,?_,?_,?_,?_,?_,?_,?_,?_,?_,arm,trivial⟩
   · intro vs X wq K;have LE:=K.1;exact ykv u28 rfl tL rfl (F7.ext ((Ext.refl No _).drew.trans LE) (fun h↦h.elim)) rfl ⟨Below.refl _ _,Left.of rfl⟩
   · refine yt ?_;intro vs X wq K;have XN:=K.2.1;refine zc Gv rfl ((O4 _ pvT none none 0 0 false [1] rfl rfl).mono ?_);rintro e w2 ⟨A5,c5,rfl,hN,hb⟩;exact ⟨_,rfl,hb,⟨(A5,c5),rfl,ykz hN XN⟩⟩
   · intro vs X wq K;have LE:=K.1;exact ykv u28 rfl tL rfl (BZb.ext ((Ext.refl No _).drew.trans LE) (fun h↦h.elim)) rfl ⟨Below.refl _ _,Left.of rfl⟩
   · refine yt ?_;intro vs X wq K;have XN:=K.2.1;refine zc Gv rfl ((O4 _ pvO A none c 0 false [1] rfl rfl).mono ?_);rintro e w2 ⟨A6,c6,rfl,hN,hb⟩;exact ⟨_,rfl,hb,⟨(A6,c6),rfl,ykz hN XN⟩⟩
   · refine yt ?_;intro vs X wq K;have LE:=K.1;have XN:=K.2.1;obtain ⟨⟨A5,c5⟩,e2,k2⟩:=K.dep 2 rfl rfl rfl;refine jc 38 _ rfl e2 ?_;obtain ⟨⟨A6,c6⟩,e4,k4⟩:=K.dep 4 rfl rfl rfl;refine jc 40 _ rfl e4 (zc aq9 rfl ((Tj _ A5 A6 c5 c6 [1] [1] false false 2 0 am0 am1 ((k2.here).own de) ((k4.here).nums (Per.aF hx _ (dV.trans ((Ext.refl No _).drew.trans LE)))) de de).mono ?_));rintro e w2 ⟨A7,c7,rfl,hO,hb⟩;exact ⟨_,rfl,hb,⟨(A7,c7),rfl,OZ hO XN LE.size⟩⟩
   · intro vs X wq K;obtain ⟨⟨A7,c7⟩,e5,k5⟩:=K.dep 5 rfl rfl rfl;refine jc 41 _ rfl e5 ?_;exact ykk rfl ⟨Below.refl _ _,⟨⟨A7,c7⟩,rfl,(k5.map (fun _ h=>h))⟩⟩
   · intro vs X wq K;obtain ⟨⟨A7,c7⟩,e6,k6⟩:=K.dep 6 rfl rfl rfl;refine jc 35 _ rfl e6 ?_;exact xf rfl rfl ⟨Below.refl _ _,⟨⟨A7,c7⟩,rfl,(k6.map (fun _ h=>h))⟩⟩
   · intro vs X wq K;obtain ⟨⟨A7,c7⟩,e6,k6⟩:=K.dep 6 rfl rfl rfl;refine jc 35 _ rfl e6 ?_;exact xf rfl rfl ⟨Below.refl _ _,Left.of rfl⟩
   · exact FM
   · refine ⟨_,_,_,_,_,rfl,rfl,rfl,xn,fun vs X wq K=>?_⟩;obtain ⟨⟨A7,c7⟩,e0,_⟩:=K.dep 7 rfl rfl rfl;exact ⟨vs 7,rfl,by rw[e0];rfl,by rw[e0];rfl⟩
 intro vs w1 LE AO AL AF AA;have hbd:Below (wB).heap.size (wB) w1:=(((Ext.refl No (wB)).drew).trans LE).toBelow;obtain ⟨⟨A7,c7⟩,e7,k7⟩:=AL.2.2.2.2.2.2.2.1;obtain ⟨_,e11,k11⟩:=AL.2.2.2.2.2.2.2.2.2.2.2.1;have Wc5:=k7.here;obtain ⟨gX0,v0,y0,qX0,GX0,BX0,ey,Bg⟩:=AF.1;cases ey
 obtain rfl:vs 7=v0:=Option.some.inj Bg;rw[e7] at BX0;have BX0:aA w1 gX0 24 #[.bool (decide ((2:Int)<0)),.slice A7 (limbs 2).length c7]:=BX0;have e9:=qX0;refine jz (τ:=[(0,_),(4,_),(5,_),(6,_),(7,_),(8,_),(9,.pointer (some ⟨gX0,0,none⟩)),(10,.int .i64 0)]) ⟨rfl,rfl,rfl,rfl,rfl,rfl,congrArg some e9,congrArg some e11,trivial⟩ ?_;clear AL AF AA AO;have E5:=Ext.of_below hbd No;have Je:=BY.ext E5 (fun h=>h.elim);refine uP ?_;refine za rfl (zc apj rfl ((O6 _ A7 c7 (decide ((2:Int)<0)) (limbs 2)).mono ?_));rintro e w2 ⟨rfl,hb⟩;refine ⟨_,rfl,?_⟩;have E6:=Ext.of_below hb No;have DC:=Je.ext E6 (fun h=>h.elim);have hN7:Own w2 wB.heap.size A7 c7 (limbs 2):=⟨vw Wc5.1 E6 (fun _ _ h=>h.elim),Wc5.2⟩;refine yx (qz tL rfl rfl DC rfl rfl rfl ?_);rintro wD BYe E7;refine zq ?_;exact ⟨A7,c7,rfl,zlq hN7 E7 BY.lt hs,(((dV.trans E5).trans E6).step E7 (fun q hq=>Or.inr (by have:=nD hq;have:=E1.size;have:=E2.size;omega))).toBelow⟩
theorem JA (A:Option Addr) (c:Nat) (hx:ay w A [1]):Calls prog 17 #[.int .i64 1,.agg #[.int .i64 1,.bool true,.bool false,.slice none 0 0,.int .u64 0,.string ⟨#[]⟩,.slice none 0 0],.agg #[.int .i64 2,.bool false,.bool false,.slice A 1 c,.int .u64 0,.string ⟨#[]⟩,.slice none 0 0]] w fun e w'=>∃A4 c4,e= .returned (.tuple #[.agg #[.int .i64 2,.bool false,.bool (decide (2<0)),.slice A4 (limbs 2).length c4,.int .u64 0,.string ⟨#[]⟩,.slice none 0 0],.int .i64 0])∧Own w' w.heap.size A4 c4 (limbs 2)∧Below w.heap.size w w':=by
 refine zd func17 rfl ntmps17 rfl (jr ?_);rintro gA wA BX E1 G1;refine za rfl (yax rfl ?_);rintro gC wC BZ E2 G2;refine ow ?_;rintro gR wB BY E3 G3;have F7:=(BX.ext E2 (fun h=>h.elim)).ext E3 (fun h=>h.elim);have BZb:=BZ.ext E3 (fun h=>h.elim);have dV:=(E1.trans E2).trans E3;have hs:=dV.size;refine zn ?_;refine za rfl (zc fC rfl ((qc _ pvT none none 0 0 zwv de true OV).mono ?_));rintro e w1 ⟨rfl,hb⟩;refine ⟨_,rfl,?_⟩;have F1:=Ext.of_below hb No;have E13:=dV.trans F1;have BX1:=F7.ext F1 (fun h=>h.elim);have BZ1:=BZb.ext F1 (fun h=>h.elim);have BY1:=BY.ext F1 (fun h=>h.elim);refine yl ?_;refine fU rfl (zc fC rfl ((qc _ pvO A none c 0 (Per.aF hx _ E13) de true OX).mono ?_));rintro e w2 ⟨rfl,hb⟩;refine ⟨_,rfl,?_⟩;have F2:=Ext.of_below hb No;have E14:=E13.trans F2;have BX2:=BX1.ext F2 (fun h=>h.elim);have BZ2:=BZ1.ext F2 (fun h=>h.elim);have BY2:=BY1.ext F2 (fun h=>h.elim);refine uQ ?_;refine za rfl (zc BI rfl ((ZG _ pvT none none 0 0 true rfl).mono ?_));rintro e w3 ⟨rfl,hb⟩;refine ⟨_,rfl,?_⟩;have F3:=Ext.of_below hb No;have E15:=E14.trans F3;have BX3:=BX2.ext F3 (fun h=>h.elim);have BZ3:=BZ2.ext F3 (fun h=>h.elim);have BY3:=BY2.ext F3 (fun h=>h.elim);refine zo ?_;refine fU rfl (zc BI rfl ((ZG _ pvO A none c 0 true rfl).mono ?_));rintro e w4 ⟨rfl,hb⟩;refine ⟨_,rfl,?_⟩;have F4:=Ext.of_below hb No;have E16:=E15.trans F4;have BX4:=BX3.ext F4 (fun h=>h.elim);have BZ4:=BZ3.ext F4 (fun h=>h.elim);have BY4:=BY3.ext F4 (fun h=>h.elim);refine yd ?_;refine za rfl (zc apx rfl ((Jz _ A c (Per.aF hx _ E16)).mono ?_));rintro e w5 ⟨A4,c4,rfl,hO,hb⟩;refine ⟨_,rfl,?_⟩;have F5:=Ext.of_below hb No;have BY5:=BY4.ext F5 (fun h=>h.elim);refine zo ?_;refine yx (qz tL rfl rfl BY5 rfl rfl rfl ?_);rintro wD BYe E7;refine zn ?_;exact ⟨A4,c4,rfl,zlq hO E7 BY4.lt E16.size,((E16.trans F5).step E7 (fun q hq=>Or.inr (by have:=nD hq;have:=E1.size;have:=E2.size;omega))).toBelow⟩
theorem am3 (A B:Option Addr) (c d:Nat) (n:Bool) (xs:List Nat) (hx:ay w A xs) (hy:ay w B xs) (hl:xs.length≤1048576):Calls prog 21 #[.agg #[.int .i64 2,.bool false,.bool n,.slice A xs.length c,.int .u64 0,.string ⟨#[]⟩,.slice none 0 0],.agg #[.int .i64 2,.bool false,.bool n,.slice B xs.length d,.int .u64 0,.string ⟨#[]⟩,.slice none 0 0]] w (aD w (.bool true)):=by
 refine zd func21 rfl ntmps21 rfl (jr ?_);rintro gA wA BX E1 G1;refine za rfl (yax rfl ?_);rintro gC wC BZ E2 G2;have F7:=BX.ext E2 (fun h=>h.elim);have dV:=E1.trans E2;have hs:=dV.size
 refine od ?_;refine fU rfl (El underlying4 rfl rfl (kb ?_));refine fU rfl (zzv rfl rfl (gy 30 rfl (by simp only[zrz];rfl:(.bool (!((⟨#[]⟩:ByteArray).toList==(⟨#[]⟩:ByteArray).toList)):Value)=_) (yl ?_)));refine fU rfl (zwz (cs:=#[.bool n,.slice A xs.length c]) u24 rfl xn rfl rfl (yrx (F7.cell 2) (F7.cell 3)) (aN ?_));refine fU rfl (zwz (cs:=#[.bool n,.slice B xs.length d]) u24 rfl xn rfl rfl (yrx (BZ.cell 2) (BZ.cell 3)) (fU rfl (zc aq2 rfl ((D5 n xs▸IQ A B c d xs xs _ n n (Per.aF hx _ dV) (Per.aF hy _ dV) hl hl).mono ?_))));rintro e w1 ⟨rfl,hb⟩;refine ⟨_,rfl,?_⟩;have F1:=Ext.of_below hb No;have BX1:=F7.ext F1 (fun h=>h.elim);have BZ1:=BZ.ext F1 (fun h=>h.elim);refine zq ?_;refine ze 43 (.int .i64 0) rfl (by kernel_rfl:(.int .i64 (0:Nat):Value)=_) (yl ?_);refine ze 46 (.int .i64 0) rfl (by kernel_rfl:(.int .i64 (0:Nat):Value)=_) (uP ?_);refine qt (ι:=Unit) (fun _=>[(2,.pointer (some ⟨gA,0,none⟩)),(5,.int .i64 0)]) (fun _ z=>Ext No w z∧aA z gA 28 #[.int .i64 2,.bool false,.bool n,.slice A xs.length c,.int .u64 0,.string ⟨#[]⟩,.slice none 0 0]) (fun _=>0) () ⟨rfl,rfl,trivial⟩ (⟨dV.trans F1,BX1⟩) ?_;rintro _ w3 ⟨E13,BX3⟩;refine zn ?_;refine ze 52 (.int .i64 0) rfl (by kernel_rfl:(.int .i64 (0:Nat):Value)=_) (od ?_);exact ⟨rfl,E13.toBelow⟩
theorem D6 (A:Option Addr) (c:Nat) (hx:ay w A (limbs 1)):Calls prog 17 #[.int .i64 1,.agg #[.int .i64 1,.bool true,.bool false,.slice none 0 0,.int .u64 0,.string ⟨#[]⟩,.slice none 0 0],.agg #[.int .i64 2,.bool false,.bool (decide (1<0)),.slice A (limbs 1).length c,.int .u64 0,.string ⟨#[]⟩,.slice none 0 0]] w fun e w'=>∃A4 c4,e= .returned (.tuple #[.agg #[.int .i64 2,.bool false,.bool (decide (2<0)),.slice A4 (limbs 2).length c4,.int .u64 0,.string ⟨#[]⟩,.slice none 0 0],.int .i64 0])∧Own w' w.heap.size A4 c4 (limbs 2)∧Below w.heap.size w w':=by
 rw[Ws] at hx ⊢;exact JA w A c hx
theorem Tk:Calls prog 11 #[.agg #[.int .i64 4,.bool false,.bool false,.slice none 0 0,.int .u64 0,.string ⟨#[97,39,10,200]⟩,.slice none 0 0]] w fun e w'=>e= .returned (.string ⟨#[39,97,92,39,92,110,92,120,99,56,39]⟩)∧Below w.heap.size w w':=
 Au w ⟨4,false,false,[],0,⟨#[97,39,10,200]⟩,0⟩ none none 0 0 zwv de (by unfold PV.good;simp;decide) rfl de
theorem ZY:Calls prog 9 #[.agg #[.int .i64 4,.bool false,.bool false,.slice none 0 0,.int .u64 0,.string ⟨#[97]⟩,.slice none 0 0]] w (aD w (.int .i64 129)):=by
 have h:=sV w ⟨4,false,false,[],0,⟨#[97]⟩,0⟩ none none 0 0 zwv de de;have e:gh ⟨4,false,false,[],0,⟨#[97]⟩,0⟩=129:=by
  have hg:PV.good ⟨4,false,false,[],0,⟨#[97]⟩,0⟩=true:=by unfold PV.good;simp;decide
  unfold gh;rw[hg,if_pos rfl,if_neg de,if_neg de,if_pos rfl];rfl
 rw[e] at h;exact h
theorem am4:BK 9221120237041090560=9221120237041090560:=de
theorem Ti:Calls prog 28 #[.int .u64 9221120237041090560] w (aD w (.agg #[.int .i64 3,.bool false,.bool false,.slice none 0 0,.int .u64 9221120237041090560,.string ⟨#[]⟩,.slice none 0 0])):=by
 have h:=DF w 9221120237041090560 de;rw[am4] at h;exact h
theorem Tm:Calls prog 20 #[.agg #[.int .i64 3,.bool false,.bool false,.slice none 0 0,.int .u64 9221120237041090560,.string ⟨#[]⟩,.slice none 0 0],.agg #[.int .i64 3,.bool false,.bool false,.slice none 0 0,.int .u64 9221120237041090560,.string ⟨#[]⟩,.slice none 0 0]] w (aD w (.bool false)):=by
 have h:=Oh w ⟨3,false,false,[],9221120237041090560,⟨#[]⟩,0⟩ ⟨3,false,false,[],9221120237041090560,⟨#[]⟩,0⟩ none none none none 0 0 0 0 zwv de de zwv de de;have e:Jb ⟨3,false,false,[],9221120237041090560,⟨#[]⟩,0⟩ ⟨3,false,false,[],9221120237041090560,⟨#[]⟩,0⟩=false:=by
  have hg:PV.good ⟨3,false,false,[],9221120237041090560,⟨#[]⟩,0⟩=true:=by unfold PV.good;simp
  have ho:sQ ⟨3,false,false,[],9221120237041090560,⟨#[]⟩,0⟩ ⟨3,false,false,[],9221120237041090560,⟨#[]⟩,0⟩=false:=de;unfold Jb;rw[hg,ho];rfl
 rw[e] at h;exact h
theorem Aw:Calls prog 5 #[] w (aD w (.bool true)):=by
 have ht:∀i:Int,i.natAbs<au^30→(aC i).length≤1048576:=fun i h=>by have:=(yY i).2 h;omega
 have hlb:(limbs 2).length≤1048576:=by have:=vf (i:=2) de;omega
 refine zd func5 rfl ntmps5 rfl (zn ?_);refine za rfl (zc aoj rfl ((O5 _ true).mono ?_));rintro e w1 ⟨rfl,hb⟩;refine ⟨_,rfl,?_⟩;have E1:=Ext.of_below hb No;refine za rfl (zc Qp rfl ((yjk 1 _ de de).mono ?_));rintro e w2 ⟨A1,c1,rfl,hO1,hb⟩;refine ⟨_,rfl,?_⟩;have E2:=E1.trans (Ext.of_below hb No);refine za rfl (zc abx rfl ((Gh _ A1 c1 1 hO1.nums (ht 1 de)).mono ?_));rintro e w3 ⟨A2,c2,rfl,hO2,hb⟩;refine ⟨_,rfl,?_⟩;have E3:=E2.trans (Ext.of_below hb No);refine za rfl (zc aoq rfl ((D6 _ A2 c2 hO2.nums).mono ?_));rintro e w4 ⟨A4,c4,rfl,hO4,hb⟩;refine ⟨_,rfl,?_⟩;have E4:=E3.trans (Ext.of_below hb No);refine yl ?_;refine ow ?_;rintro gR wB BY E5 G2;refine yx (qz tL rfl rfl BY rfl rfl rfl ?_);rintro wC BZ E6;have hO5:Own wC _ A4 c4 (limbs 2):=⟨vw (vw hO4.1 E5 (fun _ _ h=>h.elim)) E6 (fun q hq hm=>by have:=nD hm;have:=zr hO4.1 q hq;omega),hO4.2⟩;have hN4:=hO5.nums;have E7:Ext No w wC:=(E4.trans E5).step E6 (fun q hq=>Or.inr (by have:=nD hq;have:=E4.size;omega));refine yf ?_;refine qr (No) ah.none_ [] [] (gH [Fx.of (.int .i64 0),
  Fx.of (.bool true),
  Fx.of (.bool true),
  Fx.of (.agg #[.int .i64 2,.bool false,.bool (decide (2<0)),.slice A4 (limbs 2).length c4,.int .u64 0,.string ⟨#[]⟩,.slice none 0 0]),
  ⟨(Option Addr×Nat),fun (A5,c5)=>.agg #[.bool (decide ((2:Int)<0)),.slice A5 (aC 2).length c5],fun (A5,c5) b=>(aL b A5 (aC 2))⟩,
  ⟨(Option Addr×Nat),fun (A6,c6)=>.agg #[.int .i64 2,.bool false,.bool (decide (2<0)),.slice A6 (limbs 2).length c6,.int .u64 0,.string ⟨#[]⟩,.slice none 0 0],fun (A6,c6) b=>(ay b A6 (limbs 2))⟩,
  Fx.of (.bool true),
  Fx.of (.bool true),
  Fx.of (.bool true),
  Fx.of (.agg #[.int .i64 4,.bool false,.bool false,.slice none 0 0,.int .u64 0,.string ⟨#[97,39,10,200]⟩,.slice none 0 0]),
  Fx.of (.string ⟨#[39,97,92,39,92,110,92,120,99,56,39]⟩),
  Fx.of (.bool true),
  Fx.of (.bool true),
  Fx.of (.bool true),
  Fx.of (.agg #[.int .i64 4,.bool false,.bool false,.slice none 0 0,.int .u64 0,.string ⟨#[97]⟩,.slice none 0 0]),
  Fx.of (.int .i64 129),
  Fx.of (.bool true),
  Fx.of (.bool true),
  Fx.of (.bool true),
  Fx.of (.agg #[.int .i64 3,.bool false,.bool false,.slice none 0 0,.int .u64 9221120237041090560,.string ⟨#[]⟩,.slice none 0 0]),
  Fx.of (.agg #[.int .i64 3,.bool false,.bool false,.slice none 0 0,.int .u64 9221120237041090560,.string ⟨#[]⟩,.slice none 0 0]),
  Fx.of (.bool false),
  Fx.of (.bool true),
  Fx.of (.bool true),
  Fx.of (.bool true)]) mixed rfl trivial (fun _ h=>by cases h) ?_ ?_
 · refine ⟨arm,arm,arm,?_,?_,?_,?_,arm,arm,?_,?_,?_,arm,arm,?_,?_,arm,arm,arm,?_,?_,?_,arm,arm,arm,trivial⟩
   · refine yt ?_;intro vs X wq K;have LE:=K.1;exact vt rfl (ykv u28 rfl tL rfl (BZ.ext ((Ext.refl No _).drew.trans LE) (fun h↦h.elim)) rfl ⟨Below.refl _ _,Left.of rfl⟩)
   · refine yt ?_;intro vs X wq K;have XN:=K.2.1;refine vt rfl (zc Qp rfl ((yjk 2 _ de de).mono ?_));rintro e w2 ⟨A5,c5,rfl,hO,hb⟩;exact ⟨_,rfl,hb,⟨(A5,c5),rfl,Per.y5 hO XN⟩⟩
   · intro vs X wq K;have XN:=K.2.1;obtain ⟨⟨A5,c5⟩,e4,k4⟩:=K.dep 4 rfl rfl rfl;refine jc 14 _ rfl e4 ?_;obtain ⟨_,e2,k2⟩:=K.dep 2 rfl rfl rfl;refine jc 12 _ rfl e2 (vt rfl (zc abx rfl ((Gh _ A5 c5 2 (k4.here) (ht 2 de)).mono ?_)));rintro e w2 ⟨A6,c6,rfl,hO,hb⟩;exact ⟨_,rfl,hb,⟨(A6,c6),rfl,Per.own hO XN⟩⟩
   · intro vs X wq K;have LE:=K.1;obtain ⟨_,e3,k3⟩:=K.dep 3 rfl rfl rfl;refine jc 13 _ rfl e3 ?_;obtain ⟨⟨A6,c6⟩,e5,k5⟩:=K.dep 5 rfl rfl rfl;refine jc 15 _ rfl e5 ?_;obtain ⟨_,e2,k2⟩:=K.dep 2 rfl rfl rfl;refine jc 12 _ rfl e2 (vt rfl (zc aox rfl ((am3 _ A4 A6 c4 c6 (decide ((2:Int)<0)) (limbs 2) (Per.aF hN4 _ ((Ext.refl No _).drew.trans LE)) (k5.here) hlb).mono ?_)));exact fV
   · refine yt ?_;intro vs X wq K;refine vt rfl (zc abj rfl ((Gg _ ⟨#[97,39,10,200]⟩).mono ?_));exact fV
   · refine yt ?_;intro vs X wq K;refine vt rfl (zc XE rfl ((Tk _).mono ?_));exact fV
   · refine yt ?_;intro vs X wq K;exact vt rfl (qC rfl rfl ⟨Below.refl _ _,Left.of (by simp only[zrz];rfl:(.bool ((⟨#[39,97,92,39,92,110,92,120,99,56,39]⟩:ByteArray).toList==(⟨#[39,97,92,39,92,110,92,120,99,56,39]⟩:ByteArray).toList):Value)=_)⟩)
   · refine yt ?_;intro vs X wq K;refine vt rfl (zc abj rfl ((Gg _ ⟨#[97]⟩).mono ?_));exact fV
   · refine yt ?_;intro vs X wq K;refine vt rfl (zc en9 rfl ((ZY _).mono ?_));exact fV
   · exact WM
   · exact WM
   · refine yt ?_;intro vs X wq K;refine vt rfl (zc aoz rfl ((Tm _).mono ?_));exact fV
 intro vs w5 LE AO AL AF AA;have hbd:Below (wC).heap.size (wC) w5:=(((Ext.refl No (wC)).drew).trans LE).toBelow;obtain ⟨_,e24,k24⟩:=AL.2.2.2.2.2.2.2.2.2.2.2.2.2.2.2.2.2.2.2.2.2.2.2.2.1;refine jz (τ:=[(0,.bool true)]) ⟨congrArg some e24,trivial⟩ ?_;clear AL AF AA AO;refine yl ?_;exact ⟨rfl,(E7.trans (Ext.of_below hbd No)).toBelow⟩
end
end
end Go.Proofs.YtdofcnodhgaedaaGreatDoor
