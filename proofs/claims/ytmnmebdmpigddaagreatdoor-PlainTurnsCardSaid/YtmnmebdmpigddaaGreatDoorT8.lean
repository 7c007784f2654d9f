/- Texts of this claim. -/
import Derived.Test.YtmnmebdmpigddaaGreatDoorT7
import Derived.Test.YtmnmebdmpigddaaGreatDoorProg
import Derived.KernelRfl
namespace Go.Proofs.YtmnmebdmpigddaaGreatDoor
theorem u24:type_of% Tryz.underlying24:=Tryz.underlying24
theorem u28:type_of% Tryz.underlying28:=Tryz.underlying28
theorem u48:type_of% Tryz.underlying48:=Tryz.underlying48
theorem u4:type_of% Tryz.underlying4:=Tryz.underlying4
theorem u5:type_of% Tryz.underlying5:=Tryz.underlying5
theorem u9:type_of% Tryz.underlying9:=Tryz.underlying9
theorem u22:type_of% Tryz.underlying22:=Tryz.underlying22
theorem u25:type_of% Tryz.underlying25:=Tryz.underlying25
theorem u46:type_of% Tryz.underlying46:=Tryz.underlying46
theorem u79:type_of% Tryz.underlying79:=Tryz.underlying79
theorem u87:type_of% Tryz.underlying87:=Tryz.underlying87
theorem u111:type_of% Tryz.underlying111:=Tryz.underlying111
theorem u155:type_of% Tryz.underlying155:=Tryz.underlying155
theorem u265:type_of% Tryz.underlying265:=Tryz.underlying265
theorem u282:type_of% Tryz.underlying282:=Tryz.underlying282
theorem u83:type_of% Tryz.underlying83:=Tryz.underlying83
theorem u227:type_of% Tryz.underlying227:=Tryz.underlying227
theorem sz3:qu Tryz.prog 3 1:=(by kernel_rfl:(Tryz.prog.info? 3).map (·.size)=some 1)
theorem sz4:qu Tryz.prog 4 1:=(by kernel_rfl:(Tryz.prog.info? 4).map (·.size)=some 1)
theorem sz5:qu Tryz.prog 5 1:=(by kernel_rfl:(Tryz.prog.info? 5).map (·.size)=some 1)
theorem zr5:om Tryz.prog 5 (.int .u8 0):=(by kernel_rfl:(Tryz.prog.info? 5).map (·.zero)=some (some (.int .u8 0)))
theorem ku:qu Tryz.prog 24 2:=(by kernel_rfl:(Tryz.prog.info? 24).map (·.size)=some 2)
theorem zr24:om Tryz.prog 24 (.agg #[.bool false,.slice none 0 0]):=(by kernel_rfl:(Tryz.prog.info? 24).map (·.zero)=some (some (.agg #[.bool false,.slice none 0 0])))
theorem sz25:qu Tryz.prog 25 1:=(by kernel_rfl:(Tryz.prog.info? 25).map (·.size)=some 1)
theorem zr25:om Tryz.prog 25 (.int .u64 0):=(by kernel_rfl:(Tryz.prog.info? 25).map (·.zero)=some (some (.int .u64 0)))
theorem kt:qu Tryz.prog 28 7:=(by kernel_rfl:(Tryz.prog.info? 28).map (·.size)=some 7)
theorem yvq:om Tryz.prog 28 (.agg #[.int .i64 0,.bool false,.bool false,.slice none 0 0,.int .u64 0,.string ⟨#[]⟩,.slice none 0 0]):=(by kernel_rfl:(Tryz.prog.info? 28).map (·.zero)=some (some (.agg #[.int .i64 0,.bool false,.bool false,.slice none 0 0,.int .u64 0,.string ⟨#[]⟩,.slice none 0 0])))
theorem sz46:qu Tryz.prog 46 1:=(by kernel_rfl:(Tryz.prog.info? 46).map (·.size)=some 1)
theorem zuv:qu Tryz.prog 48 2:=(by kernel_rfl:(Tryz.prog.info? 48).map (·.size)=some 2)
theorem zr48:om Tryz.prog 48 (.agg #[.bool false,.slice none 0 0]):=(by kernel_rfl:(Tryz.prog.info? 48).map (·.zero)=some (some (.agg #[.bool false,.slice none 0 0])))
theorem sz79:qu Tryz.prog 79 1:=(by kernel_rfl:(Tryz.prog.info? 79).map (·.size)=some 1)
theorem zr81:om Tryz.prog 81 (.agg #[.pointer none,.slice none 0 0]):=(by kernel_rfl:(Tryz.prog.info? 81).map (·.zero)=some (some (.agg #[.pointer none,.slice none 0 0])))
theorem sz111:qu Tryz.prog 111 1:=(by kernel_rfl:(Tryz.prog.info? 111).map (·.size)=some 1)
theorem zr201:om Tryz.prog 201 (.agg #[.int .u8 0,.int .u8 0,.int .u8 0,.int .u8 0,.int .u8 0,.int .u8 0,.int .u8 0,.int .u8 0,.int .u8 0,.int .u8 0,.int .u8 0,.int .u8 0,.int .u8 0,.int .u8 0,.int .u8 0,.int .u8 0,.int .u8 0,.int .u8 0,.int .u8 0,.int .u8 0,.int .u8 0,.int .u8 0,.int .u8 0,.int .u8 0]):=(by kernel_rfl:(Tryz.prog.info? 201).map (·.zero)=some (some (.agg #[.int .u8 0,.int .u8 0,.int .u8 0,.int .u8 0,.int .u8 0,.int .u8 0,.int .u8 0,.int .u8 0,.int .u8 0,.int .u8 0,.int .u8 0,.int .u8 0,.int .u8 0,.int .u8 0,.int .u8 0,.int .u8 0,.int .u8 0,.int .u8 0,.int .u8 0,.int .u8 0,.int .u8 0,.int .u8 0,.int .u8 0,.int .u8 0])))
theorem zr257:om Tryz.prog 257 (.agg #[.int .u64 0,.int .u64 0,.int .i64 0]):=(by kernel_rfl:(Tryz.prog.info? 257).map (·.zero)=some (some (.agg #[.int .u64 0,.int .u64 0,.int .i64 0])))
theorem sz276:qu Tryz.prog 276 2:=(by kernel_rfl:(Tryz.prog.info? 276).map (·.size)=some 2)
theorem sz281:qu Tryz.prog 281 2:=(by kernel_rfl:(Tryz.prog.info? 281).map (·.size)=some 2)
theorem inf5:InfoIs Tryz.prog 5 (.int .u8 0) 1 1:=(by kernel_rfl:(Tryz.prog.info? 5).map (fun i=>(i.zero,i.size,i.bytes))=some (some (.int .u8 0),1,1))
theorem pl24:zlv Tryz.prog 24 [(0,1),(1,1)]:=⟨_,u24,by kernel_rfl⟩
theorem inf25:InfoIs Tryz.prog 25 (.int .u64 0) 1 8:=(by kernel_rfl:(Tryz.prog.info? 25).map (fun i=>(i.zero,i.size,i.bytes))=some (some (.int .u64 0),1,8))
theorem yvk:zlv Tryz.prog 28 [(0,1),(1,1),(2,2),(4,1),(5,1),(6,1)]:=⟨_,u28,by kernel_rfl⟩
theorem pl48:zlv Tryz.prog 48 [(0,1),(1,1)]:=⟨_,u48,by kernel_rfl⟩
theorem pl81:zlv Tryz.prog 81 [(0,1),(1,1)]:=⟨_,Tryz.underlying81,by kernel_rfl⟩
theorem pl220:zlv Tryz.prog 220 [(0,1),(1,1),(2,1)]:=⟨_,Tryz.underlying220,by kernel_rfl⟩
theorem pl229:zlv Tryz.prog 229 [(0,800),(800,1),(801,1),(802,1),(803,1)]:=⟨_,Tryz.underlying229,by kernel_rfl⟩
theorem pl257:zlv Tryz.prog 257 [(0,1),(1,1),(2,1)]:=⟨_,Tryz.underlying257,by kernel_rfl⟩
theorem pl276:zlv Tryz.prog 276 [(0,1),(1,1)]:=⟨_,Tryz.underlying276,by kernel_rfl⟩
theorem pl281:zlv Tryz.prog 281 [(0,1),(1,1)]:=⟨_,Tryz.underlying281,by kernel_rfl⟩
theorem en6:yg Tryz.prog 6:=⟨_,Tryz.func6,by kernel_rfl,by kernel_rfl⟩
theorem en7:yg Tryz.prog 7:=⟨_,Tryz.func7,by kernel_rfl,by kernel_rfl⟩
theorem en9:yg Tryz.prog 9:=⟨_,Tryz.func9,by kernel_rfl,by kernel_rfl⟩
theorem en12:yg Tryz.prog 12:=⟨_,Tryz.func12,by kernel_rfl,by kernel_rfl⟩
theorem en13:yg Tryz.prog 13:=⟨_,Tryz.func13,by kernel_rfl,by kernel_rfl⟩
theorem en14:yg Tryz.prog 14:=⟨_,Tryz.func14,by kernel_rfl,by kernel_rfl⟩
theorem en15:yg Tryz.prog 15:=⟨_,Tryz.func15,by kernel_rfl,by kernel_rfl⟩
theorem en16:yg Tryz.prog 16:=⟨_,Tryz.func16,by kernel_rfl,by kernel_rfl⟩
theorem en17:yg Tryz.prog 17:=⟨_,Tryz.func17,by kernel_rfl,by kernel_rfl⟩
theorem en18:yg Tryz.prog 18:=⟨_,Tryz.func18,by kernel_rfl,by kernel_rfl⟩
theorem en19:yg Tryz.prog 19:=⟨_,Tryz.func19,by kernel_rfl,by kernel_rfl⟩
theorem en20:yg Tryz.prog 20:=⟨_,Tryz.func20,by kernel_rfl,by kernel_rfl⟩
theorem en21:yg Tryz.prog 21:=⟨_,Tryz.func21,by kernel_rfl,by kernel_rfl⟩
theorem en22:yg Tryz.prog 22:=⟨_,Tryz.func22,by kernel_rfl,by kernel_rfl⟩
theorem en23:yg Tryz.prog 23:=⟨_,Tryz.func23,by kernel_rfl,by kernel_rfl⟩
theorem en24:yg Tryz.prog 24:=⟨_,Tryz.func24,by kernel_rfl,by kernel_rfl⟩
theorem en25:yg Tryz.prog 25:=⟨_,Tryz.func25,by kernel_rfl,by kernel_rfl⟩
theorem en26:yg Tryz.prog 26:=⟨_,Tryz.func26,by kernel_rfl,by kernel_rfl⟩
theorem en27:yg Tryz.prog 27:=⟨_,Tryz.func27,by kernel_rfl,by kernel_rfl⟩
theorem yek:yg Tryz.prog 28:=⟨_,Tryz.func28,by kernel_rfl,by kernel_rfl⟩
theorem en29:yg Tryz.prog 29:=⟨_,Tryz.func29,by kernel_rfl,by kernel_rfl⟩
theorem en30:yg Tryz.prog 30:=⟨_,Tryz.func30,by kernel_rfl,by kernel_rfl⟩
theorem en33:yg Tryz.prog 33:=⟨_,Tryz.func33,by kernel_rfl,by kernel_rfl⟩
theorem en36:yg Tryz.prog 36:=⟨_,Tryz.func36,by kernel_rfl,by kernel_rfl⟩
theorem en39:yg Tryz.prog 39:=⟨_,Tryz.func39,by kernel_rfl,by kernel_rfl⟩
theorem en40:yg Tryz.prog 40:=⟨_,Tryz.func40,by kernel_rfl,by kernel_rfl⟩
theorem en41:yg Tryz.prog 41:=⟨_,Tryz.func41,by kernel_rfl,by kernel_rfl⟩
theorem en42:yg Tryz.prog 42:=⟨_,Tryz.func42,by kernel_rfl,by kernel_rfl⟩
theorem en43:yg Tryz.prog 43:=⟨_,Tryz.func43,by kernel_rfl,by kernel_rfl⟩
theorem en44:yg Tryz.prog 44:=⟨_,Tryz.func44,by kernel_rfl,by kernel_rfl⟩
theorem en45:yg Tryz.prog 45:=⟨_,Tryz.func45,by kernel_rfl,by kernel_rfl⟩
theorem en46:yg Tryz.prog 46:=⟨_,Tryz.func46,by kernel_rfl,by kernel_rfl⟩
theorem en47:yg Tryz.prog 47:=⟨_,Tryz.func47,by kernel_rfl,by kernel_rfl⟩
theorem en48:yg Tryz.prog 48:=⟨_,Tryz.func48,by kernel_rfl,by kernel_rfl⟩
theorem en49:yg Tryz.prog 49:=⟨_,Tryz.func49,by kernel_rfl,by kernel_rfl⟩
theorem en50:yg Tryz.prog 50:=⟨_,Tryz.func50,by kernel_rfl,by kernel_rfl⟩
theorem en51:yg Tryz.prog 51:=⟨_,Tryz.func51,by kernel_rfl,by kernel_rfl⟩
theorem en52:yg Tryz.prog 52:=⟨_,Tryz.func52,by kernel_rfl,by kernel_rfl⟩
theorem en53:yg Tryz.prog 53:=⟨_,Tryz.func53,by kernel_rfl,by kernel_rfl⟩
theorem en54:yg Tryz.prog 54:=⟨_,Tryz.func54,by kernel_rfl,by kernel_rfl⟩
theorem en55:yg Tryz.prog 55:=⟨_,Tryz.func55,by kernel_rfl,by kernel_rfl⟩
theorem en56:yg Tryz.prog 56:=⟨_,Tryz.func56,by kernel_rfl,by kernel_rfl⟩
theorem en57:yg Tryz.prog 57:=⟨_,Tryz.func57,by kernel_rfl,by kernel_rfl⟩
theorem en59:yg Tryz.prog 59:=⟨_,Tryz.func59,by kernel_rfl,by kernel_rfl⟩
theorem en60:yg Tryz.prog 60:=⟨_,Tryz.func60,by kernel_rfl,by kernel_rfl⟩
theorem en61:yg Tryz.prog 61:=⟨_,Tryz.func61,by kernel_rfl,by kernel_rfl⟩
theorem en62:yg Tryz.prog 62:=⟨_,Tryz.func62,by kernel_rfl,by kernel_rfl⟩
theorem en63:yg Tryz.prog 63:=⟨_,Tryz.func63,by kernel_rfl,by kernel_rfl⟩
theorem en64:yg Tryz.prog 64:=⟨_,Tryz.func64,by kernel_rfl,by kernel_rfl⟩
theorem en65:yg Tryz.prog 65:=⟨_,Tryz.func65,by kernel_rfl,by kernel_rfl⟩
theorem yoq:yg Tryz.prog 66:=⟨_,Tryz.func66,by kernel_rfl,by kernel_rfl⟩
theorem en67:yg Tryz.prog 67:=⟨_,Tryz.func67,by kernel_rfl,by kernel_rfl⟩
theorem en72:yg Tryz.prog 72:=⟨_,Tryz.func72,by kernel_rfl,by kernel_rfl⟩
theorem en74:yg Tryz.prog 74:=⟨_,Tryz.func74,by kernel_rfl,by kernel_rfl⟩
theorem en85:yg Tryz.prog 85:=⟨_,Tryz.func85,by kernel_rfl,by kernel_rfl⟩
theorem en87:yg Tryz.prog 87:=⟨_,Tryz.func87,by kernel_rfl,by kernel_rfl⟩
theorem en89:yg Tryz.prog 89:=⟨_,Tryz.func89,by kernel_rfl,by kernel_rfl⟩
theorem en90:yg Tryz.prog 90:=⟨_,Tryz.func90,by kernel_rfl,by kernel_rfl⟩
theorem en91:yg Tryz.prog 91:=⟨_,Tryz.func91,by kernel_rfl,by kernel_rfl⟩
theorem en92:yg Tryz.prog 92:=⟨_,Tryz.func92,by kernel_rfl,by kernel_rfl⟩
theorem en93:yg Tryz.prog 93:=⟨_,Tryz.func93,by kernel_rfl,by kernel_rfl⟩
theorem en94:yg Tryz.prog 94:=⟨_,Tryz.func94,by kernel_rfl,by kernel_rfl⟩
theorem en95:yg Tryz.prog 95:=⟨_,Tryz.func95,by kernel_rfl,by kernel_rfl⟩
theorem en96:yg Tryz.prog 96:=⟨_,Tryz.func96,by kernel_rfl,by kernel_rfl⟩
theorem en97:yg Tryz.prog 97:=⟨_,Tryz.func97,by kernel_rfl,by kernel_rfl⟩
theorem en98:yg Tryz.prog 98:=⟨_,Tryz.func98,by kernel_rfl,by kernel_rfl⟩
theorem en99:yg Tryz.prog 99:=⟨_,Tryz.func99,by kernel_rfl,by kernel_rfl⟩
theorem en100:yg Tryz.prog 100:=⟨_,Tryz.func100,by kernel_rfl,by kernel_rfl⟩
theorem en101:yg Tryz.prog 101:=⟨_,Tryz.func101,by kernel_rfl,by kernel_rfl⟩
theorem en102:yg Tryz.prog 102:=⟨_,Tryz.func102,by kernel_rfl,by kernel_rfl⟩
theorem en103:yg Tryz.prog 103:=⟨_,Tryz.func103,by kernel_rfl,by kernel_rfl⟩
theorem en104:yg Tryz.prog 104:=⟨_,Tryz.func104,by kernel_rfl,by kernel_rfl⟩
theorem en105:yg Tryz.prog 105:=⟨_,Tryz.func105,by kernel_rfl,by kernel_rfl⟩
theorem en106:yg Tryz.prog 106:=⟨_,Tryz.func106,by kernel_rfl,by kernel_rfl⟩
theorem en107:yg Tryz.prog 107:=⟨_,Tryz.func107,by kernel_rfl,by kernel_rfl⟩
theorem en108:yg Tryz.prog 108:=⟨_,Tryz.func108,by kernel_rfl,by kernel_rfl⟩
theorem en110:yg Tryz.prog 110:=⟨_,Tryz.func110,by kernel_rfl,by kernel_rfl⟩
theorem en112:yg Tryz.prog 112:=⟨_,Tryz.func112,by kernel_rfl,by kernel_rfl⟩
theorem en113:yg Tryz.prog 113:=⟨_,Tryz.func113,by kernel_rfl,by kernel_rfl⟩
theorem en114:yg Tryz.prog 114:=⟨_,Tryz.func114,by kernel_rfl,by kernel_rfl⟩
theorem en115:yg Tryz.prog 115:=⟨_,Tryz.func115,by kernel_rfl,by kernel_rfl⟩
theorem en117:yg Tryz.prog 117:=⟨_,Tryz.func117,by kernel_rfl,by kernel_rfl⟩
theorem en118:yg Tryz.prog 118:=⟨_,Tryz.func118,by kernel_rfl,by kernel_rfl⟩
theorem en119:yg Tryz.prog 119:=⟨_,Tryz.func119,by kernel_rfl,by kernel_rfl⟩
theorem en128:yg Tryz.prog 128:=⟨_,Tryz.func128,by kernel_rfl,by kernel_rfl⟩
theorem en141:yg Tryz.prog 141:=⟨_,Tryz.func141,by kernel_rfl,by kernel_rfl⟩
theorem en145:yg Tryz.prog 145:=⟨_,Tryz.func145,by kernel_rfl,by kernel_rfl⟩
theorem en146:yg Tryz.prog 146:=⟨_,Tryz.func146,by kernel_rfl,by kernel_rfl⟩
theorem en152:yg Tryz.prog 152:=⟨_,Tryz.func152,by kernel_rfl,by kernel_rfl⟩
theorem en153:yg Tryz.prog 153:=⟨_,Tryz.func153,by kernel_rfl,by kernel_rfl⟩
theorem en154:yg Tryz.prog 154:=⟨_,Tryz.func154,by kernel_rfl,by kernel_rfl⟩
theorem en155:yg Tryz.prog 155:=⟨_,Tryz.func155,by kernel_rfl,by kernel_rfl⟩
theorem en156:yg Tryz.prog 156:=⟨_,Tryz.func156,by kernel_rfl,by kernel_rfl⟩
theorem en157:yg Tryz.prog 157:=⟨_,Tryz.func157,by kernel_rfl,by kernel_rfl⟩
theorem en158:yg Tryz.prog 158:=⟨_,Tryz.func158,by kernel_rfl,by kernel_rfl⟩
theorem en159:yg Tryz.prog 159:=⟨_,Tryz.func159,by kernel_rfl,by kernel_rfl⟩
theorem en160:yg Tryz.prog 160:=⟨_,Tryz.func160,by kernel_rfl,by kernel_rfl⟩
theorem en168:yg Tryz.prog 168:=⟨_,Tryz.func168,by kernel_rfl,by kernel_rfl⟩
theorem en172:yg Tryz.prog 172:=⟨_,Tryz.func172,by kernel_rfl,by kernel_rfl⟩
theorem en173:yg Tryz.prog 173:=⟨_,Tryz.func173,by kernel_rfl,by kernel_rfl⟩
theorem en174:yg Tryz.prog 174:=⟨_,Tryz.func174,by kernel_rfl,by kernel_rfl⟩
theorem en180:yg Tryz.prog 180:=⟨_,Tryz.func180,by kernel_rfl,by kernel_rfl⟩
theorem en186:yg Tryz.prog 186:=⟨_,Tryz.func186,by kernel_rfl,by kernel_rfl⟩
theorem en187:yg Tryz.prog 187:=⟨_,Tryz.func187,by kernel_rfl,by kernel_rfl⟩
theorem en196:yg Tryz.prog 196:=⟨_,Tryz.func196,by kernel_rfl,by kernel_rfl⟩
theorem en201:yg Tryz.prog 201:=⟨_,Tryz.func201,by kernel_rfl,by kernel_rfl⟩
theorem en202:yg Tryz.prog 202:=⟨_,Tryz.func202,by kernel_rfl,by kernel_rfl⟩
theorem en203:yg Tryz.prog 203:=⟨_,Tryz.func203,by kernel_rfl,by kernel_rfl⟩
theorem en204:yg Tryz.prog 204:=⟨_,Tryz.func204,by kernel_rfl,by kernel_rfl⟩
theorem en215:yg Tryz.prog 215:=⟨_,Tryz.func215,by kernel_rfl,by kernel_rfl⟩
theorem en216:yg Tryz.prog 216:=⟨_,Tryz.func216,by kernel_rfl,by kernel_rfl⟩
theorem en222:yg Tryz.prog 222:=⟨_,Tryz.func222,by kernel_rfl,by kernel_rfl⟩
theorem en223:yg Tryz.prog 223:=⟨_,Tryz.func223,by kernel_rfl,by kernel_rfl⟩
theorem en224:yg Tryz.prog 224:=⟨_,Tryz.func224,by kernel_rfl,by kernel_rfl⟩
theorem en226:yg Tryz.prog 226:=⟨_,Tryz.func226,by kernel_rfl,by kernel_rfl⟩
theorem en227:yg Tryz.prog 227:=⟨_,Tryz.func227,by kernel_rfl,by kernel_rfl⟩
theorem en229:yg Tryz.prog 229:=⟨_,Tryz.func229,by kernel_rfl,by kernel_rfl⟩
theorem en241:yg Tryz.prog 241:=⟨_,Tryz.func241,by kernel_rfl,by kernel_rfl⟩
theorem en249:yg Tryz.prog 249:=⟨_,Tryz.func249,by kernel_rfl,by kernel_rfl⟩
theorem en252:yg Tryz.prog 252:=⟨_,Tryz.func252,by kernel_rfl,by kernel_rfl⟩
theorem en253:yg Tryz.prog 253:=⟨_,Tryz.func253,by kernel_rfl,by kernel_rfl⟩
theorem en254:yg Tryz.prog 254:=⟨_,Tryz.func254,by kernel_rfl,by kernel_rfl⟩
theorem en255:yg Tryz.prog 255:=⟨_,Tryz.func255,by kernel_rfl,by kernel_rfl⟩
theorem en257:yg Tryz.prog 257:=⟨_,Tryz.func257,by kernel_rfl,by kernel_rfl⟩
theorem en258:yg Tryz.prog 258:=⟨_,Tryz.func258,by kernel_rfl,by kernel_rfl⟩
theorem en259:yg Tryz.prog 259:=⟨_,Tryz.func259,by kernel_rfl,by kernel_rfl⟩
theorem en269:yg Tryz.prog 269:=⟨_,Tryz.func269,by kernel_rfl,by kernel_rfl⟩
theorem en270:yg Tryz.prog 270:=⟨_,Tryz.func270,by kernel_rfl,by kernel_rfl⟩
theorem en271:yg Tryz.prog 271:=⟨_,Tryz.func271,by kernel_rfl,by kernel_rfl⟩
theorem en272:yg Tryz.prog 272:=⟨_,Tryz.func272,by kernel_rfl,by kernel_rfl⟩
theorem en277:yg Tryz.prog 277:=⟨_,Tryz.func277,by kernel_rfl,by kernel_rfl⟩
theorem mixed:Tryz.prog.follows .mixedOrders=true:=by kernel_rfl
instance :type_of% (Und.mk Tryz.underlying3):=⟨Tryz.underlying3⟩
instance :type_of% (Und.mk u4):=⟨u4⟩
instance :type_of% (Und.mk u5):=⟨u5⟩
instance :type_of% (Und.mk u9):=⟨u9⟩
instance :type_of% (Und.mk u22):=⟨u22⟩
instance :type_of% (Und.mk u24):=⟨u24⟩
instance :type_of% (Und.mk u25):=⟨u25⟩
instance :type_of% (Und.mk Tryz.underlying26):=⟨Tryz.underlying26⟩
instance :type_of% (Und.mk u28):=⟨u28⟩
instance :type_of% (Und.mk u46):=⟨u46⟩
instance :type_of% (Und.mk u48):=⟨u48⟩
instance :type_of% (Und.mk u79):=⟨u79⟩
instance :type_of% (Und.mk u87):=⟨u87⟩
instance :type_of% (Und.mk u111):=⟨u111⟩
instance :type_of% (Und.mk u155):=⟨u155⟩
instance :type_of% (Und.mk u265):=⟨u265⟩
instance :type_of% (Und.mk u282):=⟨u282⟩
instance :type_of% (Szc.mk ku):=⟨ku⟩
instance :type_of% (Szc.mk kt):=⟨kt⟩
instance :type_of% (Szc.mk zuv):=⟨zuv⟩
instance :type_of% (Plc.mk pl24):=⟨pl24⟩
instance :type_of% (Plc.mk yvk):=⟨yvk⟩
instance :type_of% (Plc.mk pl48):=⟨pl48⟩
instance :type_of% (Plc.mk pl81):=⟨pl81⟩
instance :type_of% (Plc.mk pl220):=⟨pl220⟩
instance :type_of% (Plc.mk pl229):=⟨pl229⟩
instance :type_of% (Plc.mk pl257):=⟨pl257⟩
instance :type_of% (Plc.mk pl276):=⟨pl276⟩
instance :type_of% (Plc.mk pl281):=⟨pl281⟩
end Go.Proofs.YtmnmebdmpigddaaGreatDoor
