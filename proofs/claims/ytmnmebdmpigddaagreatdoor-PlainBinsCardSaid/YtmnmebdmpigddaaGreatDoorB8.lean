/- Texts of this claim. -/
import Derived.Test.YtmnmebdmpigddaaGreatDoorB7
import Derived.Test.YtmnmebdmpigddaaGreatDoorProg
import Derived.KernelRfl
namespace Go.Proofs.YtmnmebdmpigddaaGreatDoor
open Proofs.Tryz
theorem u24:type_of% underlying24:=underlying24
theorem u28:type_of% underlying28:=underlying28
theorem u48:type_of% underlying48:=underlying48
theorem u4:type_of% underlying4:=underlying4
theorem u5:type_of% underlying5:=underlying5
theorem u9:type_of% underlying9:=underlying9
theorem u22:type_of% underlying22:=underlying22
theorem u25:type_of% underlying25:=underlying25
theorem u46:type_of% underlying46:=underlying46
theorem u79:type_of% underlying79:=underlying79
theorem Rk:type_of% underlying87:=underlying87
theorem gX:type_of% underlying111:=underlying111
theorem FR:type_of% underlying155:=underlying155
theorem FT:type_of% underlying265:=underlying265
theorem FU:type_of% underlying282:=underlying282
theorem u83:type_of% underlying83:=underlying83
theorem fH:type_of% underlying227:=underlying227
theorem kr {P:Prop} (h:P:=by kernel_rfl):P:=h
theorem JI:vc prog 3 1:=(by kernel_rfl:(prog.info? 3).map (·.size)=some 1)
theorem sz4:vc prog 4 1:=(by kernel_rfl:(prog.info? 4).map (·.size)=some 1)
theorem gF:vc prog 5 1:=(by kernel_rfl:(prog.info? 5).map (·.size)=some 1)
theorem zr5:y5 prog 5 (.int .u8 0):=(by kernel_rfl:(prog.info? 5).map (·.zero)=some (some (.int .u8 0)))
theorem oc:vc prog 24 2:=(by kernel_rfl:(prog.info? 24).map (·.size)=some 2)
theorem u6:y5 prog 24 (.agg #[.bool false,.slice none 0 0]):=(by kernel_rfl:(prog.info? 24).map (·.zero)=some (some (.agg #[.bool false,.slice none 0 0])))
theorem zP:vc prog 25 1:=(by kernel_rfl:(prog.info? 25).map (·.size)=some 1)
theorem qj:vc prog 28 7:=(by kernel_rfl:(prog.info? 28).map (·.size)=some 7)
theorem ko:y5 prog 28 (.agg #[.int .i64 0,.bool false,.bool false,.slice none 0 0,.int .u64 0,.string ⟨#[]⟩,.slice none 0 0]):=(by kernel_rfl:(prog.info? 28).map (·.zero)=some (some (.agg #[.int .i64 0,.bool false,.bool false,.slice none 0 0,.int .u64 0,.string ⟨#[]⟩,.slice none 0 0])))
theorem aG7:vc prog 46 1:=(by kernel_rfl:(prog.info? 46).map (·.size)=some 1)
theorem qK:vc prog 48 2:=(by kernel_rfl:(prog.info? 48).map (·.size)=some 2)
theorem yL:y5 prog 48 (.agg #[.bool false,.slice none 0 0]):=(by kernel_rfl:(prog.info? 48).map (·.zero)=some (some (.agg #[.bool false,.slice none 0 0])))
theorem aUj:vc prog 79 1:=(by kernel_rfl:(prog.info? 79).map (·.size)=some 1)
theorem aV0:y5 prog 81 (.agg #[.pointer none,.slice none 0 0]):=(by kernel_rfl:(prog.info? 81).map (·.zero)=some (some (.agg #[.pointer none,.slice none 0 0])))
theorem Rl:vc prog 111 1:=(by kernel_rfl:(prog.info? 111).map (·.size)=some 1)
theorem aG8:y5 prog 201 (.agg #[.int .u8 0,.int .u8 0,.int .u8 0,.int .u8 0,.int .u8 0,.int .u8 0,.int .u8 0,.int .u8 0,.int .u8 0,.int .u8 0,.int .u8 0,.int .u8 0,.int .u8 0,.int .u8 0,.int .u8 0,.int .u8 0,.int .u8 0,.int .u8 0,.int .u8 0,.int .u8 0,.int .u8 0,.int .u8 0,.int .u8 0,.int .u8 0]):=(by kernel_rfl:(prog.info? 201).map (·.zero)=some (some (.agg #[.int .u8 0,.int .u8 0,.int .u8 0,.int .u8 0,.int .u8 0,.int .u8 0,.int .u8 0,.int .u8 0,.int .u8 0,.int .u8 0,.int .u8 0,.int .u8 0,.int .u8 0,.int .u8 0,.int .u8 0,.int .u8 0,.int .u8 0,.int .u8 0,.int .u8 0,.int .u8 0,.int .u8 0,.int .u8 0,.int .u8 0,.int .u8 0])))
theorem aG9:y5 prog 257 (.agg #[.int .u64 0,.int .u64 0,.int .i64 0]):=(by kernel_rfl:(prog.info? 257).map (·.zero)=some (some (.agg #[.int .u64 0,.int .u64 0,.int .i64 0])))
theorem amq:vc prog 276 2:=(by kernel_rfl:(prog.info? 276).map (·.size)=some 2)
theorem amx:vc prog 281 2:=(by kernel_rfl:(prog.info? 281).map (·.size)=some 2)
theorem Z4:uM prog 5 (.int .u8 0) 1 1:=(by kernel_rfl:(prog.info? 5).map (fun i=>(i.zero,i.size,i.bytes))=some (some (.int .u8 0),1,1))
theorem aw4:P6 prog 24 [(0,1),(1,1)]:=⟨_,u24,kr⟩
theorem nU:P6 prog 28 [(0,1),(1,1),(2,2),(4,1),(5,1),(6,1)]:=⟨_,u28,kr⟩
theorem zQ:P6 prog 48 [(0,1),(1,1)]:=⟨_,u48,kr⟩
theorem aGq:P6 prog 81 [(0,1),(1,1)]:=⟨_,underlying81,kr⟩
theorem amj:P6 prog 220 [(0,1),(1,1),(2,1)]:=⟨_,underlying220,kr⟩
theorem an0:P6 prog 229 [(0,800),(800,1),(801,1),(802,1),(803,1)]:=⟨_,underlying229,kr⟩
theorem an1:P6 prog 257 [(0,1),(1,1),(2,1)]:=⟨_,underlying257,kr⟩
theorem an2:P6 prog 276 [(0,1),(1,1)]:=⟨_,underlying276,kr⟩
theorem an3:P6 prog 281 [(0,1),(1,1)]:=⟨_,underlying281,kr⟩
theorem en6:yc prog 6:=⟨_,func6,kr,kr⟩
theorem en7:yc prog 7:=⟨_,func7,kr,kr⟩
theorem en8:yc prog 8:=⟨_,func8,kr,kr⟩
theorem en9:yc prog 9:=⟨_,func9,kr,kr⟩
theorem aV1:yc prog 10:=⟨_,func10,kr,kr⟩
theorem aw5:yc prog 12:=⟨_,func12,kr,kr⟩
theorem aGz:yc prog 14:=⟨_,func14,kr,kr⟩
theorem aV2:yc prog 20:=⟨_,func20,kr,kr⟩
theorem Me:yc prog 21:=⟨_,func21,kr,kr⟩
theorem Z5:yc prog 22:=⟨_,func22,kr,kr⟩
theorem aV3:yc prog 23:=⟨_,func23,kr,kr⟩
theorem FV:yc prog 24:=⟨_,func24,kr,kr⟩
theorem aV4:yc prog 25:=⟨_,func25,kr,kr⟩
theorem aV5:yc prog 26:=⟨_,func26,kr,kr⟩
theorem FW:yc prog 27:=⟨_,func27,kr,kr⟩
theorem gQ:yc prog 28:=⟨_,func28,kr,kr⟩
theorem jF:yc prog 29:=⟨_,func29,kr,kr⟩
theorem aGx:yc prog 30:=⟨_,func30,kr,kr⟩
theorem aw6:yc prog 31:=⟨_,func31,kr,kr⟩
theorem aGj:yc prog 32:=⟨_,func32,kr,kr⟩
theorem gY:yc prog 33:=⟨_,func33,kr,kr⟩
theorem jG:yc prog 34:=⟨_,func34,kr,kr⟩
theorem aV6:yc prog 35:=⟨_,func35,kr,kr⟩
theorem FX:yc prog 36:=⟨_,func36,kr,kr⟩
theorem aw7:yc prog 37:=⟨_,func37,kr,kr⟩
theorem aH0:yc prog 38:=⟨_,func38,kr,kr⟩
theorem Rm:yc prog 39:=⟨_,func39,kr,kr⟩
theorem aH1:yc prog 40:=⟨_,func40,kr,kr⟩
theorem aH2:yc prog 41:=⟨_,func41,kr,kr⟩
theorem aw8:yc prog 42:=⟨_,func42,kr,kr⟩
theorem aV7:yc prog 43:=⟨_,func43,kr,kr⟩
theorem aH3:yc prog 45:=⟨_,func45,kr,kr⟩
theorem aH4:yc prog 46:=⟨_,func46,kr,kr⟩
theorem aH5:yc prog 47:=⟨_,func47,kr,kr⟩
theorem Z6:yc prog 49:=⟨_,func49,kr,kr⟩
theorem aV8:yc prog 51:=⟨_,func51,kr,kr⟩
theorem aV9:yc prog 52:=⟨_,func52,kr,kr⟩
theorem aH6:yc prog 55:=⟨_,func55,kr,kr⟩
theorem aH7:yc prog 57:=⟨_,func57,kr,kr⟩
theorem jH:yc prog 59:=⟨_,func59,kr,kr⟩
theorem Z7:yc prog 60:=⟨_,func60,kr,kr⟩
theorem aVq:yc prog 61:=⟨_,func61,kr,kr⟩
theorem aVz:yc prog 62:=⟨_,func62,kr,kr⟩
theorem aVx:yc prog 63:=⟨_,func63,kr,kr⟩
theorem aVj:yc prog 64:=⟨_,func64,kr,kr⟩
theorem FY:yc prog 65:=⟨_,func65,kr,kr⟩
theorem oP:yc prog 66:=⟨_,func66,kr,kr⟩
theorem aH8:yc prog 67:=⟨_,func67,kr,kr⟩
theorem aH9:yc prog 68:=⟨_,func68,kr,kr⟩
theorem Rn:yc prog 69:=⟨_,func69,kr,kr⟩
theorem Ro:yc prog 70:=⟨_,func70,kr,kr⟩
theorem aW0:yc prog 71:=⟨_,func71,kr,kr⟩
theorem u7:yc prog 72:=⟨_,func72,kr,kr⟩
theorem aw9:yc prog 73:=⟨_,func73,kr,kr⟩
theorem aHq:yc prog 74:=⟨_,func74,kr,kr⟩
theorem aHz:yc prog 75:=⟨_,func75,kr,kr⟩
theorem aHx:yc prog 76:=⟨_,func76,kr,kr⟩
theorem aW1:yc prog 77:=⟨_,func77,kr,kr⟩
theorem awq:yc prog 78:=⟨_,func78,kr,kr⟩
theorem awz:yc prog 79:=⟨_,func79,kr,kr⟩
theorem aW2:yc prog 80:=⟨_,func80,kr,kr⟩
theorem aHj:yc prog 81:=⟨_,func81,kr,kr⟩
theorem aW3:yc prog 82:=⟨_,func82,kr,kr⟩
theorem aW4:yc prog 83:=⟨_,func83,kr,kr⟩
theorem aI0:yc prog 84:=⟨_,func84,kr,kr⟩
theorem aI1:yc prog 85:=⟨_,func85,kr,kr⟩
theorem FZ:yc prog 87:=⟨_,func87,kr,kr⟩
theorem yM:yc prog 89:=⟨_,func89,kr,kr⟩
theorem oQ:yc prog 90:=⟨_,func90,kr,kr⟩
theorem awx:yc prog 91:=⟨_,func91,kr,kr⟩
theorem vB:yc prog 92:=⟨_,func92,kr,kr⟩
theorem Z8:yc prog 93:=⟨_,func93,kr,kr⟩
theorem awj:yc prog 94:=⟨_,func94,kr,kr⟩
theorem ax0:yc prog 95:=⟨_,func95,kr,kr⟩
theorem ax1:yc prog 97:=⟨_,func97,kr,kr⟩
theorem aW5:yc prog 98:=⟨_,func98,kr,kr⟩
theorem an4:yc prog 102:=⟨_,func102,kr,kr⟩
theorem zR:yc prog 103:=⟨_,func103,kr,kr⟩
theorem qL:yc prog 104:=⟨_,func104,kr,kr⟩
theorem aI2:yc prog 107:=⟨_,func107,kr,kr⟩
theorem aI3:yc prog 110:=⟨_,func110,kr,kr⟩
theorem an5:yc prog 112:=⟨_,func112,kr,kr⟩
theorem vrx:yc prog 113:=⟨_,func113,kr,kr⟩
theorem qM:yc prog 114:=⟨_,func114,kr,kr⟩
theorem JJ:yc prog 115:=⟨_,func115,kr,kr⟩
theorem an6:yc prog 117:=⟨_,func117,kr,kr⟩
theorem an7:yc prog 118:=⟨_,func118,kr,kr⟩
theorem an8:yc prog 119:=⟨_,func119,kr,kr⟩
theorem aI4:yc prog 120:=⟨_,func120,kr,kr⟩
theorem aI5:yc prog 121:=⟨_,func121,kr,kr⟩
theorem aI6:yc prog 122:=⟨_,func122,kr,kr⟩
theorem aI7:yc prog 123:=⟨_,func123,kr,kr⟩
theorem aI8:yc prog 124:=⟨_,func124,kr,kr⟩
theorem aI9:yc prog 125:=⟨_,func125,kr,kr⟩
theorem aIq:yc prog 126:=⟨_,func126,kr,kr⟩
theorem Rp:yc prog 131:=⟨_,func131,kr,kr⟩
theorem vqv:yc prog 136:=⟨_,func136,kr,kr⟩
theorem P9:yc prog 137:=⟨_,func137,kr,kr⟩
theorem Zb:yc prog 138:=⟨_,func138,kr,kr⟩
theorem an9:yc prog 139:=⟨_,func139,kr,kr⟩
theorem Rq:yc prog 141:=⟨_,func141,kr,kr⟩
theorem anq:yc prog 145:=⟨_,func145,kr,kr⟩
theorem anz:yc prog 146:=⟨_,func146,kr,kr⟩
theorem aIz:yc prog 152:=⟨_,func152,kr,kr⟩
theorem aIx:yc prog 155:=⟨_,func155,kr,kr⟩
theorem JK:yc prog 156:=⟨_,func156,kr,kr⟩
theorem anj:yc prog 157:=⟨_,func157,kr,kr⟩
theorem aIj:yc prog 158:=⟨_,func158,kr,kr⟩
theorem aJ0:yc prog 160:=⟨_,func160,kr,kr⟩
theorem ao0:yc prog 166:=⟨_,func166,kr,kr⟩
theorem aJ1:yc prog 170:=⟨_,func170,kr,kr⟩
theorem vqk:yc prog 171:=⟨_,func171,kr,kr⟩
theorem Rs:yc prog 172:=⟨_,func172,kr,kr⟩
theorem Rt:yc prog 173:=⟨_,func173,kr,kr⟩
theorem aJ2:yc prog 174:=⟨_,func174,kr,kr⟩
theorem Ru:yc prog 180:=⟨_,func180,kr,kr⟩
theorem aJ3:yc prog 186:=⟨_,func186,kr,kr⟩
theorem aJ4:yc prog 187:=⟨_,func187,kr,kr⟩
theorem ao1:yc prog 192:=⟨_,func192,kr,kr⟩
theorem ao2:yc prog 196:=⟨_,func196,kr,kr⟩
theorem aJ5:yc prog 201:=⟨_,func201,kr,kr⟩
theorem aJ6:yc prog 202:=⟨_,func202,kr,kr⟩
theorem aJ7:yc prog 203:=⟨_,func203,kr,kr⟩
theorem aJ8:yc prog 204:=⟨_,func204,kr,kr⟩
theorem ao3:yc prog 212:=⟨_,func212,kr,kr⟩
theorem aJ9:yc prog 215:=⟨_,func215,kr,kr⟩
theorem aJq:yc prog 216:=⟨_,func216,kr,kr⟩
theorem aJz:yc prog 222:=⟨_,func222,kr,kr⟩
theorem aJx:yc prog 223:=⟨_,func223,kr,kr⟩
theorem Rv:yc prog 224:=⟨_,func224,kr,kr⟩
theorem aJj:yc prog 226:=⟨_,func226,kr,kr⟩
theorem ao4:yc prog 227:=⟨_,func227,kr,kr⟩
theorem aK0:yc prog 229:=⟨_,func229,kr,kr⟩
theorem JL:yc prog 241:=⟨_,func241,kr,kr⟩
theorem Rw:yc prog 247:=⟨_,func247,kr,kr⟩
theorem aK1:yc prog 249:=⟨_,func249,kr,kr⟩
theorem aK2:yc prog 252:=⟨_,func252,kr,kr⟩
theorem aK3:yc prog 253:=⟨_,func253,kr,kr⟩
theorem aK4:yc prog 254:=⟨_,func254,kr,kr⟩
theorem aK5:yc prog 255:=⟨_,func255,kr,kr⟩
theorem aK6:yc prog 257:=⟨_,func257,kr,kr⟩
theorem aK7:yc prog 258:=⟨_,func258,kr,kr⟩
theorem aK8:yc prog 259:=⟨_,func259,kr,kr⟩
theorem ao5:yc prog 269:=⟨_,func269,kr,kr⟩
theorem aK9:yc prog 270:=⟨_,func270,kr,kr⟩
theorem ao6:yc prog 271:=⟨_,func271,kr,kr⟩
theorem aKq:yc prog 272:=⟨_,func272,kr,kr⟩
theorem aKz:yc prog 277:=⟨_,func277,kr,kr⟩
theorem mixed:prog.follows .mixedOrders=true:=kr
end Go.Proofs.YtmnmebdmpigddaaGreatDoor
