/- Texts of this claim. -/
import Derived.Test.YtmnmebdmpigddaaGreatDoorL7
import Derived.Test.YtmnmebdmpigddaaGreatDoorProg
import Derived.KernelRfl
namespace Go.Proofs.YtmnmebdmpigddaaGreatDoor
open Proofs.Tryz
theorem u24:type_of% underlying24:=underlying24
theorem u28:type_of% underlying28:=underlying28
theorem u4:type_of% underlying4:=underlying4
theorem u5:type_of% underlying5:=underlying5
theorem u9:type_of% underlying9:=underlying9
theorem u22:type_of% underlying22:=underlying22
theorem u25:type_of% underlying25:=underlying25
theorem u46:type_of% underlying46:=underlying46
theorem ZU:type_of% underlying79:=underlying79
theorem Oo:type_of% underlying87:=underlying87
theorem oG:type_of% underlying111:=underlying111
theorem JM:type_of% underlying155:=underlying155
theorem D9:type_of% underlying265:=underlying265
theorem Eb:type_of% underlying282:=underlying282
theorem u83:type_of% underlying83:=underlying83
theorem fJ:type_of% underlying227:=underlying227
theorem kr {P:Prop} (h:P:=by kernel_rfl):P:=h
theorem G9:qr prog 3 1:=(by kernel_rfl:(prog.info? 3).map (·.size)=some 1)
theorem sz4:qr prog 4 1:=(by kernel_rfl:(prog.info? 4).map (·.size)=some 1)
theorem oH:qr prog 5 1:=(by kernel_rfl:(prog.info? 5).map (·.size)=some 1)
theorem zr5:ou prog 5 (.int .u8 0):=(by kernel_rfl:(prog.info? 5).map (·.zero)=some (some (.int .u8 0)))
theorem kz:qr prog 24 2:=(by kernel_rfl:(prog.info? 24).map (·.size)=some 2)
theorem JN:ou prog 24 (.agg #[.bool false,.slice none 0 0]):=(by kernel_rfl:(prog.info? 24).map (·.zero)=some (some (.agg #[.bool false,.slice none 0 0])))
theorem yA:qr prog 25 1:=(by kernel_rfl:(prog.info? 25).map (·.size)=some 1)
theorem aH8:ou prog 25 (.int .u64 0):=(by kernel_rfl:(prog.info? 25).map (·.zero)=some (some (.int .u64 0)))
theorem jf:qr prog 28 7:=(by kernel_rfl:(prog.info? 28).map (·.size)=some 7)
theorem yB:ou prog 28 (.agg #[.int .i64 0,.bool false,.bool false,.slice none 0 0,.int .u64 0,.string ⟨#[]⟩,.slice none 0 0]):=(by kernel_rfl:(prog.info? 28).map (·.zero)=some (some (.agg #[.int .i64 0,.bool false,.bool false,.slice none 0 0,.int .u64 0,.string ⟨#[]⟩,.slice none 0 0])))
theorem atz:qr prog 46 1:=(by kernel_rfl:(prog.info? 46).map (·.size)=some 1)
theorem atx:qr prog 48 2:=(by kernel_rfl:(prog.info? 48).map (·.size)=some 2)
theorem aH9:qr prog 79 1:=(by kernel_rfl:(prog.info? 79).map (·.size)=some 1)
theorem aHq:ou prog 81 (.agg #[.pointer none,.slice none 0 0]):=(by kernel_rfl:(prog.info? 81).map (·.zero)=some (some (.agg #[.pointer none,.slice none 0 0])))
theorem Oq:qr prog 111 1:=(by kernel_rfl:(prog.info? 111).map (·.size)=some 1)
theorem atj:ou prog 201 (.agg #[.int .u8 0,.int .u8 0,.int .u8 0,.int .u8 0,.int .u8 0,.int .u8 0,.int .u8 0,.int .u8 0,.int .u8 0,.int .u8 0,.int .u8 0,.int .u8 0,.int .u8 0,.int .u8 0,.int .u8 0,.int .u8 0,.int .u8 0,.int .u8 0,.int .u8 0,.int .u8 0,.int .u8 0,.int .u8 0,.int .u8 0,.int .u8 0]):=(by kernel_rfl:(prog.info? 201).map (·.zero)=some (some (.agg #[.int .u8 0,.int .u8 0,.int .u8 0,.int .u8 0,.int .u8 0,.int .u8 0,.int .u8 0,.int .u8 0,.int .u8 0,.int .u8 0,.int .u8 0,.int .u8 0,.int .u8 0,.int .u8 0,.int .u8 0,.int .u8 0,.int .u8 0,.int .u8 0,.int .u8 0,.int .u8 0,.int .u8 0,.int .u8 0,.int .u8 0,.int .u8 0])))
theorem au0:ou prog 257 (.agg #[.int .u64 0,.int .u64 0,.int .i64 0]):=(by kernel_rfl:(prog.info? 257).map (·.zero)=some (some (.agg #[.int .u64 0,.int .u64 0,.int .i64 0])))
theorem ZV:qr prog 276 2:=(by kernel_rfl:(prog.info? 276).map (·.size)=some 2)
theorem ZW:qr prog 281 2:=(by kernel_rfl:(prog.info? 281).map (·.size)=some 2)
theorem au1:tK prog 5 (.int .u8 0) 1 1:=(by kernel_rfl:(prog.info? 5).map (fun i=>(i.zero,i.size,i.bytes))=some (some (.int .u8 0),1,1))
theorem Ot:MW prog 24 [(0,1),(1,1)]:=⟨_,u24,kr⟩
theorem wS:MW prog 28 [(0,1),(1,1),(2,2),(4,1),(5,1),(6,1)]:=⟨_,u28,kr⟩
theorem au2:MW prog 48 [(0,1),(1,1)]:=⟨_,underlying48,kr⟩
theorem au3:MW prog 81 [(0,1),(1,1)]:=⟨_,underlying81,kr⟩
theorem ZX:MW prog 220 [(0,1),(1,1),(2,1)]:=⟨_,underlying220,kr⟩
theorem ZY:MW prog 229 [(0,800),(800,1),(801,1),(802,1),(803,1)]:=⟨_,underlying229,kr⟩
theorem Z0:MW prog 257 [(0,1),(1,1),(2,1)]:=⟨_,underlying257,kr⟩
theorem Z4:MW prog 276 [(0,1),(1,1)]:=⟨_,underlying276,kr⟩
theorem Z5:MW prog 281 [(0,1),(1,1)]:=⟨_,underlying281,kr⟩
theorem Ou:ym prog 6:=⟨_,func6,kr,kr⟩
theorem gT:ym prog 7:=⟨_,func7,kr,kr⟩
theorem en8:ym prog 8:=⟨_,func8,kr,kr⟩
theorem ahx:ym prog 11:=⟨_,func11,kr,kr⟩
theorem Ov:ym prog 12:=⟨_,func12,kr,kr⟩
theorem aHz:ym prog 13:=⟨_,func13,kr,kr⟩
theorem au4:ym prog 14:=⟨_,func14,kr,kr⟩
theorem aHx:ym prog 15:=⟨_,func15,kr,kr⟩
theorem aHj:ym prog 20:=⟨_,func20,kr,kr⟩
theorem au5:ym prog 21:=⟨_,func21,kr,kr⟩
theorem au6:ym prog 22:=⟨_,func22,kr,kr⟩
theorem aI0:ym prog 23:=⟨_,func23,kr,kr⟩
theorem au7:ym prog 24:=⟨_,func24,kr,kr⟩
theorem aI1:ym prog 25:=⟨_,func25,kr,kr⟩
theorem aI2:ym prog 26:=⟨_,func26,kr,kr⟩
theorem aI3:ym prog 27:=⟨_,func27,kr,kr⟩
theorem gH:ym prog 28:=⟨_,func28,kr,kr⟩
theorem um:ym prog 29:=⟨_,func29,kr,kr⟩
theorem au8:ym prog 30:=⟨_,func30,kr,kr⟩
theorem ahj:ym prog 31:=⟨_,func31,kr,kr⟩
theorem au9:ym prog 32:=⟨_,func32,kr,kr⟩
theorem jJ:ym prog 33:=⟨_,func33,kr,kr⟩
theorem ai0:ym prog 40:=⟨_,func40,kr,kr⟩
theorem VA:ym prog 41:=⟨_,func41,kr,kr⟩
theorem aI4:ym prog 42:=⟨_,func42,kr,kr⟩
theorem aI5:ym prog 43:=⟨_,func43,kr,kr⟩
theorem ai1:ym prog 45:=⟨_,func45,kr,kr⟩
theorem auq:ym prog 46:=⟨_,func46,kr,kr⟩
theorem aI6:ym prog 47:=⟨_,func47,kr,kr⟩
theorem auz:ym prog 48:=⟨_,func48,kr,kr⟩
theorem auj:ym prog 49:=⟨_,func49,kr,kr⟩
theorem aI7:ym prog 57:=⟨_,func57,kr,kr⟩
theorem jK:ym prog 59:=⟨_,func59,kr,kr⟩
theorem VB:ym prog 60:=⟨_,func60,kr,kr⟩
theorem aI8:ym prog 61:=⟨_,func61,kr,kr⟩
theorem aI9:ym prog 62:=⟨_,func62,kr,kr⟩
theorem aIq:ym prog 63:=⟨_,func63,kr,kr⟩
theorem aIz:ym prog 64:=⟨_,func64,kr,kr⟩
theorem aIx:ym prog 65:=⟨_,func65,kr,kr⟩
theorem yC:ym prog 66:=⟨_,func66,kr,kr⟩
theorem av0:ym prog 67:=⟨_,func67,kr,kr⟩
theorem aIj:ym prog 68:=⟨_,func68,kr,kr⟩
theorem aJ0:ym prog 69:=⟨_,func69,kr,kr⟩
theorem aJ1:ym prog 70:=⟨_,func70,kr,kr⟩
theorem aJ2:ym prog 71:=⟨_,func71,kr,kr⟩
theorem JO:ym prog 72:=⟨_,func72,kr,kr⟩
theorem VD:ym prog 87:=⟨_,func87,kr,kr⟩
theorem gY:ym prog 89:=⟨_,func89,kr,kr⟩
theorem Ow:ym prog 90:=⟨_,func90,kr,kr⟩
theorem av1:ym prog 91:=⟨_,func91,kr,kr⟩
theorem Oy:ym prog 92:=⟨_,func92,kr,kr⟩
theorem av2:ym prog 93:=⟨_,func93,kr,kr⟩
theorem ai2:ym prog 94:=⟨_,func94,kr,kr⟩
theorem ai3:ym prog 95:=⟨_,func95,kr,kr⟩
theorem aJ3:ym prog 98:=⟨_,func98,kr,kr⟩
theorem av3:ym prog 102:=⟨_,func102,kr,kr⟩
theorem av4:ym prog 103:=⟨_,func103,kr,kr⟩
theorem av5:ym prog 110:=⟨_,func110,kr,kr⟩
theorem Z6:ym prog 112:=⟨_,func112,kr,kr⟩
theorem Oz:ym prog 113:=⟨_,func113,kr,kr⟩
theorem p9:ym prog 114:=⟨_,func114,kr,kr⟩
theorem He:ym prog 115:=⟨_,func115,kr,kr⟩
theorem Z7:ym prog 117:=⟨_,func117,kr,kr⟩
theorem Z8:ym prog 118:=⟨_,func118,kr,kr⟩
theorem aa0:ym prog 119:=⟨_,func119,kr,kr⟩
theorem av6:ym prog 120:=⟨_,func120,kr,kr⟩
theorem av7:ym prog 121:=⟨_,func121,kr,kr⟩
theorem av8:ym prog 123:=⟨_,func123,kr,kr⟩
theorem aa1:ym prog 141:=⟨_,func141,kr,kr⟩
theorem aa2:ym prog 145:=⟨_,func145,kr,kr⟩
theorem aa3:ym prog 146:=⟨_,func146,kr,kr⟩
theorem av9:ym prog 152:=⟨_,func152,kr,kr⟩
theorem avq:ym prog 155:=⟨_,func155,kr,kr⟩
theorem avz:ym prog 160:=⟨_,func160,kr,kr⟩
theorem avj:ym prog 172:=⟨_,func172,kr,kr⟩
theorem OA:ym prog 173:=⟨_,func173,kr,kr⟩
theorem aw0:ym prog 174:=⟨_,func174,kr,kr⟩
theorem OB:ym prog 180:=⟨_,func180,kr,kr⟩
theorem aw1:ym prog 186:=⟨_,func186,kr,kr⟩
theorem aw2:ym prog 187:=⟨_,func187,kr,kr⟩
theorem aa4:ym prog 196:=⟨_,func196,kr,kr⟩
theorem aw3:ym prog 201:=⟨_,func201,kr,kr⟩
theorem aw4:ym prog 202:=⟨_,func202,kr,kr⟩
theorem aw5:ym prog 203:=⟨_,func203,kr,kr⟩
theorem aw6:ym prog 204:=⟨_,func204,kr,kr⟩
theorem aw7:ym prog 215:=⟨_,func215,kr,kr⟩
theorem aw8:ym prog 216:=⟨_,func216,kr,kr⟩
theorem aw9:ym prog 222:=⟨_,func222,kr,kr⟩
theorem awq:ym prog 223:=⟨_,func223,kr,kr⟩
theorem OC:ym prog 224:=⟨_,func224,kr,kr⟩
theorem awz:ym prog 226:=⟨_,func226,kr,kr⟩
theorem aa5:ym prog 227:=⟨_,func227,kr,kr⟩
theorem awx:ym prog 229:=⟨_,func229,kr,kr⟩
theorem Hf:ym prog 241:=⟨_,func241,kr,kr⟩
theorem awj:ym prog 249:=⟨_,func249,kr,kr⟩
theorem ax0:ym prog 252:=⟨_,func252,kr,kr⟩
theorem ax1:ym prog 253:=⟨_,func253,kr,kr⟩
theorem ax2:ym prog 254:=⟨_,func254,kr,kr⟩
theorem ax3:ym prog 255:=⟨_,func255,kr,kr⟩
theorem ax4:ym prog 257:=⟨_,func257,kr,kr⟩
theorem ax5:ym prog 258:=⟨_,func258,kr,kr⟩
theorem ax6:ym prog 259:=⟨_,func259,kr,kr⟩
theorem aa6:ym prog 269:=⟨_,func269,kr,kr⟩
theorem ax7:ym prog 270:=⟨_,func270,kr,kr⟩
theorem aa7:ym prog 271:=⟨_,func271,kr,kr⟩
theorem ax8:ym prog 272:=⟨_,func272,kr,kr⟩
theorem ax9:ym prog 277:=⟨_,func277,kr,kr⟩
theorem mixed:prog.follows .mixedOrders=true:=kr
instance :type_of% (nR.mk underlying3):=⟨underlying3⟩
instance :type_of% (nR.mk u4):=⟨u4⟩
instance :type_of% (nR.mk u5):=⟨u5⟩
instance :type_of% (nR.mk u9):=⟨u9⟩
instance :type_of% (nR.mk u22):=⟨u22⟩
instance :type_of% (nR.mk u24):=⟨u24⟩
instance :type_of% (nR.mk u25):=⟨u25⟩
instance :type_of% (nR.mk underlying26):=⟨underlying26⟩
instance :type_of% (nR.mk u28):=⟨u28⟩
instance :type_of% (nR.mk u46):=⟨u46⟩
instance :type_of% (nR.mk underlying48):=⟨underlying48⟩
instance :type_of% (nR.mk ZU):=⟨ZU⟩
instance :type_of% (nR.mk Oo):=⟨Oo⟩
instance :type_of% (nR.mk oG):=⟨oG⟩
instance :type_of% (nR.mk JM):=⟨JM⟩
instance :type_of% (nR.mk D9):=⟨D9⟩
instance :type_of% (nR.mk Eb):=⟨Eb⟩
instance :type_of% (Szc.mk kz):=⟨kz⟩
instance :type_of% (Szc.mk jf):=⟨jf⟩
instance :type_of% (Szc.mk atx):=⟨atx⟩
instance :type_of% (UZ.mk Ot):=⟨Ot⟩
instance :type_of% (UZ.mk wS):=⟨wS⟩
instance :type_of% (UZ.mk au2):=⟨au2⟩
instance :type_of% (UZ.mk au3):=⟨au3⟩
instance :type_of% (UZ.mk ZX):=⟨ZX⟩
instance :type_of% (UZ.mk ZY):=⟨ZY⟩
instance :type_of% (UZ.mk Z0):=⟨Z0⟩
instance :type_of% (UZ.mk Z4):=⟨Z4⟩
instance :type_of% (UZ.mk Z5):=⟨Z5⟩
end Go.Proofs.YtmnmebdmpigddaaGreatDoor
