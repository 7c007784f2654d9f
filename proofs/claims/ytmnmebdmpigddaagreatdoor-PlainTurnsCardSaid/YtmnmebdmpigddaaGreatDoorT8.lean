/- Texts of this claim. -/
import Derived.Test.YtmnmebdmpigddaaGreatDoorT7
import Derived.Test.YtmnmebdmpigddaaGreatDoorProg
import Derived.KernelRfl
namespace Go.Proofs.YtmnmebdmpigddaaGreatDoor
open Proofs.Tryz
theorem u24:type_of% underlying24:=underlying24
theorem u28:type_of% underlying28:=underlying28
theorem u48:type_of% underlying48:=underlying48
theorem u4:type_of% underlying4:=underlying4
theorem u5:type_of% underlying5:=underlying5
theorem u9:type_of% underlying9:=underlying9
theorem u22:type_of% underlying22:=underlying22
theorem u25:type_of% underlying25:=underlying25
theorem u46:type_of% underlying46:=underlying46
theorem u79:type_of% underlying79:=underlying79
theorem Rh:type_of% underlying87:=underlying87
theorem pW:type_of% underlying111:=underlying111
theorem Mh:type_of% underlying155:=underlying155
theorem FQ:type_of% underlying265:=underlying265
theorem FR:type_of% underlying282:=underlying282
theorem u83:type_of% underlying83:=underlying83
theorem gF:type_of% underlying227:=underlying227
theorem kr {P:Prop} (h:P:=by kernel_rfl):P:=h
theorem J6:qu prog 3 1:=(by kernel_rfl:(prog.info? 3).map (·.size)=some 1)
theorem Ri:qu prog 4 1:=(by kernel_rfl:(prog.info? 4).map (·.size)=some 1)
theorem iL:qu prog 5 1:=(by kernel_rfl:(prog.info? 5).map (·.size)=some 1)
theorem zr5:oq prog 5 (.int .u8 0):=(by kernel_rfl:(prog.info? 5).map (·.zero)=some (some (.int .u8 0)))
theorem kw:qu prog 24 2:=(by kernel_rfl:(prog.info? 24).map (·.size)=some 2)
theorem zC:oq prog 24 (.agg #[.bool false,.slice none 0 0]):=(by kernel_rfl:(prog.info? 24).map (·.zero)=some (some (.agg #[.bool false,.slice none 0 0])))
theorem zD:qu prog 25 1:=(by kernel_rfl:(prog.info? 25).map (·.size)=some 1)
theorem aLj:oq prog 25 (.int .u64 0):=(by kernel_rfl:(prog.info? 25).map (·.zero)=some (some (.int .u64 0)))
theorem ku:qu prog 28 7:=(by kernel_rfl:(prog.info? 28).map (·.size)=some 7)
theorem EU:oq prog 28 (.agg #[.int .i64 0,.bool false,.bool false,.slice none 0 0,.int .u64 0,.string ⟨#[]⟩,.slice none 0 0]):=(by kernel_rfl:(prog.info? 28).map (·.zero)=some (some (.agg #[.int .i64 0,.bool false,.bool false,.slice none 0 0,.int .u64 0,.string ⟨#[]⟩,.slice none 0 0])))
theorem az8:qu prog 46 1:=(by kernel_rfl:(prog.info? 46).map (·.size)=some 1)
theorem pX:qu prog 48 2:=(by kernel_rfl:(prog.info? 48).map (·.size)=some 2)
theorem FT:oq prog 48 (.agg #[.bool false,.slice none 0 0]):=(by kernel_rfl:(prog.info? 48).map (·.zero)=some (some (.agg #[.bool false,.slice none 0 0])))
theorem aM0:qu prog 79 1:=(by kernel_rfl:(prog.info? 79).map (·.size)=some 1)
theorem aM1:oq prog 81 (.agg #[.pointer none,.slice none 0 0]):=(by kernel_rfl:(prog.info? 81).map (·.zero)=some (some (.agg #[.pointer none,.slice none 0 0])))
theorem Rj:qu prog 111 1:=(by kernel_rfl:(prog.info? 111).map (·.size)=some 1)
theorem az9:oq prog 201 (.agg #[.int .u8 0,.int .u8 0,.int .u8 0,.int .u8 0,.int .u8 0,.int .u8 0,.int .u8 0,.int .u8 0,.int .u8 0,.int .u8 0,.int .u8 0,.int .u8 0,.int .u8 0,.int .u8 0,.int .u8 0,.int .u8 0,.int .u8 0,.int .u8 0,.int .u8 0,.int .u8 0,.int .u8 0,.int .u8 0,.int .u8 0,.int .u8 0]):=(by kernel_rfl:(prog.info? 201).map (·.zero)=some (some (.agg #[.int .u8 0,.int .u8 0,.int .u8 0,.int .u8 0,.int .u8 0,.int .u8 0,.int .u8 0,.int .u8 0,.int .u8 0,.int .u8 0,.int .u8 0,.int .u8 0,.int .u8 0,.int .u8 0,.int .u8 0,.int .u8 0,.int .u8 0,.int .u8 0,.int .u8 0,.int .u8 0,.int .u8 0,.int .u8 0,.int .u8 0,.int .u8 0])))
theorem azq:oq prog 257 (.agg #[.int .u64 0,.int .u64 0,.int .i64 0]):=(by kernel_rfl:(prog.info? 257).map (·.zero)=some (some (.agg #[.int .u64 0,.int .u64 0,.int .i64 0])))
theorem ah5:qu prog 276 2:=(by kernel_rfl:(prog.info? 276).map (·.size)=some 2)
theorem ah6:qu prog 281 2:=(by kernel_rfl:(prog.info? 281).map (·.size)=some 2)
theorem Rk:jJ prog 5 (.int .u8 0) 1 1:=(by kernel_rfl:(prog.info? 5).map (fun i=>(i.zero,i.size,i.bytes))=some (some (.int .u8 0),1,1))
theorem zF:P9 prog 24 [(0,1),(1,1)]:=⟨_,u24,kr⟩
theorem azz:jJ prog 25 (.int .u64 0) 1 8:=(by kernel_rfl:(prog.info? 25).map (fun i=>(i.zero,i.size,i.bytes))=some (some (.int .u64 0),1,8))
theorem EX:P9 prog 28 [(0,1),(1,1),(2,2),(4,1),(5,1),(6,1)]:=⟨_,u28,kr⟩
theorem zG:P9 prog 48 [(0,1),(1,1)]:=⟨_,u48,kr⟩
theorem azx:P9 prog 81 [(0,1),(1,1)]:=⟨_,underlying81,kr⟩
theorem ah7:P9 prog 220 [(0,1),(1,1),(2,1)]:=⟨_,underlying220,kr⟩
theorem ah8:P9 prog 229 [(0,800),(800,1),(801,1),(802,1),(803,1)]:=⟨_,underlying229,kr⟩
theorem ah9:P9 prog 257 [(0,1),(1,1),(2,1)]:=⟨_,underlying257,kr⟩
theorem ahq:P9 prog 276 [(0,1),(1,1)]:=⟨_,underlying276,kr⟩
theorem ahz:P9 prog 281 [(0,1),(1,1)]:=⟨_,underlying281,kr⟩
theorem en6:yg prog 6:=⟨_,func6,kr,kr⟩
theorem en7:yg prog 7:=⟨_,func7,kr,kr⟩
theorem en9:yg prog 9:=⟨_,func9,kr,kr⟩
theorem azj:yg prog 12:=⟨_,func12,kr,kr⟩
theorem aA0:yg prog 13:=⟨_,func13,kr,kr⟩
theorem aA1:yg prog 14:=⟨_,func14,kr,kr⟩
theorem aq8:yg prog 15:=⟨_,func15,kr,kr⟩
theorem aA2:yg prog 16:=⟨_,func16,kr,kr⟩
theorem aM2:yg prog 17:=⟨_,func17,kr,kr⟩
theorem aM3:yg prog 18:=⟨_,func18,kr,kr⟩
theorem aM4:yg prog 19:=⟨_,func19,kr,kr⟩
theorem aM5:yg prog 20:=⟨_,func20,kr,kr⟩
theorem Mi:yg prog 21:=⟨_,func21,kr,kr⟩
theorem FU:yg prog 22:=⟨_,func22,kr,kr⟩
theorem aM6:yg prog 23:=⟨_,func23,kr,kr⟩
theorem aA3:yg prog 24:=⟨_,func24,kr,kr⟩
theorem aM7:yg prog 25:=⟨_,func25,kr,kr⟩
theorem aM8:yg prog 26:=⟨_,func26,kr,kr⟩
theorem Rl:yg prog 27:=⟨_,func27,kr,kr⟩
theorem uZ:yg prog 28:=⟨_,func28,kr,kr⟩
theorem jW:yg prog 29:=⟨_,func29,kr,kr⟩
theorem aM9:yg prog 30:=⟨_,func30,kr,kr⟩
theorem Mj:yg prog 33:=⟨_,func33,kr,kr⟩
theorem YM:yg prog 36:=⟨_,func36,kr,kr⟩
theorem YN:yg prog 39:=⟨_,func39,kr,kr⟩
theorem aA4:yg prog 40:=⟨_,func40,kr,kr⟩
theorem aq9:yg prog 41:=⟨_,func41,kr,kr⟩
theorem aqz:yg prog 42:=⟨_,func42,kr,kr⟩
theorem aA5:yg prog 43:=⟨_,func43,kr,kr⟩
theorem aMq:yg prog 44:=⟨_,func44,kr,kr⟩
theorem YO:yg prog 45:=⟨_,func45,kr,kr⟩
theorem aA6:yg prog 46:=⟨_,func46,kr,kr⟩
theorem aqx:yg prog 47:=⟨_,func47,kr,kr⟩
theorem aqj:yg prog 48:=⟨_,func48,kr,kr⟩
theorem aMz:yg prog 49:=⟨_,func49,kr,kr⟩
theorem aMx:yg prog 50:=⟨_,func50,kr,kr⟩
theorem aMj:yg prog 51:=⟨_,func51,kr,kr⟩
theorem aN0:yg prog 52:=⟨_,func52,kr,kr⟩
theorem aN1:yg prog 53:=⟨_,func53,kr,kr⟩
theorem aN2:yg prog 54:=⟨_,func54,kr,kr⟩
theorem aN3:yg prog 55:=⟨_,func55,kr,kr⟩
theorem aN4:yg prog 56:=⟨_,func56,kr,kr⟩
theorem ar0:yg prog 57:=⟨_,func57,kr,kr⟩
theorem jX:yg prog 59:=⟨_,func59,kr,kr⟩
theorem YP:yg prog 60:=⟨_,func60,kr,kr⟩
theorem aN5:yg prog 61:=⟨_,func61,kr,kr⟩
theorem aN6:yg prog 62:=⟨_,func62,kr,kr⟩
theorem aN7:yg prog 63:=⟨_,func63,kr,kr⟩
theorem aN8:yg prog 64:=⟨_,func64,kr,kr⟩
theorem ar1:yg prog 65:=⟨_,func65,kr,kr⟩
theorem zH:yg prog 66:=⟨_,func66,kr,kr⟩
theorem aN9:yg prog 67:=⟨_,func67,kr,kr⟩
theorem Mk:yg prog 72:=⟨_,func72,kr,kr⟩
theorem aNq:yg prog 74:=⟨_,func74,kr,kr⟩
theorem aA7:yg prog 85:=⟨_,func85,kr,kr⟩
theorem Rm:yg prog 87:=⟨_,func87,kr,kr⟩
theorem ig:yg prog 89:=⟨_,func89,kr,kr⟩
theorem Rn:yg prog 90:=⟨_,func90,kr,kr⟩
theorem aA8:yg prog 91:=⟨_,func91,kr,kr⟩
theorem Ro:yg prog 92:=⟨_,func92,kr,kr⟩
theorem aA9:yg prog 93:=⟨_,func93,kr,kr⟩
theorem aAq:yg prog 94:=⟨_,func94,kr,kr⟩
theorem aNz:yg prog 95:=⟨_,func95,kr,kr⟩
theorem aNx:yg prog 96:=⟨_,func96,kr,kr⟩
theorem aAz:yg prog 97:=⟨_,func97,kr,kr⟩
theorem aNj:yg prog 98:=⟨_,func98,kr,kr⟩
theorem aO0:yg prog 99:=⟨_,func99,kr,kr⟩
theorem aAx:yg prog 100:=⟨_,func100,kr,kr⟩
theorem aAj:yg prog 101:=⟨_,func101,kr,kr⟩
theorem Rp:yg prog 102:=⟨_,func102,kr,kr⟩
theorem ahx:yg prog 103:=⟨_,func103,kr,kr⟩
theorem ahj:yg prog 104:=⟨_,func104,kr,kr⟩
theorem aB0:yg prog 105:=⟨_,func105,kr,kr⟩
theorem ai0:yg prog 106:=⟨_,func106,kr,kr⟩
theorem aB1:yg prog 107:=⟨_,func107,kr,kr⟩
theorem aB2:yg prog 108:=⟨_,func108,kr,kr⟩
theorem aB3:yg prog 110:=⟨_,func110,kr,kr⟩
theorem ai1:yg prog 112:=⟨_,func112,kr,kr⟩
theorem Rq:yg prog 113:=⟨_,func113,kr,kr⟩
theorem rz:yg prog 114:=⟨_,func114,kr,kr⟩
theorem J7:yg prog 115:=⟨_,func115,kr,kr⟩
theorem ai2:yg prog 117:=⟨_,func117,kr,kr⟩
theorem ai3:yg prog 118:=⟨_,func118,kr,kr⟩
theorem aB4:yg prog 119:=⟨_,func119,kr,kr⟩
theorem ai4:yg prog 128:=⟨_,func128,kr,kr⟩
theorem ai5:yg prog 141:=⟨_,func141,kr,kr⟩
theorem ai6:yg prog 145:=⟨_,func145,kr,kr⟩
theorem ai7:yg prog 146:=⟨_,func146,kr,kr⟩
theorem aB5:yg prog 152:=⟨_,func152,kr,kr⟩
theorem aB6:yg prog 153:=⟨_,func153,kr,kr⟩
theorem Rs:yg prog 154:=⟨_,func154,kr,kr⟩
theorem aB7:yg prog 155:=⟨_,func155,kr,kr⟩
theorem ai8:yg prog 156:=⟨_,func156,kr,kr⟩
theorem aB8:yg prog 157:=⟨_,func157,kr,kr⟩
theorem aB9:yg prog 158:=⟨_,func158,kr,kr⟩
theorem Rt:yg prog 159:=⟨_,func159,kr,kr⟩
theorem aBq:yg prog 160:=⟨_,func160,kr,kr⟩
theorem ai9:yg prog 168:=⟨_,func168,kr,kr⟩
theorem aBz:yg prog 172:=⟨_,func172,kr,kr⟩
theorem Ru:yg prog 173:=⟨_,func173,kr,kr⟩
theorem aBx:yg prog 174:=⟨_,func174,kr,kr⟩
theorem Rv:yg prog 180:=⟨_,func180,kr,kr⟩
theorem aBj:yg prog 186:=⟨_,func186,kr,kr⟩
theorem aC0:yg prog 187:=⟨_,func187,kr,kr⟩
theorem aiq:yg prog 196:=⟨_,func196,kr,kr⟩
theorem aC1:yg prog 201:=⟨_,func201,kr,kr⟩
theorem aC2:yg prog 202:=⟨_,func202,kr,kr⟩
theorem aC3:yg prog 203:=⟨_,func203,kr,kr⟩
theorem aC4:yg prog 204:=⟨_,func204,kr,kr⟩
theorem aC5:yg prog 215:=⟨_,func215,kr,kr⟩
theorem aC6:yg prog 216:=⟨_,func216,kr,kr⟩
theorem aC7:yg prog 222:=⟨_,func222,kr,kr⟩
theorem aC8:yg prog 223:=⟨_,func223,kr,kr⟩
theorem Rw:yg prog 224:=⟨_,func224,kr,kr⟩
theorem aC9:yg prog 226:=⟨_,func226,kr,kr⟩
theorem aiz:yg prog 227:=⟨_,func227,kr,kr⟩
theorem aCq:yg prog 229:=⟨_,func229,kr,kr⟩
theorem J8:yg prog 241:=⟨_,func241,kr,kr⟩
theorem aCz:yg prog 249:=⟨_,func249,kr,kr⟩
theorem aCx:yg prog 252:=⟨_,func252,kr,kr⟩
theorem aCj:yg prog 253:=⟨_,func253,kr,kr⟩
theorem aD0:yg prog 254:=⟨_,func254,kr,kr⟩
theorem aD1:yg prog 255:=⟨_,func255,kr,kr⟩
theorem aD2:yg prog 257:=⟨_,func257,kr,kr⟩
theorem aD3:yg prog 258:=⟨_,func258,kr,kr⟩
theorem aD4:yg prog 259:=⟨_,func259,kr,kr⟩
theorem aix:yg prog 269:=⟨_,func269,kr,kr⟩
theorem aD5:yg prog 270:=⟨_,func270,kr,kr⟩
theorem aij:yg prog 271:=⟨_,func271,kr,kr⟩
theorem aD6:yg prog 272:=⟨_,func272,kr,kr⟩
theorem aD7:yg prog 277:=⟨_,func277,kr,kr⟩
theorem mixed:prog.follows .mixedOrders=true:=kr
instance :type_of% (oW.mk underlying3):=⟨underlying3⟩
instance :type_of% (oW.mk u4):=⟨u4⟩
instance :type_of% (oW.mk u5):=⟨u5⟩
instance :type_of% (oW.mk u9):=⟨u9⟩
instance :type_of% (oW.mk u22):=⟨u22⟩
instance :type_of% (oW.mk u24):=⟨u24⟩
instance :type_of% (oW.mk u25):=⟨u25⟩
instance :type_of% (oW.mk underlying26):=⟨underlying26⟩
instance :type_of% (oW.mk u28):=⟨u28⟩
instance :type_of% (oW.mk u46):=⟨u46⟩
instance :type_of% (oW.mk u48):=⟨u48⟩
instance :type_of% (oW.mk u79):=⟨u79⟩
instance :type_of% (oW.mk Rh):=⟨Rh⟩
instance :type_of% (oW.mk pW):=⟨pW⟩
instance :type_of% (oW.mk Mh):=⟨Mh⟩
instance :type_of% (oW.mk FQ):=⟨FQ⟩
instance :type_of% (oW.mk FR):=⟨FR⟩
instance :type_of% (Szc.mk kw):=⟨kw⟩
instance :type_of% (Szc.mk ku):=⟨ku⟩
instance :type_of% (Szc.mk pX):=⟨pX⟩
instance :type_of% (XW.mk zF):=⟨zF⟩
instance :type_of% (XW.mk EX):=⟨EX⟩
instance :type_of% (XW.mk zG):=⟨zG⟩
instance :type_of% (XW.mk azx):=⟨azx⟩
instance :type_of% (XW.mk ah7):=⟨ah7⟩
instance :type_of% (XW.mk ah8):=⟨ah8⟩
instance :type_of% (XW.mk ah9):=⟨ah9⟩
instance :type_of% (XW.mk ahq):=⟨ahq⟩
instance :type_of% (XW.mk ahz):=⟨ahz⟩
end Go.Proofs.YtmnmebdmpigddaaGreatDoor
