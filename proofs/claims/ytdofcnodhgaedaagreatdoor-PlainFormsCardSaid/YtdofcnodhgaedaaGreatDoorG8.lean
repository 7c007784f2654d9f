/- Texts of this claim. -/
import Derived.Test.YtdofcnodhgaedaaGreatDoorG7
import Derived.Test.YtdofcnodhgaedaaGreatDoorProg
import Derived.KernelRfl
namespace Go.Proofs.YtdofcnodhgaedaaGreatDoor
open Proofs.Tryz
theorem u24:type_of% underlying24:=underlying24
theorem u28:type_of% underlying28:=underlying28
theorem u48:type_of% underlying48:=underlying48
theorem u9:type_of% underlying9:=underlying9
theorem u22:type_of% underlying22:=underlying22
theorem u25:type_of% underlying25:=underlying25
theorem u46:type_of% underlying46:=underlying46
theorem u53:type_of% underlying53:=underlying53
theorem u59:type_of% underlying59:=underlying59
theorem UJ:type_of% underlying83:=underlying83
theorem XA:type_of% underlying178:=underlying178
theorem kr {P:Prop} (h:P:=by kernel_rfl):P:=h
theorem sz3:yv prog 3 1:=(by kernel_rfl:(prog.info? 3).map (·.size)=some 1)
theorem dw:yv prog 5 1:=(by kernel_rfl:(prog.info? 5).map (·.size)=some 1)
theorem mI:kj prog 5 (.int .u8 0):=(by kernel_rfl:(prog.info? 5).map (·.zero)=some (some (.int .u8 0)))
theorem xn:yv prog 24 2:=(by kernel_rfl:(prog.info? 24).map (·.size)=some 2)
theorem qM:kj prog 24 (.agg #[.bool false,.slice none 0 0]):=(by kernel_rfl:(prog.info? 24).map (·.zero)=some (some (.agg #[.bool false,.slice none 0 0])))
theorem uy:yv prog 25 1:=(by kernel_rfl:(prog.info? 25).map (·.size)=some 1)
theorem tL:yv prog 28 7:=(by kernel_rfl:(prog.info? 28).map (·.size)=some 7)
theorem BH:kj prog 28 (.agg #[.int .i64 0,.bool false,.bool false,.slice none 0 0,.int .u64 0,.string ⟨#[]⟩,.slice none 0 0]):=(by kernel_rfl:(prog.info? 28).map (·.zero)=some (some (.agg #[.int .i64 0,.bool false,.bool false,.slice none 0 0,.int .u64 0,.string ⟨#[]⟩,.slice none 0 0])))
theorem ab6:yv prog 46 1:=(by kernel_rfl:(prog.info? 46).map (·.size)=some 1)
theorem uD:yv prog 48 2:=(by kernel_rfl:(prog.info? 48).map (·.size)=some 2)
theorem XB:kj prog 48 (.agg #[.bool false,.slice none 0 0]):=(by kernel_rfl:(prog.info? 48).map (·.zero)=some (some (.agg #[.bool false,.slice none 0 0])))
theorem ao5:yv prog 59 1:=(by kernel_rfl:(prog.info? 59).map (·.size)=some 1)
theorem ao6:kj prog 61 (.agg #[.pointer none,.slice none 0 0]):=(by kernel_rfl:(prog.info? 61).map (·.zero)=some (some (.agg #[.pointer none,.slice none 0 0])))
theorem ab7:kj prog 142 (.agg #[.int .u8 0,.int .u8 0,.int .u8 0,.int .u8 0,.int .u8 0,.int .u8 0,.int .u8 0,.int .u8 0,.int .u8 0,.int .u8 0,.int .u8 0,.int .u8 0,.int .u8 0,.int .u8 0,.int .u8 0,.int .u8 0,.int .u8 0,.int .u8 0,.int .u8 0,.int .u8 0,.int .u8 0,.int .u8 0,.int .u8 0,.int .u8 0]):=(by kernel_rfl:(prog.info? 142).map (·.zero)=some (some (.agg #[.int .u8 0,.int .u8 0,.int .u8 0,.int .u8 0,.int .u8 0,.int .u8 0,.int .u8 0,.int .u8 0,.int .u8 0,.int .u8 0,.int .u8 0,.int .u8 0,.int .u8 0,.int .u8 0,.int .u8 0,.int .u8 0,.int .u8 0,.int .u8 0,.int .u8 0,.int .u8 0,.int .u8 0,.int .u8 0,.int .u8 0,.int .u8 0])))
theorem UK:kj prog 178 (.agg #[.int .u8 0,.int .u8 0,.int .u8 0,.int .u8 0,.int .u8 0,.int .u8 0,.int .u8 0,.int .u8 0,.int .u8 0,.int .u8 0,.int .u8 0,.int .u8 0,.int .u8 0,.int .u8 0,.int .u8 0,.int .u8 0,.int .u8 0,.int .u8 0,.int .u8 0,.int .u8 0,.int .u8 0,.int .u8 0,.int .u8 0,.int .u8 0,.int .u8 0,.int .u8 0,.int .u8 0,.int .u8 0,.int .u8 0,.int .u8 0,.int .u8 0,.int .u8 0]):=(by kernel_rfl:(prog.info? 178).map (·.zero)=some (some (.agg #[.int .u8 0,.int .u8 0,.int .u8 0,.int .u8 0,.int .u8 0,.int .u8 0,.int .u8 0,.int .u8 0,.int .u8 0,.int .u8 0,.int .u8 0,.int .u8 0,.int .u8 0,.int .u8 0,.int .u8 0,.int .u8 0,.int .u8 0,.int .u8 0,.int .u8 0,.int .u8 0,.int .u8 0,.int .u8 0,.int .u8 0,.int .u8 0,.int .u8 0,.int .u8 0,.int .u8 0,.int .u8 0,.int .u8 0,.int .u8 0,.int .u8 0,.int .u8 0])))
theorem ab8:kj prog 198 (.agg #[.int .u64 0,.int .u64 0,.int .i64 0]):=(by kernel_rfl:(prog.info? 198).map (·.zero)=some (some (.agg #[.int .u64 0,.int .u64 0,.int .i64 0])))
theorem UL:yv prog 217 2:=(by kernel_rfl:(prog.info? 217).map (·.size)=some 2)
theorem iV:iK prog 5 (.int .u8 0) 1 1:=(by kernel_rfl:(prog.info? 5).map (fun i=>(i.zero,i.size,i.bytes))=some (some (.int .u8 0),1,1))
theorem XD:JQ prog 24 [(0,1),(1,1)]:=⟨_,u24,kr⟩
theorem uE:JQ prog 28 [(0,1),(1,1),(2,2),(4,1),(5,1),(6,1)]:=⟨_,u28,kr⟩
theorem ab9:JQ prog 48 [(0,1),(1,1)]:=⟨_,u48,kr⟩
theorem abq:JQ prog 61 [(0,1),(1,1)]:=⟨_,underlying61,kr⟩
theorem UM:JQ prog 186 [(0,800),(800,1),(801,1),(802,1),(803,1)]:=⟨_,underlying186,kr⟩
theorem UN:JQ prog 198 [(0,1),(1,1),(2,1)]:=⟨_,underlying198,kr⟩
theorem UO:JQ prog 217 [(0,1),(1,1)]:=⟨_,underlying217,kr⟩
theorem UQ:JQ prog 222 [(0,1),(1,1)]:=⟨_,underlying222,kr⟩
theorem UR:JQ prog 237 [(0,1),(1,1),(2,1)]:=⟨_,underlying237,kr⟩
theorem en5:zz prog 5:=⟨_,func5,kr,kr⟩
theorem fC:zz prog 6:=⟨_,func6,kr,kr⟩
theorem en7:zz prog 7:=⟨_,func7,kr,kr⟩
theorem en8:zz prog 8:=⟨_,func8,kr,kr⟩
theorem en9:zz prog 9:=⟨_,func9,kr,kr⟩
theorem Qo:zz prog 10:=⟨_,func10,kr,kr⟩
theorem XE:zz prog 11:=⟨_,func11,kr,kr⟩
theorem ao7:zz prog 12:=⟨_,func12,kr,kr⟩
theorem ao8:zz prog 13:=⟨_,func13,kr,kr⟩
theorem abz:zz prog 14:=⟨_,func14,kr,kr⟩
theorem ao9:zz prog 15:=⟨_,func15,kr,kr⟩
theorem aoq:zz prog 17:=⟨_,func17,kr,kr⟩
theorem aoz:zz prog 20:=⟨_,func20,kr,kr⟩
theorem aox:zz prog 21:=⟨_,func21,kr,kr⟩
theorem aoj:zz prog 24:=⟨_,func24,kr,kr⟩
theorem abx:zz prog 25:=⟨_,func25,kr,kr⟩
theorem Qp:zz prog 26:=⟨_,func26,kr,kr⟩
theorem abj:zz prog 27:=⟨_,func27,kr,kr⟩
theorem ap0:zz prog 28:=⟨_,func28,kr,kr⟩
theorem uG:zz prog 29:=⟨_,func29,kr,kr⟩
theorem XF:zz prog 30:=⟨_,func30,kr,kr⟩
theorem ap1:zz prog 31:=⟨_,func31,kr,kr⟩
theorem ap2:zz prog 32:=⟨_,func32,kr,kr⟩
theorem Gv:zz prog 33:=⟨_,func33,kr,kr⟩
theorem ap3:zz prog 34:=⟨_,func34,kr,kr⟩
theorem ap4:zz prog 35:=⟨_,func35,kr,kr⟩
theorem iW:zz prog 36:=⟨_,func36,kr,kr⟩
theorem Qq:zz prog 37:=⟨_,func37,kr,kr⟩
theorem ap5:zz prog 38:=⟨_,func38,kr,kr⟩
theorem ap6:zz prog 39:=⟨_,func39,kr,kr⟩
theorem ap7:zz prog 40:=⟨_,func40,kr,kr⟩
theorem ap8:zz prog 41:=⟨_,func41,kr,kr⟩
theorem ac0:zz prog 42:=⟨_,func42,kr,kr⟩
theorem ap9:zz prog 43:=⟨_,func43,kr,kr⟩
theorem apq:zz prog 44:=⟨_,func44,kr,kr⟩
theorem Qr:zz prog 45:=⟨_,func45,kr,kr⟩
theorem apz:zz prog 46:=⟨_,func46,kr,kr⟩
theorem BI:zz prog 47:=⟨_,func47,kr,kr⟩
theorem apx:zz prog 48:=⟨_,func48,kr,kr⟩
theorem apj:zz prog 54:=⟨_,func54,kr,kr⟩
theorem aq0:zz prog 55:=⟨_,func55,kr,kr⟩
theorem aq1:zz prog 57:=⟨_,func57,kr,kr⟩
theorem aq2:zz prog 58:=⟨_,func58,kr,kr⟩
theorem uH:zz prog 59:=⟨_,func59,kr,kr⟩
theorem fD:zz prog 61:=⟨_,func61,kr,kr⟩
theorem Kz:zz prog 62:=⟨_,func62,kr,kr⟩
theorem KA:zz prog 63:=⟨_,func63,kr,kr⟩
theorem KC:zz prog 64:=⟨_,func64,kr,kr⟩
theorem Gw:zz prog 65:=⟨_,func65,kr,kr⟩
theorem Qs:zz prog 66:=⟨_,func66,kr,kr⟩
theorem qN:zz prog 68:=⟨_,func68,kr,kr⟩
theorem aq3:zz prog 69:=⟨_,func69,kr,kr⟩
theorem XG:zz prog 70:=⟨_,func70,kr,kr⟩
theorem aq4:zz prog 71:=⟨_,func71,kr,kr⟩
theorem ac1:zz prog 72:=⟨_,func72,kr,kr⟩
theorem aq5:zz prog 73:=⟨_,func73,kr,kr⟩
theorem ac2:zz prog 74:=⟨_,func74,kr,kr⟩
theorem Qt:zz prog 75:=⟨_,func75,kr,kr⟩
theorem Qu:zz prog 76:=⟨_,func76,kr,kr⟩
theorem ac3:zz prog 77:=⟨_,func77,kr,kr⟩
theorem aq6:zz prog 79:=⟨_,func79,kr,kr⟩
theorem aq7:zz prog 80:=⟨_,func80,kr,kr⟩
theorem aq8:zz prog 81:=⟨_,func81,kr,kr⟩
theorem aq9:zz prog 82:=⟨_,func82,kr,kr⟩
theorem aqz:zz prog 88:=⟨_,func88,kr,kr⟩
theorem XH:zz prog 89:=⟨_,func89,kr,kr⟩
theorem XJ:zz prog 90:=⟨_,func90,kr,kr⟩
theorem ac4:zz prog 91:=⟨_,func91,kr,kr⟩
theorem ac5:zz prog 92:=⟨_,func92,kr,kr⟩
theorem aqx:zz prog 93:=⟨_,func93,kr,kr⟩
theorem ac6:zz prog 95:=⟨_,func95,kr,kr⟩
theorem ac7:zz prog 96:=⟨_,func96,kr,kr⟩
theorem ac8:zz prog 97:=⟨_,func97,kr,kr⟩
theorem ac9:zz prog 99:=⟨_,func99,kr,kr⟩
theorem UU:zz prog 102:=⟨_,func102,kr,kr⟩
theorem UW:zz prog 103:=⟨_,func103,kr,kr⟩
theorem acz:zz prog 104:=⟨_,func104,kr,kr⟩
theorem UY:zz prog 105:=⟨_,func105,kr,kr⟩
theorem acj:zz prog 107:=⟨_,func107,kr,kr⟩
theorem ad1:zz prog 111:=⟨_,func111,kr,kr⟩
theorem UZ:zz prog 112:=⟨_,func112,kr,kr⟩
theorem ad2:zz prog 113:=⟨_,func113,kr,kr⟩
theorem ad3:zz prog 114:=⟨_,func114,kr,kr⟩
theorem ad4:zz prog 134:=⟨_,func134,kr,kr⟩
theorem KD:zz prog 136:=⟨_,func136,kr,kr⟩
theorem KE:zz prog 137:=⟨_,func137,kr,kr⟩
theorem ad5:zz prog 139:=⟨_,func139,kr,kr⟩
theorem ad6:zz prog 140:=⟨_,func140,kr,kr⟩
theorem U0:zz prog 141:=⟨_,func141,kr,kr⟩
theorem U1:zz prog 142:=⟨_,func142,kr,kr⟩
theorem U2:zz prog 145:=⟨_,func145,kr,kr⟩
theorem KF:zz prog 166:=⟨_,func166,kr,kr⟩
theorem U3:zz prog 167:=⟨_,func167,kr,kr⟩
theorem nO:zz prog 175:=⟨_,func175,kr,kr⟩
theorem ad7:zz prog 177:=⟨_,func177,kr,kr⟩
theorem ad8:zz prog 182:=⟨_,func182,kr,kr⟩
theorem ad9:zz prog 197:=⟨_,func197,kr,kr⟩
theorem adq:zz prog 198:=⟨_,func198,kr,kr⟩
theorem adz:zz prog 199:=⟨_,func199,kr,kr⟩
theorem KG:zz prog 200:=⟨_,func200,kr,kr⟩
theorem U4:zz prog 201:=⟨_,func201,kr,kr⟩
theorem adx:zz prog 202:=⟨_,func202,kr,kr⟩
theorem adj:zz prog 203:=⟨_,func203,kr,kr⟩
theorem ae0:zz prog 204:=⟨_,func204,kr,kr⟩
theorem U5:zz prog 219:=⟨_,func219,kr,kr⟩
theorem mixed:prog.follows .mixedOrders=true:=kr
end Go.Proofs.YtdofcnodhgaedaaGreatDoor
