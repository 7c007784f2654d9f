/- Texts of this claim. -/
import Derived.Test.YtebjkmjfcijebaaGreatB4
import Derived.Test.YtebjkmjfcijebaaGreatProg
import Derived.KernelRfl
namespace Go.Proofs.YtebjkmjfcijebaaGreat
theorem u24:type_of% Tryz.underlying24:=Tryz.underlying24
theorem u26:type_of% Tryz.underlying26:=Tryz.underlying26
theorem u30:type_of% Tryz.underlying30:=Tryz.underlying30
theorem u68:type_of% Tryz.underlying68:=Tryz.underlying68
theorem u89:type_of% Tryz.underlying89:=Tryz.underlying89
theorem u101:type_of% Tryz.underlying101:=Tryz.underlying101
theorem u118:type_of% Tryz.underlying118:=Tryz.underlying118
theorem u4:type_of% Tryz.underlying4:=Tryz.underlying4
theorem u22:type_of% Tryz.underlying22:=Tryz.underlying22
theorem u27:type_of% Tryz.underlying27:=Tryz.underlying27
theorem u55:type_of% Tryz.underlying55:=Tryz.underlying55
theorem u109:type_of% Tryz.underlying109:=Tryz.underlying109
theorem u87:type_of% Tryz.underlying87:=Tryz.underlying87
theorem u37:type_of% Tryz.underlying37:=Tryz.underlying37
theorem u5:type_of% Tryz.underlying5:=Tryz.underlying5
theorem u98:type_of% Tryz.underlying98:=Tryz.underlying98
theorem sz3:vf Tryz.prog 3 1:=(by kernel_rfl:(Tryz.prog.info? 3).map (·.size)=some 1)
theorem zr3:xa Tryz.prog 3 (.int .i64 0):=(by kernel_rfl:(Tryz.prog.info? 3).map (·.zero)=some (some (.int .i64 0)))
theorem sz4:vf Tryz.prog 4 1:=(by kernel_rfl:(Tryz.prog.info? 4).map (·.size)=some 1)
theorem sz5:vf Tryz.prog 5 1:=(by kernel_rfl:(Tryz.prog.info? 5).map (·.size)=some 1)
theorem kr:vf Tryz.prog 24 2:=(by kernel_rfl:(Tryz.prog.info? 24).map (·.size)=some 2)
theorem zr24:xa Tryz.prog 24 (.agg #[.slice none 0 0,.int .i64 0]):=(by kernel_rfl:(Tryz.prog.info? 24).map (·.zero)=some (some (.agg #[.slice none 0 0,.int .i64 0])))
theorem kj:vf Tryz.prog 26 2:=(by kernel_rfl:(Tryz.prog.info? 26).map (·.size)=some 2)
theorem ziz:xa Tryz.prog 26 (.agg #[.bool false,.slice none 0 0]):=(by kernel_rfl:(Tryz.prog.info? 26).map (·.zero)=some (some (.agg #[.bool false,.slice none 0 0])))
theorem qk:vf Tryz.prog 27 1:=(by kernel_rfl:(Tryz.prog.info? 27).map (·.size)=some 1)
theorem zr27:xa Tryz.prog 27 (.int .u64 0):=(by kernel_rfl:(Tryz.prog.info? 27).map (·.zero)=some (some (.int .u64 0)))
theorem kd:vf Tryz.prog 30 7:=(by kernel_rfl:(Tryz.prog.info? 30).map (·.size)=some 7)
theorem xt:xa Tryz.prog 30 (.agg #[.int .i64 0,.bool false,.bool false,.slice none 0 0,.int .u64 0,.string ⟨#[]⟩,.slice none 0 0]):=(by kernel_rfl:(Tryz.prog.info? 30).map (·.zero)=some (some (.agg #[.int .i64 0,.bool false,.bool false,.slice none 0 0,.int .u64 0,.string ⟨#[]⟩,.slice none 0 0])))
theorem xj:vf Tryz.prog 68 3:=(by kernel_rfl:(Tryz.prog.info? 68).map (·.size)=some 3)
theorem og:xa Tryz.prog 68 (.agg #[.int .i64 0,.int .i64 0,.int .i64 0]):=(by kernel_rfl:(Tryz.prog.info? 68).map (·.zero)=some (some (.agg #[.int .i64 0,.int .i64 0,.int .i64 0])))
theorem zr78:xa Tryz.prog 78 (.agg #[.slice none 0 0,.int .i64 0,.int .i64 0]):=(by kernel_rfl:(Tryz.prog.info? 78).map (·.zero)=some (some (.agg #[.slice none 0 0,.int .i64 0,.int .i64 0])))
theorem sz89:vf Tryz.prog 89 3:=(by kernel_rfl:(Tryz.prog.info? 89).map (·.size)=some 3)
theorem zr89:xa Tryz.prog 89 (.agg #[.int .i64 0,.int .i64 0,.int .i64 0]):=(by kernel_rfl:(Tryz.prog.info? 89).map (·.zero)=some (some (.agg #[.int .i64 0,.int .i64 0,.int .i64 0])))
theorem xk:vf Tryz.prog 101 4:=(by kernel_rfl:(Tryz.prog.info? 101).map (·.size)=some 4)
theorem zfz:xa Tryz.prog 101 (.agg #[.int .i64 0,.int .i64 0,.int .i64 0,.int .i64 0]):=(by kernel_rfl:(Tryz.prog.info? 101).map (·.zero)=some (some (.agg #[.int .i64 0,.int .i64 0,.int .i64 0,.int .i64 0])))
theorem qcq:vf Tryz.prog 118 2:=(by kernel_rfl:(Tryz.prog.info? 118).map (·.size)=some 2)
theorem zr118:xa Tryz.prog 118 (.agg #[.bool false,.slice none 0 0]):=(by kernel_rfl:(Tryz.prog.info? 118).map (·.zero)=some (some (.agg #[.bool false,.slice none 0 0])))
theorem inf3:yev Tryz.prog 3 (.int .i64 0) 1 8:=(by kernel_rfl:(Tryz.prog.info? 3).map (fun i=>(i.zero,i.size,i.bytes))=some (some (.int .i64 0),1,8))
theorem inf4:yev Tryz.prog 4 (.bool false) 1 1:=(by kernel_rfl:(Tryz.prog.info? 4).map (fun i=>(i.zero,i.size,i.bytes))=some (some (.bool false),1,1))
theorem inf5:yev Tryz.prog 5 (.int .u8 0) 1 1:=(by kernel_rfl:(Tryz.prog.info? 5).map (fun i=>(i.zero,i.size,i.bytes))=some (some (.int .u8 0),1,1))
theorem pl24:znv Tryz.prog 24 [(0,1),(1,1)]:=⟨_,u24,by kernel_rfl⟩
theorem pl26:znv Tryz.prog 26 [(0,1),(1,1)]:=⟨_,u26,by kernel_rfl⟩
theorem ymx:yev Tryz.prog 27 (.int .u64 0) 1 8:=(by kernel_rfl:(Tryz.prog.info? 27).map (fun i=>(i.zero,i.size,i.bytes))=some (some (.int .u64 0),1,8))
theorem zhz:znv Tryz.prog 30 [(0,1),(1,1),(2,2),(4,1),(5,1),(6,1)]:=⟨_,u30,by kernel_rfl⟩
theorem pl68:znv Tryz.prog 68 [(0,1),(1,1),(2,1)]:=⟨_,u68,by kernel_rfl⟩
theorem pl78:znv Tryz.prog 78 [(0,2),(2,1)]:=⟨_,Tryz.underlying78,by kernel_rfl⟩
theorem pl89:znv Tryz.prog 89 [(0,1),(1,1),(2,1)]:=⟨_,u89,by kernel_rfl⟩
theorem pl101:znv Tryz.prog 101 [(0,1),(1,1),(2,1),(3,1)]:=⟨_,u101,by kernel_rfl⟩
theorem pl118:znv Tryz.prog 118 [(0,1),(1,1)]:=⟨_,u118,by kernel_rfl⟩
theorem en4:qg Tryz.prog 4:=⟨_,Tryz.func4,by kernel_rfl,by kernel_rfl⟩
theorem en5:qg Tryz.prog 5:=⟨_,Tryz.func5,by kernel_rfl,by kernel_rfl⟩
theorem en6:qg Tryz.prog 6:=⟨_,Tryz.func6,by kernel_rfl,by kernel_rfl⟩
theorem en7:qg Tryz.prog 7:=⟨_,Tryz.func7,by kernel_rfl,by kernel_rfl⟩
theorem en8:qg Tryz.prog 8:=⟨_,Tryz.func8,by kernel_rfl,by kernel_rfl⟩
theorem en9:qg Tryz.prog 9:=⟨_,Tryz.func9,by kernel_rfl,by kernel_rfl⟩
theorem en10:qg Tryz.prog 10:=⟨_,Tryz.func10,by kernel_rfl,by kernel_rfl⟩
theorem en11:qg Tryz.prog 11:=⟨_,Tryz.func11,by kernel_rfl,by kernel_rfl⟩
theorem en12:qg Tryz.prog 12:=⟨_,Tryz.func12,by kernel_rfl,by kernel_rfl⟩
theorem en13:qg Tryz.prog 13:=⟨_,Tryz.func13,by kernel_rfl,by kernel_rfl⟩
theorem en14:qg Tryz.prog 14:=⟨_,Tryz.func14,by kernel_rfl,by kernel_rfl⟩
theorem en15:qg Tryz.prog 15:=⟨_,Tryz.func15,by kernel_rfl,by kernel_rfl⟩
theorem en16:qg Tryz.prog 16:=⟨_,Tryz.func16,by kernel_rfl,by kernel_rfl⟩
theorem en17:qg Tryz.prog 17:=⟨_,Tryz.func17,by kernel_rfl,by kernel_rfl⟩
theorem en18:qg Tryz.prog 18:=⟨_,Tryz.func18,by kernel_rfl,by kernel_rfl⟩
theorem en19:qg Tryz.prog 19:=⟨_,Tryz.func19,by kernel_rfl,by kernel_rfl⟩
theorem en20:qg Tryz.prog 20:=⟨_,Tryz.func20,by kernel_rfl,by kernel_rfl⟩
theorem ylx:qg Tryz.prog 21:=⟨_,Tryz.func21,by kernel_rfl,by kernel_rfl⟩
theorem en22:qg Tryz.prog 22:=⟨_,Tryz.func22,by kernel_rfl,by kernel_rfl⟩
theorem en23:qg Tryz.prog 23:=⟨_,Tryz.func23,by kernel_rfl,by kernel_rfl⟩
theorem en24:qg Tryz.prog 24:=⟨_,Tryz.func24,by kernel_rfl,by kernel_rfl⟩
theorem en25:qg Tryz.prog 25:=⟨_,Tryz.func25,by kernel_rfl,by kernel_rfl⟩
theorem en26:qg Tryz.prog 26:=⟨_,Tryz.func26,by kernel_rfl,by kernel_rfl⟩
theorem en27:qg Tryz.prog 27:=⟨_,Tryz.func27,by kernel_rfl,by kernel_rfl⟩
theorem en28:qg Tryz.prog 28:=⟨_,Tryz.func28,by kernel_rfl,by kernel_rfl⟩
theorem en29:qg Tryz.prog 29:=⟨_,Tryz.func29,by kernel_rfl,by kernel_rfl⟩
theorem en30:qg Tryz.prog 30:=⟨_,Tryz.func30,by kernel_rfl,by kernel_rfl⟩
theorem en31:qg Tryz.prog 31:=⟨_,Tryz.func31,by kernel_rfl,by kernel_rfl⟩
theorem en32:qg Tryz.prog 32:=⟨_,Tryz.func32,by kernel_rfl,by kernel_rfl⟩
theorem en33:qg Tryz.prog 33:=⟨_,Tryz.func33,by kernel_rfl,by kernel_rfl⟩
theorem ykv:qg Tryz.prog 34:=⟨_,Tryz.func34,by kernel_rfl,by kernel_rfl⟩
theorem en35:qg Tryz.prog 35:=⟨_,Tryz.func35,by kernel_rfl,by kernel_rfl⟩
theorem en36:qg Tryz.prog 36:=⟨_,Tryz.func36,by kernel_rfl,by kernel_rfl⟩
theorem en37:qg Tryz.prog 37:=⟨_,Tryz.func37,by kernel_rfl,by kernel_rfl⟩
theorem en38:qg Tryz.prog 38:=⟨_,Tryz.func38,by kernel_rfl,by kernel_rfl⟩
theorem en39:qg Tryz.prog 39:=⟨_,Tryz.func39,by kernel_rfl,by kernel_rfl⟩
theorem en40:qg Tryz.prog 40:=⟨_,Tryz.func40,by kernel_rfl,by kernel_rfl⟩
theorem en41:qg Tryz.prog 41:=⟨_,Tryz.func41,by kernel_rfl,by kernel_rfl⟩
theorem en42:qg Tryz.prog 42:=⟨_,Tryz.func42,by kernel_rfl,by kernel_rfl⟩
theorem en43:qg Tryz.prog 43:=⟨_,Tryz.func43,by kernel_rfl,by kernel_rfl⟩
theorem en44:qg Tryz.prog 44:=⟨_,Tryz.func44,by kernel_rfl,by kernel_rfl⟩
theorem en45:qg Tryz.prog 45:=⟨_,Tryz.func45,by kernel_rfl,by kernel_rfl⟩
theorem en46:qg Tryz.prog 46:=⟨_,Tryz.func46,by kernel_rfl,by kernel_rfl⟩
theorem en47:qg Tryz.prog 47:=⟨_,Tryz.func47,by kernel_rfl,by kernel_rfl⟩
theorem en48:qg Tryz.prog 48:=⟨_,Tryz.func48,by kernel_rfl,by kernel_rfl⟩
theorem en49:qg Tryz.prog 49:=⟨_,Tryz.func49,by kernel_rfl,by kernel_rfl⟩
theorem en50:qg Tryz.prog 50:=⟨_,Tryz.func50,by kernel_rfl,by kernel_rfl⟩
theorem en51:qg Tryz.prog 51:=⟨_,Tryz.func51,by kernel_rfl,by kernel_rfl⟩
theorem en52:qg Tryz.prog 52:=⟨_,Tryz.func52,by kernel_rfl,by kernel_rfl⟩
theorem en53:qg Tryz.prog 53:=⟨_,Tryz.func53,by kernel_rfl,by kernel_rfl⟩
theorem en54:qg Tryz.prog 54:=⟨_,Tryz.func54,by kernel_rfl,by kernel_rfl⟩
theorem en56:qg Tryz.prog 56:=⟨_,Tryz.func56,by kernel_rfl,by kernel_rfl⟩
theorem en57:qg Tryz.prog 57:=⟨_,Tryz.func57,by kernel_rfl,by kernel_rfl⟩
theorem en59:qg Tryz.prog 59:=⟨_,Tryz.func59,by kernel_rfl,by kernel_rfl⟩
theorem en60:qg Tryz.prog 60:=⟨_,Tryz.func60,by kernel_rfl,by kernel_rfl⟩
theorem en61:qg Tryz.prog 61:=⟨_,Tryz.func61,by kernel_rfl,by kernel_rfl⟩
theorem en62:qg Tryz.prog 62:=⟨_,Tryz.func62,by kernel_rfl,by kernel_rfl⟩
theorem en63:qg Tryz.prog 63:=⟨_,Tryz.func63,by kernel_rfl,by kernel_rfl⟩
theorem en64:qg Tryz.prog 64:=⟨_,Tryz.func64,by kernel_rfl,by kernel_rfl⟩
theorem en65:qg Tryz.prog 65:=⟨_,Tryz.func65,by kernel_rfl,by kernel_rfl⟩
theorem en66:qg Tryz.prog 66:=⟨_,Tryz.func66,by kernel_rfl,by kernel_rfl⟩
theorem en67:qg Tryz.prog 67:=⟨_,Tryz.func67,by kernel_rfl,by kernel_rfl⟩
theorem en70:qg Tryz.prog 70:=⟨_,Tryz.func70,by kernel_rfl,by kernel_rfl⟩
theorem en71:qg Tryz.prog 71:=⟨_,Tryz.func71,by kernel_rfl,by kernel_rfl⟩
theorem en72:qg Tryz.prog 72:=⟨_,Tryz.func72,by kernel_rfl,by kernel_rfl⟩
theorem en73:qg Tryz.prog 73:=⟨_,Tryz.func73,by kernel_rfl,by kernel_rfl⟩
theorem en75:qg Tryz.prog 75:=⟨_,Tryz.func75,by kernel_rfl,by kernel_rfl⟩
theorem en76:qg Tryz.prog 76:=⟨_,Tryz.func76,by kernel_rfl,by kernel_rfl⟩
theorem en77:qg Tryz.prog 77:=⟨_,Tryz.func77,by kernel_rfl,by kernel_rfl⟩
theorem en78:qg Tryz.prog 78:=⟨_,Tryz.func78,by kernel_rfl,by kernel_rfl⟩
theorem en79:qg Tryz.prog 79:=⟨_,Tryz.func79,by kernel_rfl,by kernel_rfl⟩
theorem en80:qg Tryz.prog 80:=⟨_,Tryz.func80,by kernel_rfl,by kernel_rfl⟩
theorem en81:qg Tryz.prog 81:=⟨_,Tryz.func81,by kernel_rfl,by kernel_rfl⟩
theorem en83:qg Tryz.prog 83:=⟨_,Tryz.func83,by kernel_rfl,by kernel_rfl⟩
theorem en85:qg Tryz.prog 85:=⟨_,Tryz.func85,by kernel_rfl,by kernel_rfl⟩
theorem en86:qg Tryz.prog 86:=⟨_,Tryz.func86,by kernel_rfl,by kernel_rfl⟩
theorem en88:qg Tryz.prog 88:=⟨_,Tryz.func88,by kernel_rfl,by kernel_rfl⟩
theorem en89:qg Tryz.prog 89:=⟨_,Tryz.func89,by kernel_rfl,by kernel_rfl⟩
theorem en90:qg Tryz.prog 90:=⟨_,Tryz.func90,by kernel_rfl,by kernel_rfl⟩
theorem en91:qg Tryz.prog 91:=⟨_,Tryz.func91,by kernel_rfl,by kernel_rfl⟩
theorem en92:qg Tryz.prog 92:=⟨_,Tryz.func92,by kernel_rfl,by kernel_rfl⟩
theorem en93:qg Tryz.prog 93:=⟨_,Tryz.func93,by kernel_rfl,by kernel_rfl⟩
theorem en94:qg Tryz.prog 94:=⟨_,Tryz.func94,by kernel_rfl,by kernel_rfl⟩
theorem en95:qg Tryz.prog 95:=⟨_,Tryz.func95,by kernel_rfl,by kernel_rfl⟩
theorem en96:qg Tryz.prog 96:=⟨_,Tryz.func96,by kernel_rfl,by kernel_rfl⟩
theorem en101:qg Tryz.prog 101:=⟨_,Tryz.func101,by kernel_rfl,by kernel_rfl⟩
theorem en102:qg Tryz.prog 102:=⟨_,Tryz.func102,by kernel_rfl,by kernel_rfl⟩
theorem en103:qg Tryz.prog 103:=⟨_,Tryz.func103,by kernel_rfl,by kernel_rfl⟩
theorem en106:qg Tryz.prog 106:=⟨_,Tryz.func106,by kernel_rfl,by kernel_rfl⟩
theorem en108:qg Tryz.prog 108:=⟨_,Tryz.func108,by kernel_rfl,by kernel_rfl⟩
theorem en109:qg Tryz.prog 109:=⟨_,Tryz.func109,by kernel_rfl,by kernel_rfl⟩
theorem en112:qg Tryz.prog 112:=⟨_,Tryz.func112,by kernel_rfl,by kernel_rfl⟩
theorem en113:qg Tryz.prog 113:=⟨_,Tryz.func113,by kernel_rfl,by kernel_rfl⟩
theorem en114:qg Tryz.prog 114:=⟨_,Tryz.func114,by kernel_rfl,by kernel_rfl⟩
theorem en117:qg Tryz.prog 117:=⟨_,Tryz.func117,by kernel_rfl,by kernel_rfl⟩
theorem en118:qg Tryz.prog 118:=⟨_,Tryz.func118,by kernel_rfl,by kernel_rfl⟩
theorem en120:qg Tryz.prog 120:=⟨_,Tryz.func120,by kernel_rfl,by kernel_rfl⟩
theorem en125:qg Tryz.prog 125:=⟨_,Tryz.func125,by kernel_rfl,by kernel_rfl⟩
theorem qt:Tryz.prog.follows .mixedOrders=true:=by kernel_rfl
instance :type_of% (Und.mk Tryz.underlying3):=⟨Tryz.underlying3⟩
instance :type_of% (Und.mk u4):=⟨u4⟩
instance :type_of% (Und.mk Tryz.underlying9):=⟨Tryz.underlying9⟩
instance :type_of% (Und.mk u22):=⟨u22⟩
instance :type_of% (Und.mk u24):=⟨u24⟩
instance :type_of% (Und.mk u26):=⟨u26⟩
instance :type_of% (Und.mk u27):=⟨u27⟩
instance :type_of% (Und.mk Tryz.underlying28):=⟨Tryz.underlying28⟩
instance :type_of% (Und.mk u30):=⟨u30⟩
instance :type_of% (Und.mk u55):=⟨u55⟩
instance :type_of% (Und.mk u68):=⟨u68⟩
instance :type_of% (Und.mk u89):=⟨u89⟩
instance :type_of% (Und.mk u101):=⟨u101⟩
instance :type_of% (Und.mk u109):=⟨u109⟩
instance :type_of% (Und.mk u118):=⟨u118⟩
instance :type_of% (Szc.mk kr):=⟨kr⟩
instance :type_of% (Szc.mk kj):=⟨kj⟩
instance :type_of% (Szc.mk kd):=⟨kd⟩
instance :type_of% (Szc.mk xj):=⟨xj⟩
instance :type_of% (Szc.mk sz89):=⟨sz89⟩
instance :type_of% (Szc.mk xk):=⟨xk⟩
instance :type_of% (Szc.mk qcq):=⟨qcq⟩
instance :type_of% (Plc.mk pl24):=⟨pl24⟩
instance :type_of% (Plc.mk pl26):=⟨pl26⟩
instance :type_of% (Plc.mk zhz):=⟨zhz⟩
instance :type_of% (Plc.mk pl68):=⟨pl68⟩
instance :type_of% (Plc.mk pl78):=⟨pl78⟩
instance :type_of% (Plc.mk pl89):=⟨pl89⟩
instance :type_of% (Plc.mk pl101):=⟨pl101⟩
instance :type_of% (Plc.mk pl118):=⟨pl118⟩
end Go.Proofs.YtebjkmjfcijebaaGreat
