/- Texts of this claim. -/
import Derived.Test.YtmjbnhjgebjhlaaDoorS5
import Derived.Test.YtmjbnhjgebjhlaaDoorProg
import Derived.KernelRfl
namespace Go.Proofs.YtmjbnhjgebjhlaaDoor
theorem sz3 : qk Tryd.prog 3 1 := (by kernel_rfl : (Tryd.prog.info? 3).map (·.size) = some 1)
theorem zr3 : jh Tryd.prog 3 (.int .i64 0) := (by kernel_rfl : (Tryd.prog.info? 3).map (·.zero) = some (some (.int .i64 0)))
theorem sz4 : qk Tryd.prog 4 1 := (by kernel_rfl : (Tryd.prog.info? 4).map (·.size) = some 1)
theorem sz5 : qk Tryd.prog 5 1 := (by kernel_rfl : (Tryd.prog.info? 5).map (·.size) = some 1)
theorem sz9 : qk Tryd.prog 9 1 := (by kernel_rfl : (Tryd.prog.info? 9).map (·.size) = some 1)
theorem zr9 : jh Tryd.prog 9 (.string ⟨#[]⟩) := (by kernel_rfl : (Tryd.prog.info? 9).map (·.zero) = some (some (.string ⟨#[]⟩)))
theorem sz22 : qk Tryd.prog 22 1 := (by kernel_rfl : (Tryd.prog.info? 22).map (·.size) = some 1)
theorem sz24 : qk Tryd.prog 24 1 := (by kernel_rfl : (Tryd.prog.info? 24).map (·.size) = some 1)
theorem zr24 : jh Tryd.prog 24 (.agg #[.slice none 0 0]) := (by kernel_rfl : (Tryd.prog.info? 24).map (·.zero) = some (some (.agg #[.slice none 0 0])))
theorem sz30 : qk Tryd.prog 30 1 := (by kernel_rfl : (Tryd.prog.info? 30).map (·.size) = some 1)
theorem zr30 : jh Tryd.prog 30 (.int .u64 0) := (by kernel_rfl : (Tryd.prog.info? 30).map (·.zero) = some (some (.int .u64 0)))
theorem sz32 : qk Tryd.prog 32 1 := (by kernel_rfl : (Tryd.prog.info? 32).map (·.size) = some 1)
theorem sz33 : qk Tryd.prog 33 1 := (by kernel_rfl : (Tryd.prog.info? 33).map (·.size) = some 1)
theorem og : qk Tryd.prog 34 1 := (by kernel_rfl : (Tryd.prog.info? 34).map (·.size) = some 1)
theorem sz35 : qk Tryd.prog 35 1 := (by kernel_rfl : (Tryd.prog.info? 35).map (·.size) = some 1)
theorem ztx : qk Tryd.prog 37 10 := (by kernel_rfl : (Tryd.prog.info? 37).map (·.size) = some 10)
theorem zr37 : jh Tryd.prog 37 (.agg #[.string ⟨#[]⟩, .int .i64 0, .int .i64 0, .int .i64 0, .bool false, .int .i64 0, .slice none 0 0, .slice none 0 0, .slice none 0 0, .slice none 0 0]) := (by kernel_rfl : (Tryd.prog.info? 37).map (·.zero) = some (some (.agg #[.string ⟨#[]⟩, .int .i64 0, .int .i64 0, .int .i64 0, .bool false, .int .i64 0, .slice none 0 0, .slice none 0 0, .slice none 0 0, .slice none 0 0])))
theorem sz38 : qk Tryd.prog 38 1 := (by kernel_rfl : (Tryd.prog.info? 38).map (·.size) = some 1)
theorem oe : qk Tryd.prog 40 7 := (by kernel_rfl : (Tryd.prog.info? 40).map (·.size) = some 7)
theorem zr40 : jh Tryd.prog 40 (.agg #[.int .i64 0, .int .i64 0, .int .i64 0, .int .i64 0, .int .i64 0, .int .i64 0, .slice none 0 0]) := (by kernel_rfl : (Tryd.prog.info? 40).map (·.zero) = some (some (.agg #[.int .i64 0, .int .i64 0, .int .i64 0, .int .i64 0, .int .i64 0, .int .i64 0, .slice none 0 0])))
theorem sz50 : qk Tryd.prog 50 4 := (by kernel_rfl : (Tryd.prog.info? 50).map (·.size) = some 4)
theorem zr50 : jh Tryd.prog 50 (.agg #[.int .i64 0, .int .i64 0, .int .i64 0, .int .i64 0]) := (by kernel_rfl : (Tryd.prog.info? 50).map (·.zero) = some (some (.agg #[.int .i64 0, .int .i64 0, .int .i64 0, .int .i64 0])))
theorem sz55 : qk Tryd.prog 55 2 := (by kernel_rfl : (Tryd.prog.info? 55).map (·.size) = some 2)
theorem zr55 : jh Tryd.prog 55 (.agg #[.int .i64 0, .string ⟨#[]⟩]) := (by kernel_rfl : (Tryd.prog.info? 55).map (·.zero) = some (some (.agg #[.int .i64 0, .string ⟨#[]⟩])))
theorem sz58 : qk Tryd.prog 58 45 := (by kernel_rfl : (Tryd.prog.info? 58).map (·.size) = some 45)
theorem zr58 : jh Tryd.prog 58 (.agg #[.int .i64 0, .int .i64 0, .int .i64 0, .int .i64 0, .int .i64 0, .int .i64 0, .int .i64 0, .int .i64 0, .int .i64 0, .int .i64 0, .int .i64 0, .int .i64 0, .int .i64 0, .int .i64 0, .int .i64 0, .int .i64 0, .int .i64 0, .int .i64 0, .int .i64 0, .int .i64 0, .int .i64 0, .int .i64 0, .int .i64 0, .int .i64 0, .int .i64 0, .int .i64 0, .int .i64 0, .int .i64 0, .int .i64 0, .int .i64 0, .int .i64 0, .int .i64 0, .int .i64 0, .int .i64 0, .int .i64 0, .int .i64 0, .int .i64 0, .int .i64 0, .int .i64 0, .int .i64 0, .int .i64 0, .int .i64 0, .int .i64 0, .int .i64 0, .int .i64 0]) := (by kernel_rfl : (Tryd.prog.info? 58).map (·.zero) = some (some (.agg #[.int .i64 0, .int .i64 0, .int .i64 0, .int .i64 0, .int .i64 0, .int .i64 0, .int .i64 0, .int .i64 0, .int .i64 0, .int .i64 0, .int .i64 0, .int .i64 0, .int .i64 0, .int .i64 0, .int .i64 0, .int .i64 0, .int .i64 0, .int .i64 0, .int .i64 0, .int .i64 0, .int .i64 0, .int .i64 0, .int .i64 0, .int .i64 0, .int .i64 0, .int .i64 0, .int .i64 0, .int .i64 0, .int .i64 0, .int .i64 0, .int .i64 0, .int .i64 0, .int .i64 0, .int .i64 0, .int .i64 0, .int .i64 0, .int .i64 0, .int .i64 0, .int .i64 0, .int .i64 0, .int .i64 0, .int .i64 0, .int .i64 0, .int .i64 0, .int .i64 0])))
theorem xh : qk Tryd.prog 61 2 := (by kernel_rfl : (Tryd.prog.info? 61).map (·.size) = some 2)
theorem zr61 : jh Tryd.prog 61 (.agg #[.bool false, .slice none 0 0]) := (by kernel_rfl : (Tryd.prog.info? 61).map (·.zero) = some (some (.agg #[.bool false, .slice none 0 0])))
theorem sz75 : qk Tryd.prog 75 1 := (by kernel_rfl : (Tryd.prog.info? 75).map (·.size) = some 1)
theorem zlx : qk Tryd.prog 88 1 := (by kernel_rfl : (Tryd.prog.info? 88).map (·.size) = some 1)
theorem xt : qk Tryd.prog 123 800 := (by kernel_rfl : (Tryd.prog.info? 123).map (·.size) = some 800)
theorem zr138 : jh Tryd.prog 138 (.agg #[.int .u64 0, .int .u64 0, .int .i64 0]) := (by kernel_rfl : (Tryd.prog.info? 138).map (·.zero) = some (some (.agg #[.int .u64 0, .int .u64 0, .int .i64 0])))
theorem sz156 : qk Tryd.prog 156 2 := (by kernel_rfl : (Tryd.prog.info? 156).map (·.size) = some 2)
theorem sz167 : qk Tryd.prog 167 2 := (by kernel_rfl : (Tryd.prog.info? 167).map (·.size) = some 2)
theorem inf3 : zav Tryd.prog 3 (.int .i64 0) 1 8 := (by kernel_rfl : (Tryd.prog.info? 3).map (fun i => (i.zero, i.size, i.bytes)) = some (some (.int .i64 0), 1, 8))
theorem inf9 : zav Tryd.prog 9 (.string ⟨#[]⟩) 1 16 := (by kernel_rfl : (Tryd.prog.info? 9).map (fun i => (i.zero, i.size, i.bytes)) = some (some (.string ⟨#[]⟩), 1, 16))
theorem pl24 : Places Tryd.prog 24 [(0, 1)] := ⟨_, Tryd.underlying24, by kernel_rfl⟩
theorem inf30 : zav Tryd.prog 30 (.int .u64 0) 1 8 := (by kernel_rfl : (Tryd.prog.info? 30).map (fun i => (i.zero, i.size, i.bytes)) = some (some (.int .u64 0), 1, 8))
theorem pl37 : Places Tryd.prog 37 [(0, 1), (1, 1), (2, 1), (3, 1), (4, 1), (5, 1), (6, 1), (7, 1), (8, 1), (9, 1)] := ⟨_, Tryd.underlying37, by kernel_rfl⟩
theorem inf37 : zav Tryd.prog 37 (.agg #[.string ⟨#[]⟩, .int .i64 0, .int .i64 0, .int .i64 0, .bool false, .int .i64 0, .slice none 0 0, .slice none 0 0, .slice none 0 0, .slice none 0 0]) 10 152 := (by kernel_rfl : (Tryd.prog.info? 37).map (fun i => (i.zero, i.size, i.bytes)) = some (some (.agg #[.string ⟨#[]⟩, .int .i64 0, .int .i64 0, .int .i64 0, .bool false, .int .i64 0, .slice none 0 0, .slice none 0 0, .slice none 0 0, .slice none 0 0]), 10, 152))
theorem pl40 : Places Tryd.prog 40 [(0, 1), (1, 1), (2, 1), (3, 1), (4, 1), (5, 1), (6, 1)] := ⟨_, Tryd.underlying40, by kernel_rfl⟩
theorem inf40 : zav Tryd.prog 40 (.agg #[.int .i64 0, .int .i64 0, .int .i64 0, .int .i64 0, .int .i64 0, .int .i64 0, .slice none 0 0]) 7 72 := (by kernel_rfl : (Tryd.prog.info? 40).map (fun i => (i.zero, i.size, i.bytes)) = some (some (.agg #[.int .i64 0, .int .i64 0, .int .i64 0, .int .i64 0, .int .i64 0, .int .i64 0, .slice none 0 0]), 7, 72))
theorem inf50 : zav Tryd.prog 50 (.agg #[.int .i64 0, .int .i64 0, .int .i64 0, .int .i64 0]) 4 32 := (by kernel_rfl : (Tryd.prog.info? 50).map (fun i => (i.zero, i.size, i.bytes)) = some (some (.agg #[.int .i64 0, .int .i64 0, .int .i64 0, .int .i64 0]), 4, 32))
theorem inf55 : zav Tryd.prog 55 (.agg #[.int .i64 0, .string ⟨#[]⟩]) 2 24 := (by kernel_rfl : (Tryd.prog.info? 55).map (fun i => (i.zero, i.size, i.bytes)) = some (some (.agg #[.int .i64 0, .string ⟨#[]⟩]), 2, 24))
theorem pl61 : Places Tryd.prog 61 [(0, 1), (1, 1)] := ⟨_, Tryd.underlying61, by kernel_rfl⟩
theorem en5 : vo Tryd.prog 5 := ⟨_, Tryd.func5, by kernel_rfl, by kernel_rfl⟩
theorem en6 : vo Tryd.prog 6 := ⟨_, Tryd.func6, by kernel_rfl, by kernel_rfl⟩
theorem en7 : vo Tryd.prog 7 := ⟨_, Tryd.func7, by kernel_rfl, by kernel_rfl⟩
theorem en8 : vo Tryd.prog 8 := ⟨_, Tryd.func8, by kernel_rfl, by kernel_rfl⟩
theorem en11 : vo Tryd.prog 11 := ⟨_, Tryd.func11, by kernel_rfl, by kernel_rfl⟩
theorem en12 : vo Tryd.prog 12 := ⟨_, Tryd.func12, by kernel_rfl, by kernel_rfl⟩
theorem en13 : vo Tryd.prog 13 := ⟨_, Tryd.func13, by kernel_rfl, by kernel_rfl⟩
theorem en14 : vo Tryd.prog 14 := ⟨_, Tryd.func14, by kernel_rfl, by kernel_rfl⟩
theorem en15 : vo Tryd.prog 15 := ⟨_, Tryd.func15, by kernel_rfl, by kernel_rfl⟩
theorem en16 : vo Tryd.prog 16 := ⟨_, Tryd.func16, by kernel_rfl, by kernel_rfl⟩
theorem en17 : vo Tryd.prog 17 := ⟨_, Tryd.func17, by kernel_rfl, by kernel_rfl⟩
theorem en18 : vo Tryd.prog 18 := ⟨_, Tryd.func18, by kernel_rfl, by kernel_rfl⟩
theorem en19 : vo Tryd.prog 19 := ⟨_, Tryd.func19, by kernel_rfl, by kernel_rfl⟩
theorem en20 : vo Tryd.prog 20 := ⟨_, Tryd.func20, by kernel_rfl, by kernel_rfl⟩
theorem en21 : vo Tryd.prog 21 := ⟨_, Tryd.func21, by kernel_rfl, by kernel_rfl⟩
theorem en22 : vo Tryd.prog 22 := ⟨_, Tryd.func22, by kernel_rfl, by kernel_rfl⟩
theorem en23 : vo Tryd.prog 23 := ⟨_, Tryd.func23, by kernel_rfl, by kernel_rfl⟩
theorem en24 : vo Tryd.prog 24 := ⟨_, Tryd.func24, by kernel_rfl, by kernel_rfl⟩
theorem en25 : vo Tryd.prog 25 := ⟨_, Tryd.func25, by kernel_rfl, by kernel_rfl⟩
theorem en26 : vo Tryd.prog 26 := ⟨_, Tryd.func26, by kernel_rfl, by kernel_rfl⟩
theorem en27 : vo Tryd.prog 27 := ⟨_, Tryd.func27, by kernel_rfl, by kernel_rfl⟩
theorem en28 : vo Tryd.prog 28 := ⟨_, Tryd.func28, by kernel_rfl, by kernel_rfl⟩
theorem en29 : vo Tryd.prog 29 := ⟨_, Tryd.func29, by kernel_rfl, by kernel_rfl⟩
theorem en30 : vo Tryd.prog 30 := ⟨_, Tryd.func30, by kernel_rfl, by kernel_rfl⟩
theorem en32 : vo Tryd.prog 32 := ⟨_, Tryd.func32, by kernel_rfl, by kernel_rfl⟩
theorem en33 : vo Tryd.prog 33 := ⟨_, Tryd.func33, by kernel_rfl, by kernel_rfl⟩
theorem en35 : vo Tryd.prog 35 := ⟨_, Tryd.func35, by kernel_rfl, by kernel_rfl⟩
theorem en36 : vo Tryd.prog 36 := ⟨_, Tryd.func36, by kernel_rfl, by kernel_rfl⟩
theorem en37 : vo Tryd.prog 37 := ⟨_, Tryd.func37, by kernel_rfl, by kernel_rfl⟩
theorem en39 : vo Tryd.prog 39 := ⟨_, Tryd.func39, by kernel_rfl, by kernel_rfl⟩
theorem en45 : vo Tryd.prog 45 := ⟨_, Tryd.func45, by kernel_rfl, by kernel_rfl⟩
theorem en46 : vo Tryd.prog 46 := ⟨_, Tryd.func46, by kernel_rfl, by kernel_rfl⟩
theorem en51 : vo Tryd.prog 51 := ⟨_, Tryd.func51, by kernel_rfl, by kernel_rfl⟩
theorem en53 : vo Tryd.prog 53 := ⟨_, Tryd.func53, by kernel_rfl, by kernel_rfl⟩
theorem en54 : vo Tryd.prog 54 := ⟨_, Tryd.func54, by kernel_rfl, by kernel_rfl⟩
theorem en60 : vo Tryd.prog 60 := ⟨_, Tryd.func60, by kernel_rfl, by kernel_rfl⟩
theorem en61 : vo Tryd.prog 61 := ⟨_, Tryd.func61, by kernel_rfl, by kernel_rfl⟩
theorem en62 : vo Tryd.prog 62 := ⟨_, Tryd.func62, by kernel_rfl, by kernel_rfl⟩
theorem en64 : vo Tryd.prog 64 := ⟨_, Tryd.func64, by kernel_rfl, by kernel_rfl⟩
theorem en65 : vo Tryd.prog 65 := ⟨_, Tryd.func65, by kernel_rfl, by kernel_rfl⟩
theorem en67 : vo Tryd.prog 67 := ⟨_, Tryd.func67, by kernel_rfl, by kernel_rfl⟩
theorem en70 : vo Tryd.prog 70 := ⟨_, Tryd.func70, by kernel_rfl, by kernel_rfl⟩
theorem en71 : vo Tryd.prog 71 := ⟨_, Tryd.func71, by kernel_rfl, by kernel_rfl⟩
theorem en72 : vo Tryd.prog 72 := ⟨_, Tryd.func72, by kernel_rfl, by kernel_rfl⟩
theorem en73 : vo Tryd.prog 73 := ⟨_, Tryd.func73, by kernel_rfl, by kernel_rfl⟩
theorem en74 : vo Tryd.prog 74 := ⟨_, Tryd.func74, by kernel_rfl, by kernel_rfl⟩
theorem en75 : vo Tryd.prog 75 := ⟨_, Tryd.func75, by kernel_rfl, by kernel_rfl⟩
theorem en77 : vo Tryd.prog 77 := ⟨_, Tryd.func77, by kernel_rfl, by kernel_rfl⟩
theorem en78 : vo Tryd.prog 78 := ⟨_, Tryd.func78, by kernel_rfl, by kernel_rfl⟩
theorem en79 : vo Tryd.prog 79 := ⟨_, Tryd.func79, by kernel_rfl, by kernel_rfl⟩
theorem en80 : vo Tryd.prog 80 := ⟨_, Tryd.func80, by kernel_rfl, by kernel_rfl⟩
theorem en85 : vo Tryd.prog 85 := ⟨_, Tryd.func85, by kernel_rfl, by kernel_rfl⟩
theorem en86 : vo Tryd.prog 86 := ⟨_, Tryd.func86, by kernel_rfl, by kernel_rfl⟩
theorem en87 : vo Tryd.prog 87 := ⟨_, Tryd.func87, by kernel_rfl, by kernel_rfl⟩
theorem en88 : vo Tryd.prog 88 := ⟨_, Tryd.func88, by kernel_rfl, by kernel_rfl⟩
theorem en92 : vo Tryd.prog 92 := ⟨_, Tryd.func92, by kernel_rfl, by kernel_rfl⟩
theorem en93 : vo Tryd.prog 93 := ⟨_, Tryd.func93, by kernel_rfl, by kernel_rfl⟩
theorem mixed : Tryd.prog.follows .mixedOrders = true := by kernel_rfl
end Go.Proofs.YtmjbnhjgebjhlaaDoor
