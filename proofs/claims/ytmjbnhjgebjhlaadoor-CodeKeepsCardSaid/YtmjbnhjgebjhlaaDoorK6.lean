/- Texts of this claim. -/
import Derived.Test.YtmjbnhjgebjhlaaDoorK5
import Derived.Test.YtmjbnhjgebjhlaaDoorProg
import Derived.KernelRfl
namespace Go.Proofs.YtmjbnhjgebjhlaaDoor
theorem sz3 : qj Tryd.prog 3 1 := (by kernel_rfl : (Tryd.prog.info? 3).map (·.size) = some 1)
theorem zr3 : jo Tryd.prog 3 (.int .i64 0) := (by kernel_rfl : (Tryd.prog.info? 3).map (·.zero) = some (some (.int .i64 0)))
theorem sz4 : qj Tryd.prog 4 1 := (by kernel_rfl : (Tryd.prog.info? 4).map (·.size) = some 1)
theorem sz5 : qj Tryd.prog 5 1 := (by kernel_rfl : (Tryd.prog.info? 5).map (·.size) = some 1)
theorem sz9 : qj Tryd.prog 9 1 := (by kernel_rfl : (Tryd.prog.info? 9).map (·.size) = some 1)
theorem zr9 : jo Tryd.prog 9 (.string ⟨#[]⟩) := (by kernel_rfl : (Tryd.prog.info? 9).map (·.zero) = some (some (.string ⟨#[]⟩)))
theorem sz22 : qj Tryd.prog 22 1 := (by kernel_rfl : (Tryd.prog.info? 22).map (·.size) = some 1)
theorem sz24 : qj Tryd.prog 24 1 := (by kernel_rfl : (Tryd.prog.info? 24).map (·.size) = some 1)
theorem zr24 : jo Tryd.prog 24 (.agg #[.slice none 0 0]) := (by kernel_rfl : (Tryd.prog.info? 24).map (·.zero) = some (some (.agg #[.slice none 0 0])))
theorem sz30 : qj Tryd.prog 30 1 := (by kernel_rfl : (Tryd.prog.info? 30).map (·.size) = some 1)
theorem zr30 : jo Tryd.prog 30 (.int .u64 0) := (by kernel_rfl : (Tryd.prog.info? 30).map (·.zero) = some (some (.int .u64 0)))
theorem sz32 : qj Tryd.prog 32 1 := (by kernel_rfl : (Tryd.prog.info? 32).map (·.size) = some 1)
theorem sz33 : qj Tryd.prog 33 1 := (by kernel_rfl : (Tryd.prog.info? 33).map (·.size) = some 1)
theorem sz34 : qj Tryd.prog 34 1 := (by kernel_rfl : (Tryd.prog.info? 34).map (·.size) = some 1)
theorem sz35 : qj Tryd.prog 35 1 := (by kernel_rfl : (Tryd.prog.info? 35).map (·.size) = some 1)
theorem sz37 : qj Tryd.prog 37 10 := (by kernel_rfl : (Tryd.prog.info? 37).map (·.size) = some 10)
theorem zr37 : jo Tryd.prog 37 (.agg #[.string ⟨#[]⟩, .int .i64 0, .int .i64 0, .int .i64 0, .bool false, .int .i64 0, .slice none 0 0, .slice none 0 0, .slice none 0 0, .slice none 0 0]) := (by kernel_rfl : (Tryd.prog.info? 37).map (·.zero) = some (some (.agg #[.string ⟨#[]⟩, .int .i64 0, .int .i64 0, .int .i64 0, .bool false, .int .i64 0, .slice none 0 0, .slice none 0 0, .slice none 0 0, .slice none 0 0])))
theorem xy : qj Tryd.prog 38 1 := (by kernel_rfl : (Tryd.prog.info? 38).map (·.size) = some 1)
theorem zr38 : jo Tryd.prog 38 (.slice none 0 0) := (by kernel_rfl : (Tryd.prog.info? 38).map (·.zero) = some (some (.slice none 0 0)))
theorem zqv : qj Tryd.prog 40 7 := (by kernel_rfl : (Tryd.prog.info? 40).map (·.size) = some 7)
theorem zr40 : jo Tryd.prog 40 (.agg #[.int .i64 0, .int .i64 0, .int .i64 0, .int .i64 0, .int .i64 0, .int .i64 0, .slice none 0 0]) := (by kernel_rfl : (Tryd.prog.info? 40).map (·.zero) = some (some (.agg #[.int .i64 0, .int .i64 0, .int .i64 0, .int .i64 0, .int .i64 0, .int .i64 0, .slice none 0 0])))
theorem sz50 : qj Tryd.prog 50 4 := (by kernel_rfl : (Tryd.prog.info? 50).map (·.size) = some 4)
theorem zr50 : jo Tryd.prog 50 (.agg #[.int .i64 0, .int .i64 0, .int .i64 0, .int .i64 0]) := (by kernel_rfl : (Tryd.prog.info? 50).map (·.zero) = some (some (.agg #[.int .i64 0, .int .i64 0, .int .i64 0, .int .i64 0])))
theorem sz55 : qj Tryd.prog 55 2 := (by kernel_rfl : (Tryd.prog.info? 55).map (·.size) = some 2)
theorem zr55 : jo Tryd.prog 55 (.agg #[.int .i64 0, .string ⟨#[]⟩]) := (by kernel_rfl : (Tryd.prog.info? 55).map (·.zero) = some (some (.agg #[.int .i64 0, .string ⟨#[]⟩])))
theorem sz58 : qj Tryd.prog 58 45 := (by kernel_rfl : (Tryd.prog.info? 58).map (·.size) = some 45)
theorem zr58 : jo Tryd.prog 58 (.agg #[.int .i64 0, .int .i64 0, .int .i64 0, .int .i64 0, .int .i64 0, .int .i64 0, .int .i64 0, .int .i64 0, .int .i64 0, .int .i64 0, .int .i64 0, .int .i64 0, .int .i64 0, .int .i64 0, .int .i64 0, .int .i64 0, .int .i64 0, .int .i64 0, .int .i64 0, .int .i64 0, .int .i64 0, .int .i64 0, .int .i64 0, .int .i64 0, .int .i64 0, .int .i64 0, .int .i64 0, .int .i64 0, .int .i64 0, .int .i64 0, .int .i64 0, .int .i64 0, .int .i64 0, .int .i64 0, .int .i64 0, .int .i64 0, .int .i64 0, .int .i64 0, .int .i64 0, .int .i64 0, .int .i64 0, .int .i64 0, .int .i64 0, .int .i64 0, .int .i64 0]) := (by kernel_rfl : (Tryd.prog.info? 58).map (·.zero) = some (some (.agg #[.int .i64 0, .int .i64 0, .int .i64 0, .int .i64 0, .int .i64 0, .int .i64 0, .int .i64 0, .int .i64 0, .int .i64 0, .int .i64 0, .int .i64 0, .int .i64 0, .int .i64 0, .int .i64 0, .int .i64 0, .int .i64 0, .int .i64 0, .int .i64 0, .int .i64 0, .int .i64 0, .int .i64 0, .int .i64 0, .int .i64 0, .int .i64 0, .int .i64 0, .int .i64 0, .int .i64 0, .int .i64 0, .int .i64 0, .int .i64 0, .int .i64 0, .int .i64 0, .int .i64 0, .int .i64 0, .int .i64 0, .int .i64 0, .int .i64 0, .int .i64 0, .int .i64 0, .int .i64 0, .int .i64 0, .int .i64 0, .int .i64 0, .int .i64 0, .int .i64 0])))
theorem xb : qj Tryd.prog 61 2 := (by kernel_rfl : (Tryd.prog.info? 61).map (·.size) = some 2)
theorem zr61 : jo Tryd.prog 61 (.agg #[.bool false, .slice none 0 0]) := (by kernel_rfl : (Tryd.prog.info? 61).map (·.zero) = some (some (.agg #[.bool false, .slice none 0 0])))
theorem sz75 : qj Tryd.prog 75 1 := (by kernel_rfl : (Tryd.prog.info? 75).map (·.size) = some 1)
theorem ziq : qj Tryd.prog 88 1 := (by kernel_rfl : (Tryd.prog.info? 88).map (·.size) = some 1)
theorem xn : qj Tryd.prog 123 800 := (by kernel_rfl : (Tryd.prog.info? 123).map (·.size) = some 800)
theorem zr138 : jo Tryd.prog 138 (.agg #[.int .u64 0, .int .u64 0, .int .i64 0]) := (by kernel_rfl : (Tryd.prog.info? 138).map (·.zero) = some (some (.agg #[.int .u64 0, .int .u64 0, .int .i64 0])))
theorem sz156 : qj Tryd.prog 156 2 := (by kernel_rfl : (Tryd.prog.info? 156).map (·.size) = some 2)
theorem sz167 : qj Tryd.prog 167 2 := (by kernel_rfl : (Tryd.prog.info? 167).map (·.size) = some 2)
theorem inf3 : zmx Tryd.prog 3 (.int .i64 0) 1 8 := (by kernel_rfl : (Tryd.prog.info? 3).map (fun i => (i.zero, i.size, i.bytes)) = some (some (.int .i64 0), 1, 8))
theorem inf9 : zmx Tryd.prog 9 (.string ⟨#[]⟩) 1 16 := (by kernel_rfl : (Tryd.prog.info? 9).map (fun i => (i.zero, i.size, i.bytes)) = some (some (.string ⟨#[]⟩), 1, 16))
theorem pl24 : Places Tryd.prog 24 [(0, 1)] := ⟨_, Tryd.underlying24, by kernel_rfl⟩
theorem inf30 : zmx Tryd.prog 30 (.int .u64 0) 1 8 := (by kernel_rfl : (Tryd.prog.info? 30).map (fun i => (i.zero, i.size, i.bytes)) = some (some (.int .u64 0), 1, 8))
theorem pl37 : Places Tryd.prog 37 [(0, 1), (1, 1), (2, 1), (3, 1), (4, 1), (5, 1), (6, 1), (7, 1), (8, 1), (9, 1)] := ⟨_, Tryd.underlying37, by kernel_rfl⟩
theorem pl40 : Places Tryd.prog 40 [(0, 1), (1, 1), (2, 1), (3, 1), (4, 1), (5, 1), (6, 1)] := ⟨_, Tryd.underlying40, by kernel_rfl⟩
theorem pl61 : Places Tryd.prog 61 [(0, 1), (1, 1)] := ⟨_, Tryd.underlying61, by kernel_rfl⟩
theorem en5 : vv Tryd.prog 5 := ⟨_, Tryd.func5, by kernel_rfl, by kernel_rfl⟩
theorem en6 : vv Tryd.prog 6 := ⟨_, Tryd.func6, by kernel_rfl, by kernel_rfl⟩
theorem en8 : vv Tryd.prog 8 := ⟨_, Tryd.func8, by kernel_rfl, by kernel_rfl⟩
theorem en9 : vv Tryd.prog 9 := ⟨_, Tryd.func9, by kernel_rfl, by kernel_rfl⟩
theorem en10 : vv Tryd.prog 10 := ⟨_, Tryd.func10, by kernel_rfl, by kernel_rfl⟩
theorem en11 : vv Tryd.prog 11 := ⟨_, Tryd.func11, by kernel_rfl, by kernel_rfl⟩
theorem en12 : vv Tryd.prog 12 := ⟨_, Tryd.func12, by kernel_rfl, by kernel_rfl⟩
theorem en13 : vv Tryd.prog 13 := ⟨_, Tryd.func13, by kernel_rfl, by kernel_rfl⟩
theorem en14 : vv Tryd.prog 14 := ⟨_, Tryd.func14, by kernel_rfl, by kernel_rfl⟩
theorem en16 : vv Tryd.prog 16 := ⟨_, Tryd.func16, by kernel_rfl, by kernel_rfl⟩
theorem en17 : vv Tryd.prog 17 := ⟨_, Tryd.func17, by kernel_rfl, by kernel_rfl⟩
theorem en18 : vv Tryd.prog 18 := ⟨_, Tryd.func18, by kernel_rfl, by kernel_rfl⟩
theorem en19 : vv Tryd.prog 19 := ⟨_, Tryd.func19, by kernel_rfl, by kernel_rfl⟩
theorem en20 : vv Tryd.prog 20 := ⟨_, Tryd.func20, by kernel_rfl, by kernel_rfl⟩
theorem en21 : vv Tryd.prog 21 := ⟨_, Tryd.func21, by kernel_rfl, by kernel_rfl⟩
theorem en22 : vv Tryd.prog 22 := ⟨_, Tryd.func22, by kernel_rfl, by kernel_rfl⟩
theorem en23 : vv Tryd.prog 23 := ⟨_, Tryd.func23, by kernel_rfl, by kernel_rfl⟩
theorem en24 : vv Tryd.prog 24 := ⟨_, Tryd.func24, by kernel_rfl, by kernel_rfl⟩
theorem en25 : vv Tryd.prog 25 := ⟨_, Tryd.func25, by kernel_rfl, by kernel_rfl⟩
theorem en26 : vv Tryd.prog 26 := ⟨_, Tryd.func26, by kernel_rfl, by kernel_rfl⟩
theorem en27 : vv Tryd.prog 27 := ⟨_, Tryd.func27, by kernel_rfl, by kernel_rfl⟩
theorem en28 : vv Tryd.prog 28 := ⟨_, Tryd.func28, by kernel_rfl, by kernel_rfl⟩
theorem en29 : vv Tryd.prog 29 := ⟨_, Tryd.func29, by kernel_rfl, by kernel_rfl⟩
theorem en30 : vv Tryd.prog 30 := ⟨_, Tryd.func30, by kernel_rfl, by kernel_rfl⟩
theorem en32 : vv Tryd.prog 32 := ⟨_, Tryd.func32, by kernel_rfl, by kernel_rfl⟩
theorem en33 : vv Tryd.prog 33 := ⟨_, Tryd.func33, by kernel_rfl, by kernel_rfl⟩
theorem en35 : vv Tryd.prog 35 := ⟨_, Tryd.func35, by kernel_rfl, by kernel_rfl⟩
theorem en36 : vv Tryd.prog 36 := ⟨_, Tryd.func36, by kernel_rfl, by kernel_rfl⟩
theorem en37 : vv Tryd.prog 37 := ⟨_, Tryd.func37, by kernel_rfl, by kernel_rfl⟩
theorem en39 : vv Tryd.prog 39 := ⟨_, Tryd.func39, by kernel_rfl, by kernel_rfl⟩
theorem en45 : vv Tryd.prog 45 := ⟨_, Tryd.func45, by kernel_rfl, by kernel_rfl⟩
theorem en46 : vv Tryd.prog 46 := ⟨_, Tryd.func46, by kernel_rfl, by kernel_rfl⟩
theorem en51 : vv Tryd.prog 51 := ⟨_, Tryd.func51, by kernel_rfl, by kernel_rfl⟩
theorem en53 : vv Tryd.prog 53 := ⟨_, Tryd.func53, by kernel_rfl, by kernel_rfl⟩
theorem en54 : vv Tryd.prog 54 := ⟨_, Tryd.func54, by kernel_rfl, by kernel_rfl⟩
theorem en60 : vv Tryd.prog 60 := ⟨_, Tryd.func60, by kernel_rfl, by kernel_rfl⟩
theorem en61 : vv Tryd.prog 61 := ⟨_, Tryd.func61, by kernel_rfl, by kernel_rfl⟩
theorem en62 : vv Tryd.prog 62 := ⟨_, Tryd.func62, by kernel_rfl, by kernel_rfl⟩
theorem en64 : vv Tryd.prog 64 := ⟨_, Tryd.func64, by kernel_rfl, by kernel_rfl⟩
theorem en65 : vv Tryd.prog 65 := ⟨_, Tryd.func65, by kernel_rfl, by kernel_rfl⟩
theorem en67 : vv Tryd.prog 67 := ⟨_, Tryd.func67, by kernel_rfl, by kernel_rfl⟩
theorem en70 : vv Tryd.prog 70 := ⟨_, Tryd.func70, by kernel_rfl, by kernel_rfl⟩
theorem en71 : vv Tryd.prog 71 := ⟨_, Tryd.func71, by kernel_rfl, by kernel_rfl⟩
theorem en72 : vv Tryd.prog 72 := ⟨_, Tryd.func72, by kernel_rfl, by kernel_rfl⟩
theorem en73 : vv Tryd.prog 73 := ⟨_, Tryd.func73, by kernel_rfl, by kernel_rfl⟩
theorem en74 : vv Tryd.prog 74 := ⟨_, Tryd.func74, by kernel_rfl, by kernel_rfl⟩
theorem en75 : vv Tryd.prog 75 := ⟨_, Tryd.func75, by kernel_rfl, by kernel_rfl⟩
theorem en77 : vv Tryd.prog 77 := ⟨_, Tryd.func77, by kernel_rfl, by kernel_rfl⟩
theorem en78 : vv Tryd.prog 78 := ⟨_, Tryd.func78, by kernel_rfl, by kernel_rfl⟩
theorem en79 : vv Tryd.prog 79 := ⟨_, Tryd.func79, by kernel_rfl, by kernel_rfl⟩
theorem en80 : vv Tryd.prog 80 := ⟨_, Tryd.func80, by kernel_rfl, by kernel_rfl⟩
theorem en85 : vv Tryd.prog 85 := ⟨_, Tryd.func85, by kernel_rfl, by kernel_rfl⟩
theorem en86 : vv Tryd.prog 86 := ⟨_, Tryd.func86, by kernel_rfl, by kernel_rfl⟩
theorem en87 : vv Tryd.prog 87 := ⟨_, Tryd.func87, by kernel_rfl, by kernel_rfl⟩
theorem en88 : vv Tryd.prog 88 := ⟨_, Tryd.func88, by kernel_rfl, by kernel_rfl⟩
theorem en92 : vv Tryd.prog 92 := ⟨_, Tryd.func92, by kernel_rfl, by kernel_rfl⟩
theorem en93 : vv Tryd.prog 93 := ⟨_, Tryd.func93, by kernel_rfl, by kernel_rfl⟩
theorem mixed : Tryd.prog.follows .mixedOrders = true := by kernel_rfl
end Go.Proofs.YtmjbnhjgebjhlaaDoor
