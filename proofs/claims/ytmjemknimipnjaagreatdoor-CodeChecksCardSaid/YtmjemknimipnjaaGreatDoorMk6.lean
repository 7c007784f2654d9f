/- Texts of this claim. -/
import Derived.Test.YtmjemknimipnjaaGreatDoorMk5
import Derived.Test.YtmjemknimipnjaaGreatDoorProg
import Derived.KernelRfl
namespace Go.Proofs.YtmjemknimipnjaaGreatDoor
theorem sz3 : qv Tryz.prog 3 1 := (by kernel_rfl : (Tryz.prog.info? 3).map (·.size) = some 1)
theorem zr3 : jn Tryz.prog 3 (.int .i64 0) := (by kernel_rfl : (Tryz.prog.info? 3).map (·.zero) = some (some (.int .i64 0)))
theorem sz4 : qv Tryz.prog 4 1 := (by kernel_rfl : (Tryz.prog.info? 4).map (·.size) = some 1)
theorem sz5 : qv Tryz.prog 5 1 := (by kernel_rfl : (Tryz.prog.info? 5).map (·.size) = some 1)
theorem zr5 : jn Tryz.prog 5 (.int .u8 0) := (by kernel_rfl : (Tryz.prog.info? 5).map (·.zero) = some (some (.int .u8 0)))
theorem sz9 : qv Tryz.prog 9 1 := (by kernel_rfl : (Tryz.prog.info? 9).map (·.size) = some 1)
theorem zr9 : jn Tryz.prog 9 (.string ⟨#[]⟩) := (by kernel_rfl : (Tryz.prog.info? 9).map (·.zero) = some (some (.string ⟨#[]⟩)))
theorem sz22 : qv Tryz.prog 22 1 := (by kernel_rfl : (Tryz.prog.info? 22).map (·.size) = some 1)
theorem sz24 : qv Tryz.prog 24 1 := (by kernel_rfl : (Tryz.prog.info? 24).map (·.size) = some 1)
theorem zr24 : jn Tryz.prog 24 (.agg #[.slice none 0 0]) := (by kernel_rfl : (Tryz.prog.info? 24).map (·.zero) = some (some (.agg #[.slice none 0 0])))
theorem sz32 : qv Tryz.prog 32 1 := (by kernel_rfl : (Tryz.prog.info? 32).map (·.size) = some 1)
theorem sz33 : qv Tryz.prog 33 1 := (by kernel_rfl : (Tryz.prog.info? 33).map (·.size) = some 1)
theorem sz34 : qv Tryz.prog 34 1 := (by kernel_rfl : (Tryz.prog.info? 34).map (·.size) = some 1)
theorem sz35 : qv Tryz.prog 35 1 := (by kernel_rfl : (Tryz.prog.info? 35).map (·.size) = some 1)
theorem zkv : qv Tryz.prog 37 10 := (by kernel_rfl : (Tryz.prog.info? 37).map (·.size) = some 10)
theorem zr37 : jn Tryz.prog 37 (.agg #[.string ⟨#[]⟩, .int .i64 0, .int .i64 0, .int .i64 0, .bool false, .int .i64 0, .slice none 0 0, .slice none 0 0, .slice none 0 0, .slice none 0 0]) := (by kernel_rfl : (Tryz.prog.info? 37).map (·.zero) = some (some (.agg #[.string ⟨#[]⟩, .int .i64 0, .int .i64 0, .int .i64 0, .bool false, .int .i64 0, .slice none 0 0, .slice none 0 0, .slice none 0 0, .slice none 0 0])))
theorem sz41 : qv Tryz.prog 41 4 := (by kernel_rfl : (Tryz.prog.info? 41).map (·.size) = some 4)
theorem zr41 : jn Tryz.prog 41 (.agg #[.int .i64 0, .int .i64 0, .int .i64 0, .int .i64 0]) := (by kernel_rfl : (Tryz.prog.info? 41).map (·.zero) = some (some (.agg #[.int .i64 0, .int .i64 0, .int .i64 0, .int .i64 0])))
theorem zsx : qv Tryz.prog 44 1 := (by kernel_rfl : (Tryz.prog.info? 44).map (·.size) = some 1)
theorem sz46 : qv Tryz.prog 46 7 := (by kernel_rfl : (Tryz.prog.info? 46).map (·.size) = some 7)
theorem zr46 : jn Tryz.prog 46 (.agg #[.int .i64 0, .int .i64 0, .int .i64 0, .int .i64 0, .int .i64 0, .int .i64 0, .slice none 0 0]) := (by kernel_rfl : (Tryz.prog.info? 46).map (·.zero) = some (some (.agg #[.int .i64 0, .int .i64 0, .int .i64 0, .int .i64 0, .int .i64 0, .int .i64 0, .slice none 0 0])))
theorem sz50 : qv Tryz.prog 50 2 := (by kernel_rfl : (Tryz.prog.info? 50).map (·.size) = some 2)
theorem zr50 : jn Tryz.prog 50 (.agg #[.int .i64 0, .string ⟨#[]⟩]) := (by kernel_rfl : (Tryz.prog.info? 50).map (·.zero) = some (some (.agg #[.int .i64 0, .string ⟨#[]⟩])))
theorem yl : qv Tryz.prog 55 9 := (by kernel_rfl : (Tryz.prog.info? 55).map (·.size) = some 9)
theorem zrv : jn Tryz.prog 55 (.agg #[.bool false, .bool false, .bool false, .bool false, .bool false, .int .i64 0, .int .i64 0, .int .i64 0, .int .i64 0]) := (by kernel_rfl : (Tryz.prog.info? 55).map (·.zero) = some (some (.agg #[.bool false, .bool false, .bool false, .bool false, .bool false, .int .i64 0, .int .i64 0, .int .i64 0, .int .i64 0])))
theorem xq : qv Tryz.prog 61 2 := (by kernel_rfl : (Tryz.prog.info? 61).map (·.size) = some 2)
theorem zr61 : jn Tryz.prog 61 (.agg #[.bool false, .slice none 0 0]) := (by kernel_rfl : (Tryz.prog.info? 61).map (·.zero) = some (some (.agg #[.bool false, .slice none 0 0])))
theorem sz64 : qv Tryz.prog 64 1 := (by kernel_rfl : (Tryz.prog.info? 64).map (·.size) = some 1)
theorem zr64 : jn Tryz.prog 64 (.int .u64 0) := (by kernel_rfl : (Tryz.prog.info? 64).map (·.zero) = some (some (.int .u64 0)))
theorem sz67 : qv Tryz.prog 67 45 := (by kernel_rfl : (Tryz.prog.info? 67).map (·.size) = some 45)
theorem zr67 : jn Tryz.prog 67 (.agg #[.int .i64 0, .int .i64 0, .int .i64 0, .int .i64 0, .int .i64 0, .int .i64 0, .int .i64 0, .int .i64 0, .int .i64 0, .int .i64 0, .int .i64 0, .int .i64 0, .int .i64 0, .int .i64 0, .int .i64 0, .int .i64 0, .int .i64 0, .int .i64 0, .int .i64 0, .int .i64 0, .int .i64 0, .int .i64 0, .int .i64 0, .int .i64 0, .int .i64 0, .int .i64 0, .int .i64 0, .int .i64 0, .int .i64 0, .int .i64 0, .int .i64 0, .int .i64 0, .int .i64 0, .int .i64 0, .int .i64 0, .int .i64 0, .int .i64 0, .int .i64 0, .int .i64 0, .int .i64 0, .int .i64 0, .int .i64 0, .int .i64 0, .int .i64 0, .int .i64 0]) := (by kernel_rfl : (Tryz.prog.info? 67).map (·.zero) = some (some (.agg #[.int .i64 0, .int .i64 0, .int .i64 0, .int .i64 0, .int .i64 0, .int .i64 0, .int .i64 0, .int .i64 0, .int .i64 0, .int .i64 0, .int .i64 0, .int .i64 0, .int .i64 0, .int .i64 0, .int .i64 0, .int .i64 0, .int .i64 0, .int .i64 0, .int .i64 0, .int .i64 0, .int .i64 0, .int .i64 0, .int .i64 0, .int .i64 0, .int .i64 0, .int .i64 0, .int .i64 0, .int .i64 0, .int .i64 0, .int .i64 0, .int .i64 0, .int .i64 0, .int .i64 0, .int .i64 0, .int .i64 0, .int .i64 0, .int .i64 0, .int .i64 0, .int .i64 0, .int .i64 0, .int .i64 0, .int .i64 0, .int .i64 0, .int .i64 0, .int .i64 0])))
theorem zdv : qv Tryz.prog 72 2 := (by kernel_rfl : (Tryz.prog.info? 72).map (·.size) = some 2)
theorem zr72 : jn Tryz.prog 72 (.agg #[.bool false, .slice none 0 0]) := (by kernel_rfl : (Tryz.prog.info? 72).map (·.zero) = some (some (.agg #[.bool false, .slice none 0 0])))
theorem sz84 : qv Tryz.prog 84 1 := (by kernel_rfl : (Tryz.prog.info? 84).map (·.size) = some 1)
theorem xt : qv Tryz.prog 100 1 := (by kernel_rfl : (Tryz.prog.info? 100).map (·.size) = some 1)
theorem od : qv Tryz.prog 134 800 := (by kernel_rfl : (Tryz.prog.info? 134).map (·.size) = some 800)
theorem zr149 : jn Tryz.prog 149 (.agg #[.int .u64 0, .int .u64 0, .int .i64 0]) := (by kernel_rfl : (Tryz.prog.info? 149).map (·.zero) = some (some (.agg #[.int .u64 0, .int .u64 0, .int .i64 0])))
theorem sz167 : qv Tryz.prog 167 2 := (by kernel_rfl : (Tryz.prog.info? 167).map (·.size) = some 2)
theorem sz178 : qv Tryz.prog 178 2 := (by kernel_rfl : (Tryz.prog.info? 178).map (·.size) = some 2)
theorem inf3 : ygx Tryz.prog 3 (.int .i64 0) 1 8 := (by kernel_rfl : (Tryz.prog.info? 3).map (fun i => (i.zero, i.size, i.bytes)) = some (some (.int .i64 0), 1, 8))
theorem inf5 : ygx Tryz.prog 5 (.int .u8 0) 1 1 := (by kernel_rfl : (Tryz.prog.info? 5).map (fun i => (i.zero, i.size, i.bytes)) = some (some (.int .u8 0), 1, 1))
theorem inf9 : ygx Tryz.prog 9 (.string ⟨#[]⟩) 1 16 := (by kernel_rfl : (Tryz.prog.info? 9).map (fun i => (i.zero, i.size, i.bytes)) = some (some (.string ⟨#[]⟩), 1, 16))
theorem pl24 : zuv Tryz.prog 24 [(0, 1)] := ⟨_, Tryz.underlying24, by kernel_rfl⟩
theorem pl37 : zuv Tryz.prog 37 [(0, 1), (1, 1), (2, 1), (3, 1), (4, 1), (5, 1), (6, 1), (7, 1), (8, 1), (9, 1)] := ⟨_, Tryz.underlying37, by kernel_rfl⟩
theorem pl46 : zuv Tryz.prog 46 [(0, 1), (1, 1), (2, 1), (3, 1), (4, 1), (5, 1), (6, 1)] := ⟨_, Tryz.underlying46, by kernel_rfl⟩
theorem pl55 : zuv Tryz.prog 55 [(0, 1), (1, 1), (2, 1), (3, 1), (4, 1), (5, 1), (6, 1), (7, 1), (8, 1)] := ⟨_, Tryz.underlying55, by kernel_rfl⟩
theorem pl61 : zuv Tryz.prog 61 [(0, 1), (1, 1)] := ⟨_, Tryz.underlying61, by kernel_rfl⟩
theorem inf64 : ygx Tryz.prog 64 (.int .u64 0) 1 8 := (by kernel_rfl : (Tryz.prog.info? 64).map (fun i => (i.zero, i.size, i.bytes)) = some (some (.int .u64 0), 1, 8))
theorem pl72 : zuv Tryz.prog 72 [(0, 1), (1, 1)] := ⟨_, Tryz.underlying72, by kernel_rfl⟩
theorem en4 : vh Tryz.prog 4 := ⟨_, Tryz.func4, by kernel_rfl, by kernel_rfl⟩
theorem en5 : vh Tryz.prog 5 := ⟨_, Tryz.func5, by kernel_rfl, by kernel_rfl⟩
theorem en6 : vh Tryz.prog 6 := ⟨_, Tryz.func6, by kernel_rfl, by kernel_rfl⟩
theorem en7 : vh Tryz.prog 7 := ⟨_, Tryz.func7, by kernel_rfl, by kernel_rfl⟩
theorem en8 : vh Tryz.prog 8 := ⟨_, Tryz.func8, by kernel_rfl, by kernel_rfl⟩
theorem en9 : vh Tryz.prog 9 := ⟨_, Tryz.func9, by kernel_rfl, by kernel_rfl⟩
theorem en10 : vh Tryz.prog 10 := ⟨_, Tryz.func10, by kernel_rfl, by kernel_rfl⟩
theorem en11 : vh Tryz.prog 11 := ⟨_, Tryz.func11, by kernel_rfl, by kernel_rfl⟩
theorem en12 : vh Tryz.prog 12 := ⟨_, Tryz.func12, by kernel_rfl, by kernel_rfl⟩
theorem en13 : vh Tryz.prog 13 := ⟨_, Tryz.func13, by kernel_rfl, by kernel_rfl⟩
theorem en14 : vh Tryz.prog 14 := ⟨_, Tryz.func14, by kernel_rfl, by kernel_rfl⟩
theorem en15 : vh Tryz.prog 15 := ⟨_, Tryz.func15, by kernel_rfl, by kernel_rfl⟩
theorem en16 : vh Tryz.prog 16 := ⟨_, Tryz.func16, by kernel_rfl, by kernel_rfl⟩
theorem en17 : vh Tryz.prog 17 := ⟨_, Tryz.func17, by kernel_rfl, by kernel_rfl⟩
theorem en18 : vh Tryz.prog 18 := ⟨_, Tryz.func18, by kernel_rfl, by kernel_rfl⟩
theorem en19 : vh Tryz.prog 19 := ⟨_, Tryz.func19, by kernel_rfl, by kernel_rfl⟩
theorem en20 : vh Tryz.prog 20 := ⟨_, Tryz.func20, by kernel_rfl, by kernel_rfl⟩
theorem en21 : vh Tryz.prog 21 := ⟨_, Tryz.func21, by kernel_rfl, by kernel_rfl⟩
theorem en22 : vh Tryz.prog 22 := ⟨_, Tryz.func22, by kernel_rfl, by kernel_rfl⟩
theorem en23 : vh Tryz.prog 23 := ⟨_, Tryz.func23, by kernel_rfl, by kernel_rfl⟩
theorem en24 : vh Tryz.prog 24 := ⟨_, Tryz.func24, by kernel_rfl, by kernel_rfl⟩
theorem en25 : vh Tryz.prog 25 := ⟨_, Tryz.func25, by kernel_rfl, by kernel_rfl⟩
theorem en26 : vh Tryz.prog 26 := ⟨_, Tryz.func26, by kernel_rfl, by kernel_rfl⟩
theorem en27 : vh Tryz.prog 27 := ⟨_, Tryz.func27, by kernel_rfl, by kernel_rfl⟩
theorem en28 : vh Tryz.prog 28 := ⟨_, Tryz.func28, by kernel_rfl, by kernel_rfl⟩
theorem en29 : vh Tryz.prog 29 := ⟨_, Tryz.func29, by kernel_rfl, by kernel_rfl⟩
theorem en30 : vh Tryz.prog 30 := ⟨_, Tryz.func30, by kernel_rfl, by kernel_rfl⟩
theorem en31 : vh Tryz.prog 31 := ⟨_, Tryz.func31, by kernel_rfl, by kernel_rfl⟩
theorem en32 : vh Tryz.prog 32 := ⟨_, Tryz.func32, by kernel_rfl, by kernel_rfl⟩
theorem en33 : vh Tryz.prog 33 := ⟨_, Tryz.func33, by kernel_rfl, by kernel_rfl⟩
theorem en34 : vh Tryz.prog 34 := ⟨_, Tryz.func34, by kernel_rfl, by kernel_rfl⟩
theorem en35 : vh Tryz.prog 35 := ⟨_, Tryz.func35, by kernel_rfl, by kernel_rfl⟩
theorem en36 : vh Tryz.prog 36 := ⟨_, Tryz.func36, by kernel_rfl, by kernel_rfl⟩
theorem en37 : vh Tryz.prog 37 := ⟨_, Tryz.func37, by kernel_rfl, by kernel_rfl⟩
theorem en38 : vh Tryz.prog 38 := ⟨_, Tryz.func38, by kernel_rfl, by kernel_rfl⟩
theorem en41 : vh Tryz.prog 41 := ⟨_, Tryz.func41, by kernel_rfl, by kernel_rfl⟩
theorem en42 : vh Tryz.prog 42 := ⟨_, Tryz.func42, by kernel_rfl, by kernel_rfl⟩
theorem en44 : vh Tryz.prog 44 := ⟨_, Tryz.func44, by kernel_rfl, by kernel_rfl⟩
theorem en45 : vh Tryz.prog 45 := ⟨_, Tryz.func45, by kernel_rfl, by kernel_rfl⟩
theorem en46 : vh Tryz.prog 46 := ⟨_, Tryz.func46, by kernel_rfl, by kernel_rfl⟩
theorem en47 : vh Tryz.prog 47 := ⟨_, Tryz.func47, by kernel_rfl, by kernel_rfl⟩
theorem en48 : vh Tryz.prog 48 := ⟨_, Tryz.func48, by kernel_rfl, by kernel_rfl⟩
theorem en54 : vh Tryz.prog 54 := ⟨_, Tryz.func54, by kernel_rfl, by kernel_rfl⟩
theorem en55 : vh Tryz.prog 55 := ⟨_, Tryz.func55, by kernel_rfl, by kernel_rfl⟩
theorem en60 : vh Tryz.prog 60 := ⟨_, Tryz.func60, by kernel_rfl, by kernel_rfl⟩
theorem en62 : vh Tryz.prog 62 := ⟨_, Tryz.func62, by kernel_rfl, by kernel_rfl⟩
theorem en63 : vh Tryz.prog 63 := ⟨_, Tryz.func63, by kernel_rfl, by kernel_rfl⟩
theorem en69 : vh Tryz.prog 69 := ⟨_, Tryz.func69, by kernel_rfl, by kernel_rfl⟩
theorem en70 : vh Tryz.prog 70 := ⟨_, Tryz.func70, by kernel_rfl, by kernel_rfl⟩
theorem en71 : vh Tryz.prog 71 := ⟨_, Tryz.func71, by kernel_rfl, by kernel_rfl⟩
theorem en73 : vh Tryz.prog 73 := ⟨_, Tryz.func73, by kernel_rfl, by kernel_rfl⟩
theorem en74 : vh Tryz.prog 74 := ⟨_, Tryz.func74, by kernel_rfl, by kernel_rfl⟩
theorem en76 : vh Tryz.prog 76 := ⟨_, Tryz.func76, by kernel_rfl, by kernel_rfl⟩
theorem en79 : vh Tryz.prog 79 := ⟨_, Tryz.func79, by kernel_rfl, by kernel_rfl⟩
theorem en80 : vh Tryz.prog 80 := ⟨_, Tryz.func80, by kernel_rfl, by kernel_rfl⟩
theorem en81 : vh Tryz.prog 81 := ⟨_, Tryz.func81, by kernel_rfl, by kernel_rfl⟩
theorem en82 : vh Tryz.prog 82 := ⟨_, Tryz.func82, by kernel_rfl, by kernel_rfl⟩
theorem en83 : vh Tryz.prog 83 := ⟨_, Tryz.func83, by kernel_rfl, by kernel_rfl⟩
theorem en84 : vh Tryz.prog 84 := ⟨_, Tryz.func84, by kernel_rfl, by kernel_rfl⟩
theorem en86 : vh Tryz.prog 86 := ⟨_, Tryz.func86, by kernel_rfl, by kernel_rfl⟩
theorem en87 : vh Tryz.prog 87 := ⟨_, Tryz.func87, by kernel_rfl, by kernel_rfl⟩
theorem en88 : vh Tryz.prog 88 := ⟨_, Tryz.func88, by kernel_rfl, by kernel_rfl⟩
theorem en89 : vh Tryz.prog 89 := ⟨_, Tryz.func89, by kernel_rfl, by kernel_rfl⟩
theorem en94 : vh Tryz.prog 94 := ⟨_, Tryz.func94, by kernel_rfl, by kernel_rfl⟩
theorem en95 : vh Tryz.prog 95 := ⟨_, Tryz.func95, by kernel_rfl, by kernel_rfl⟩
theorem en96 : vh Tryz.prog 96 := ⟨_, Tryz.func96, by kernel_rfl, by kernel_rfl⟩
theorem en97 : vh Tryz.prog 97 := ⟨_, Tryz.func97, by kernel_rfl, by kernel_rfl⟩
theorem en101 : vh Tryz.prog 101 := ⟨_, Tryz.func101, by kernel_rfl, by kernel_rfl⟩
theorem en102 : vh Tryz.prog 102 := ⟨_, Tryz.func102, by kernel_rfl, by kernel_rfl⟩
theorem mixed : Tryz.prog.follows .mixedOrders = true := by kernel_rfl
end Go.Proofs.YtmjemknimipnjaaGreatDoor
