/- Texts of this claim. -/
import Derived.Test.YtmjemknimipnjaaDoorMw5
import Derived.Test.YtmjemknimipnjaaDoorProg
import Derived.KernelRfl
namespace Go.Proofs.YtmjemknimipnjaaDoor
theorem sz3 : qp Tryd.prog 3 1 := (by kernel_rfl : (Tryd.prog.info? 3).map (·.size) = some 1)
theorem zr3 : js Tryd.prog 3 (.int .i64 0) := (by kernel_rfl : (Tryd.prog.info? 3).map (·.zero) = some (some (.int .i64 0)))
theorem sz4 : qp Tryd.prog 4 1 := (by kernel_rfl : (Tryd.prog.info? 4).map (·.size) = some 1)
theorem sz5 : qp Tryd.prog 5 1 := (by kernel_rfl : (Tryd.prog.info? 5).map (·.size) = some 1)
theorem sz9 : qp Tryd.prog 9 1 := (by kernel_rfl : (Tryd.prog.info? 9).map (·.size) = some 1)
theorem zr9 : js Tryd.prog 9 (.string ⟨#[]⟩) := (by kernel_rfl : (Tryd.prog.info? 9).map (·.zero) = some (some (.string ⟨#[]⟩)))
theorem sz22 : qp Tryd.prog 22 1 := (by kernel_rfl : (Tryd.prog.info? 22).map (·.size) = some 1)
theorem sz24 : qp Tryd.prog 24 1 := (by kernel_rfl : (Tryd.prog.info? 24).map (·.size) = some 1)
theorem zr24 : js Tryd.prog 24 (.agg #[.slice none 0 0]) := (by kernel_rfl : (Tryd.prog.info? 24).map (·.zero) = some (some (.agg #[.slice none 0 0])))
theorem sz30 : qp Tryd.prog 30 1 := (by kernel_rfl : (Tryd.prog.info? 30).map (·.size) = some 1)
theorem zr30 : js Tryd.prog 30 (.int .u64 0) := (by kernel_rfl : (Tryd.prog.info? 30).map (·.zero) = some (some (.int .u64 0)))
theorem sz32 : qp Tryd.prog 32 1 := (by kernel_rfl : (Tryd.prog.info? 32).map (·.size) = some 1)
theorem sz33 : qp Tryd.prog 33 1 := (by kernel_rfl : (Tryd.prog.info? 33).map (·.size) = some 1)
theorem sz34 : qp Tryd.prog 34 1 := (by kernel_rfl : (Tryd.prog.info? 34).map (·.size) = some 1)
theorem sz35 : qp Tryd.prog 35 1 := (by kernel_rfl : (Tryd.prog.info? 35).map (·.size) = some 1)
theorem sz37 : qp Tryd.prog 37 10 := (by kernel_rfl : (Tryd.prog.info? 37).map (·.size) = some 10)
theorem zr37 : js Tryd.prog 37 (.agg #[.string ⟨#[]⟩, .int .i64 0, .int .i64 0, .int .i64 0, .bool false, .int .i64 0, .slice none 0 0, .slice none 0 0, .slice none 0 0, .slice none 0 0]) := (by kernel_rfl : (Tryd.prog.info? 37).map (·.zero) = some (some (.agg #[.string ⟨#[]⟩, .int .i64 0, .int .i64 0, .int .i64 0, .bool false, .int .i64 0, .slice none 0 0, .slice none 0 0, .slice none 0 0, .slice none 0 0])))
theorem sz38 : qp Tryd.prog 38 1 := (by kernel_rfl : (Tryd.prog.info? 38).map (·.size) = some 1)
theorem sz40 : qp Tryd.prog 40 7 := (by kernel_rfl : (Tryd.prog.info? 40).map (·.size) = some 7)
theorem zr40 : js Tryd.prog 40 (.agg #[.int .i64 0, .int .i64 0, .int .i64 0, .int .i64 0, .int .i64 0, .int .i64 0, .slice none 0 0]) := (by kernel_rfl : (Tryd.prog.info? 40).map (·.zero) = some (some (.agg #[.int .i64 0, .int .i64 0, .int .i64 0, .int .i64 0, .int .i64 0, .int .i64 0, .slice none 0 0])))
theorem sz51 : qp Tryd.prog 51 4 := (by kernel_rfl : (Tryd.prog.info? 51).map (·.size) = some 4)
theorem zr51 : js Tryd.prog 51 (.agg #[.int .i64 0, .int .i64 0, .int .i64 0, .int .i64 0]) := (by kernel_rfl : (Tryd.prog.info? 51).map (·.zero) = some (some (.agg #[.int .i64 0, .int .i64 0, .int .i64 0, .int .i64 0])))
theorem sz56 : qp Tryd.prog 56 2 := (by kernel_rfl : (Tryd.prog.info? 56).map (·.size) = some 2)
theorem zr56 : js Tryd.prog 56 (.agg #[.int .i64 0, .string ⟨#[]⟩]) := (by kernel_rfl : (Tryd.prog.info? 56).map (·.zero) = some (some (.agg #[.int .i64 0, .string ⟨#[]⟩])))
theorem sz59 : qp Tryd.prog 59 45 := (by kernel_rfl : (Tryd.prog.info? 59).map (·.size) = some 45)
theorem zr59 : js Tryd.prog 59 (.agg #[.int .i64 0, .int .i64 0, .int .i64 0, .int .i64 0, .int .i64 0, .int .i64 0, .int .i64 0, .int .i64 0, .int .i64 0, .int .i64 0, .int .i64 0, .int .i64 0, .int .i64 0, .int .i64 0, .int .i64 0, .int .i64 0, .int .i64 0, .int .i64 0, .int .i64 0, .int .i64 0, .int .i64 0, .int .i64 0, .int .i64 0, .int .i64 0, .int .i64 0, .int .i64 0, .int .i64 0, .int .i64 0, .int .i64 0, .int .i64 0, .int .i64 0, .int .i64 0, .int .i64 0, .int .i64 0, .int .i64 0, .int .i64 0, .int .i64 0, .int .i64 0, .int .i64 0, .int .i64 0, .int .i64 0, .int .i64 0, .int .i64 0, .int .i64 0, .int .i64 0]) := (by kernel_rfl : (Tryd.prog.info? 59).map (·.zero) = some (some (.agg #[.int .i64 0, .int .i64 0, .int .i64 0, .int .i64 0, .int .i64 0, .int .i64 0, .int .i64 0, .int .i64 0, .int .i64 0, .int .i64 0, .int .i64 0, .int .i64 0, .int .i64 0, .int .i64 0, .int .i64 0, .int .i64 0, .int .i64 0, .int .i64 0, .int .i64 0, .int .i64 0, .int .i64 0, .int .i64 0, .int .i64 0, .int .i64 0, .int .i64 0, .int .i64 0, .int .i64 0, .int .i64 0, .int .i64 0, .int .i64 0, .int .i64 0, .int .i64 0, .int .i64 0, .int .i64 0, .int .i64 0, .int .i64 0, .int .i64 0, .int .i64 0, .int .i64 0, .int .i64 0, .int .i64 0, .int .i64 0, .int .i64 0, .int .i64 0, .int .i64 0])))
theorem xd : qp Tryd.prog 62 2 := (by kernel_rfl : (Tryd.prog.info? 62).map (·.size) = some 2)
theorem zr62 : js Tryd.prog 62 (.agg #[.bool false, .slice none 0 0]) := (by kernel_rfl : (Tryd.prog.info? 62).map (·.zero) = some (some (.agg #[.bool false, .slice none 0 0])))
theorem sz76 : qp Tryd.prog 76 1 := (by kernel_rfl : (Tryd.prog.info? 76).map (·.size) = some 1)
theorem zhx : qp Tryd.prog 89 1 := (by kernel_rfl : (Tryd.prog.info? 89).map (·.size) = some 1)
theorem xn : qp Tryd.prog 124 800 := (by kernel_rfl : (Tryd.prog.info? 124).map (·.size) = some 800)
theorem zr139 : js Tryd.prog 139 (.agg #[.int .u64 0, .int .u64 0, .int .i64 0]) := (by kernel_rfl : (Tryd.prog.info? 139).map (·.zero) = some (some (.agg #[.int .u64 0, .int .u64 0, .int .i64 0])))
theorem sz157 : qp Tryd.prog 157 2 := (by kernel_rfl : (Tryd.prog.info? 157).map (·.size) = some 2)
theorem sz168 : qp Tryd.prog 168 2 := (by kernel_rfl : (Tryd.prog.info? 168).map (·.size) = some 2)
theorem inf3 : InfoIs Tryd.prog 3 (.int .i64 0) 1 8 := (by kernel_rfl : (Tryd.prog.info? 3).map (fun i => (i.zero, i.size, i.bytes)) = some (some (.int .i64 0), 1, 8))
theorem inf9 : InfoIs Tryd.prog 9 (.string ⟨#[]⟩) 1 16 := (by kernel_rfl : (Tryd.prog.info? 9).map (fun i => (i.zero, i.size, i.bytes)) = some (some (.string ⟨#[]⟩), 1, 16))
theorem pl24 : Places Tryd.prog 24 [(0, 1)] := ⟨_, Tryd.underlying24, by kernel_rfl⟩
theorem inf30 : InfoIs Tryd.prog 30 (.int .u64 0) 1 8 := (by kernel_rfl : (Tryd.prog.info? 30).map (fun i => (i.zero, i.size, i.bytes)) = some (some (.int .u64 0), 1, 8))
theorem pl37 : Places Tryd.prog 37 [(0, 1), (1, 1), (2, 1), (3, 1), (4, 1), (5, 1), (6, 1), (7, 1), (8, 1), (9, 1)] := ⟨_, Tryd.underlying37, by kernel_rfl⟩
theorem pl40 : Places Tryd.prog 40 [(0, 1), (1, 1), (2, 1), (3, 1), (4, 1), (5, 1), (6, 1)] := ⟨_, Tryd.underlying40, by kernel_rfl⟩
theorem pl62 : Places Tryd.prog 62 [(0, 1), (1, 1)] := ⟨_, Tryd.underlying62, by kernel_rfl⟩
theorem en6 : vn Tryd.prog 6 := ⟨_, Tryd.func6, by kernel_rfl, by kernel_rfl⟩
theorem en7 : vn Tryd.prog 7 := ⟨_, Tryd.func7, by kernel_rfl, by kernel_rfl⟩
theorem en9 : vn Tryd.prog 9 := ⟨_, Tryd.func9, by kernel_rfl, by kernel_rfl⟩
theorem en10 : vn Tryd.prog 10 := ⟨_, Tryd.func10, by kernel_rfl, by kernel_rfl⟩
theorem en11 : vn Tryd.prog 11 := ⟨_, Tryd.func11, by kernel_rfl, by kernel_rfl⟩
theorem en12 : vn Tryd.prog 12 := ⟨_, Tryd.func12, by kernel_rfl, by kernel_rfl⟩
theorem en13 : vn Tryd.prog 13 := ⟨_, Tryd.func13, by kernel_rfl, by kernel_rfl⟩
theorem en14 : vn Tryd.prog 14 := ⟨_, Tryd.func14, by kernel_rfl, by kernel_rfl⟩
theorem en15 : vn Tryd.prog 15 := ⟨_, Tryd.func15, by kernel_rfl, by kernel_rfl⟩
theorem en17 : vn Tryd.prog 17 := ⟨_, Tryd.func17, by kernel_rfl, by kernel_rfl⟩
theorem en18 : vn Tryd.prog 18 := ⟨_, Tryd.func18, by kernel_rfl, by kernel_rfl⟩
theorem en19 : vn Tryd.prog 19 := ⟨_, Tryd.func19, by kernel_rfl, by kernel_rfl⟩
theorem en20 : vn Tryd.prog 20 := ⟨_, Tryd.func20, by kernel_rfl, by kernel_rfl⟩
theorem en21 : vn Tryd.prog 21 := ⟨_, Tryd.func21, by kernel_rfl, by kernel_rfl⟩
theorem en22 : vn Tryd.prog 22 := ⟨_, Tryd.func22, by kernel_rfl, by kernel_rfl⟩
theorem en23 : vn Tryd.prog 23 := ⟨_, Tryd.func23, by kernel_rfl, by kernel_rfl⟩
theorem en24 : vn Tryd.prog 24 := ⟨_, Tryd.func24, by kernel_rfl, by kernel_rfl⟩
theorem en25 : vn Tryd.prog 25 := ⟨_, Tryd.func25, by kernel_rfl, by kernel_rfl⟩
theorem en26 : vn Tryd.prog 26 := ⟨_, Tryd.func26, by kernel_rfl, by kernel_rfl⟩
theorem en27 : vn Tryd.prog 27 := ⟨_, Tryd.func27, by kernel_rfl, by kernel_rfl⟩
theorem en28 : vn Tryd.prog 28 := ⟨_, Tryd.func28, by kernel_rfl, by kernel_rfl⟩
theorem en29 : vn Tryd.prog 29 := ⟨_, Tryd.func29, by kernel_rfl, by kernel_rfl⟩
theorem en30 : vn Tryd.prog 30 := ⟨_, Tryd.func30, by kernel_rfl, by kernel_rfl⟩
theorem en31 : vn Tryd.prog 31 := ⟨_, Tryd.func31, by kernel_rfl, by kernel_rfl⟩
theorem en33 : vn Tryd.prog 33 := ⟨_, Tryd.func33, by kernel_rfl, by kernel_rfl⟩
theorem en34 : vn Tryd.prog 34 := ⟨_, Tryd.func34, by kernel_rfl, by kernel_rfl⟩
theorem en36 : vn Tryd.prog 36 := ⟨_, Tryd.func36, by kernel_rfl, by kernel_rfl⟩
theorem en37 : vn Tryd.prog 37 := ⟨_, Tryd.func37, by kernel_rfl, by kernel_rfl⟩
theorem en38 : vn Tryd.prog 38 := ⟨_, Tryd.func38, by kernel_rfl, by kernel_rfl⟩
theorem en40 : vn Tryd.prog 40 := ⟨_, Tryd.func40, by kernel_rfl, by kernel_rfl⟩
theorem en46 : vn Tryd.prog 46 := ⟨_, Tryd.func46, by kernel_rfl, by kernel_rfl⟩
theorem en47 : vn Tryd.prog 47 := ⟨_, Tryd.func47, by kernel_rfl, by kernel_rfl⟩
theorem en52 : vn Tryd.prog 52 := ⟨_, Tryd.func52, by kernel_rfl, by kernel_rfl⟩
theorem en54 : vn Tryd.prog 54 := ⟨_, Tryd.func54, by kernel_rfl, by kernel_rfl⟩
theorem en55 : vn Tryd.prog 55 := ⟨_, Tryd.func55, by kernel_rfl, by kernel_rfl⟩
theorem en61 : vn Tryd.prog 61 := ⟨_, Tryd.func61, by kernel_rfl, by kernel_rfl⟩
theorem en62 : vn Tryd.prog 62 := ⟨_, Tryd.func62, by kernel_rfl, by kernel_rfl⟩
theorem en63 : vn Tryd.prog 63 := ⟨_, Tryd.func63, by kernel_rfl, by kernel_rfl⟩
theorem en65 : vn Tryd.prog 65 := ⟨_, Tryd.func65, by kernel_rfl, by kernel_rfl⟩
theorem en66 : vn Tryd.prog 66 := ⟨_, Tryd.func66, by kernel_rfl, by kernel_rfl⟩
theorem en68 : vn Tryd.prog 68 := ⟨_, Tryd.func68, by kernel_rfl, by kernel_rfl⟩
theorem en71 : vn Tryd.prog 71 := ⟨_, Tryd.func71, by kernel_rfl, by kernel_rfl⟩
theorem en72 : vn Tryd.prog 72 := ⟨_, Tryd.func72, by kernel_rfl, by kernel_rfl⟩
theorem en73 : vn Tryd.prog 73 := ⟨_, Tryd.func73, by kernel_rfl, by kernel_rfl⟩
theorem en74 : vn Tryd.prog 74 := ⟨_, Tryd.func74, by kernel_rfl, by kernel_rfl⟩
theorem en75 : vn Tryd.prog 75 := ⟨_, Tryd.func75, by kernel_rfl, by kernel_rfl⟩
theorem en76 : vn Tryd.prog 76 := ⟨_, Tryd.func76, by kernel_rfl, by kernel_rfl⟩
theorem en78 : vn Tryd.prog 78 := ⟨_, Tryd.func78, by kernel_rfl, by kernel_rfl⟩
theorem en79 : vn Tryd.prog 79 := ⟨_, Tryd.func79, by kernel_rfl, by kernel_rfl⟩
theorem en80 : vn Tryd.prog 80 := ⟨_, Tryd.func80, by kernel_rfl, by kernel_rfl⟩
theorem en81 : vn Tryd.prog 81 := ⟨_, Tryd.func81, by kernel_rfl, by kernel_rfl⟩
theorem en86 : vn Tryd.prog 86 := ⟨_, Tryd.func86, by kernel_rfl, by kernel_rfl⟩
theorem en87 : vn Tryd.prog 87 := ⟨_, Tryd.func87, by kernel_rfl, by kernel_rfl⟩
theorem en88 : vn Tryd.prog 88 := ⟨_, Tryd.func88, by kernel_rfl, by kernel_rfl⟩
theorem en89 : vn Tryd.prog 89 := ⟨_, Tryd.func89, by kernel_rfl, by kernel_rfl⟩
theorem en93 : vn Tryd.prog 93 := ⟨_, Tryd.func93, by kernel_rfl, by kernel_rfl⟩
theorem en94 : vn Tryd.prog 94 := ⟨_, Tryd.func94, by kernel_rfl, by kernel_rfl⟩
theorem mixed : Tryd.prog.follows .mixedOrders = true := by kernel_rfl
end Go.Proofs.YtmjemknimipnjaaDoor
