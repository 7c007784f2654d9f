/- Texts of this claim. -/
import Derived.Test.YtppdgjlmeahimaaDoorC6
import Derived.Test.YtppdgjlmeahimaaDoorProg
import Derived.KernelRfl
namespace Go.Proofs.YtppdgjlmeahimaaDoor
theorem sz3 : qw Tryd.prog 3 1 := (by kernel_rfl : (Tryd.prog.info? 3).map (·.size) = some 1)
theorem zr3 : jo Tryd.prog 3 (.int .i64 0) := (by kernel_rfl : (Tryd.prog.info? 3).map (·.zero) = some (some (.int .i64 0)))
theorem sz4 : qw Tryd.prog 4 1 := (by kernel_rfl : (Tryd.prog.info? 4).map (·.size) = some 1)
theorem zr4 : jo Tryd.prog 4 (.bool false) := (by kernel_rfl : (Tryd.prog.info? 4).map (·.zero) = some (some (.bool false)))
theorem sz5 : qw Tryd.prog 5 1 := (by kernel_rfl : (Tryd.prog.info? 5).map (·.size) = some 1)
theorem ox : qw Tryd.prog 24 1 := (by kernel_rfl : (Tryd.prog.info? 24).map (·.size) = some 1)
theorem zez : qw Tryd.prog 25 1 := (by kernel_rfl : (Tryd.prog.info? 25).map (·.size) = some 1)
theorem xg : qw Tryd.prog 27 10 := (by kernel_rfl : (Tryd.prog.info? 27).map (·.size) = some 10)
theorem zr27 : jo Tryd.prog 27 (.agg #[.string ⟨#[]⟩, .int .i64 0, .int .i64 0, .int .i64 0, .bool false, .int .i64 0, .slice none 0 0, .slice none 0 0, .slice none 0 0, .slice none 0 0]) := (by kernel_rfl : (Tryd.prog.info? 27).map (·.zero) = some (some (.agg #[.string ⟨#[]⟩, .int .i64 0, .int .i64 0, .int .i64 0, .bool false, .int .i64 0, .slice none 0 0, .slice none 0 0, .slice none 0 0, .slice none 0 0])))
theorem km : qw Tryd.prog 28 1 := (by kernel_rfl : (Tryd.prog.info? 28).map (·.size) = some 1)
theorem zr28 : jo Tryd.prog 28 (.slice none 0 0) := (by kernel_rfl : (Tryd.prog.info? 28).map (·.zero) = some (some (.slice none 0 0)))
theorem xq : qw Tryd.prog 35 1 := (by kernel_rfl : (Tryd.prog.info? 35).map (·.size) = some 1)
theorem sz37 : qw Tryd.prog 37 2 := (by kernel_rfl : (Tryd.prog.info? 37).map (·.size) = some 2)
theorem zr37 : jo Tryd.prog 37 (.agg #[.int .i64 0, .string ⟨#[]⟩]) := (by kernel_rfl : (Tryd.prog.info? 37).map (·.zero) = some (some (.agg #[.int .i64 0, .string ⟨#[]⟩])))
theorem jg : qw Tryd.prog 41 7 := (by kernel_rfl : (Tryd.prog.info? 41).map (·.size) = some 7)
theorem zr41 : jo Tryd.prog 41 (.agg #[.int .i64 0, .int .i64 0, .int .i64 0, .int .i64 0, .int .i64 0, .int .i64 0, .slice none 0 0]) := (by kernel_rfl : (Tryd.prog.info? 41).map (·.zero) = some (some (.agg #[.int .i64 0, .int .i64 0, .int .i64 0, .int .i64 0, .int .i64 0, .int .i64 0, .slice none 0 0])))
theorem oc : qw Tryd.prog 50 4 := (by kernel_rfl : (Tryd.prog.info? 50).map (·.size) = some 4)
theorem zr50 : jo Tryd.prog 50 (.agg #[.int .i64 0, .int .i64 0, .int .i64 0, .int .i64 0]) := (by kernel_rfl : (Tryd.prog.info? 50).map (·.zero) = some (some (.agg #[.int .i64 0, .int .i64 0, .int .i64 0, .int .i64 0])))
theorem sz52 : qw Tryd.prog 52 1 := (by kernel_rfl : (Tryd.prog.info? 52).map (·.size) = some 1)
theorem zr52 : jo Tryd.prog 52 (.slice none 0 0) := (by kernel_rfl : (Tryd.prog.info? 52).map (·.zero) = some (some (.slice none 0 0)))
theorem zex : qw Tryd.prog 55 1 := (by kernel_rfl : (Tryd.prog.info? 55).map (·.size) = some 1)
theorem zr55 : jo Tryd.prog 55 (.slice none 0 0) := (by kernel_rfl : (Tryd.prog.info? 55).map (·.zero) = some (some (.slice none 0 0)))
theorem yh : qw Tryd.prog 68 9 := (by kernel_rfl : (Tryd.prog.info? 68).map (·.size) = some 9)
theorem zok : jo Tryd.prog 68 (.agg #[.bool false, .bool false, .bool false, .bool false, .bool false, .int .i64 0, .int .i64 0, .int .i64 0, .int .i64 0]) := (by kernel_rfl : (Tryd.prog.info? 68).map (·.zero) = some (some (.agg #[.bool false, .bool false, .bool false, .bool false, .bool false, .int .i64 0, .int .i64 0, .int .i64 0, .int .i64 0])))
theorem sz78 : qw Tryd.prog 78 1 := (by kernel_rfl : (Tryd.prog.info? 78).map (·.size) = some 1)
theorem xp : qw Tryd.prog 80 2 := (by kernel_rfl : (Tryd.prog.info? 80).map (·.size) = some 2)
theorem zak : jo Tryd.prog 80 (.agg #[.int .i64 0, .slice none 0 0]) := (by kernel_rfl : (Tryd.prog.info? 80).map (·.zero) = some (some (.agg #[.int .i64 0, .slice none 0 0])))
theorem sz82 : qw Tryd.prog 82 2 := (by kernel_rfl : (Tryd.prog.info? 82).map (·.size) = some 2)
theorem zr82 : jo Tryd.prog 82 (.agg #[.int .i64 0, .slice none 0 0]) := (by kernel_rfl : (Tryd.prog.info? 82).map (·.zero) = some (some (.agg #[.int .i64 0, .slice none 0 0])))
theorem sz89 : qw Tryd.prog 89 45 := (by kernel_rfl : (Tryd.prog.info? 89).map (·.size) = some 45)
theorem zr89 : jo Tryd.prog 89 (.agg #[.int .i64 0, .int .i64 0, .int .i64 0, .int .i64 0, .int .i64 0, .int .i64 0, .int .i64 0, .int .i64 0, .int .i64 0, .int .i64 0, .int .i64 0, .int .i64 0, .int .i64 0, .int .i64 0, .int .i64 0, .int .i64 0, .int .i64 0, .int .i64 0, .int .i64 0, .int .i64 0, .int .i64 0, .int .i64 0, .int .i64 0, .int .i64 0, .int .i64 0, .int .i64 0, .int .i64 0, .int .i64 0, .int .i64 0, .int .i64 0, .int .i64 0, .int .i64 0, .int .i64 0, .int .i64 0, .int .i64 0, .int .i64 0, .int .i64 0, .int .i64 0, .int .i64 0, .int .i64 0, .int .i64 0, .int .i64 0, .int .i64 0, .int .i64 0, .int .i64 0]) := (by kernel_rfl : (Tryd.prog.info? 89).map (·.zero) = some (some (.agg #[.int .i64 0, .int .i64 0, .int .i64 0, .int .i64 0, .int .i64 0, .int .i64 0, .int .i64 0, .int .i64 0, .int .i64 0, .int .i64 0, .int .i64 0, .int .i64 0, .int .i64 0, .int .i64 0, .int .i64 0, .int .i64 0, .int .i64 0, .int .i64 0, .int .i64 0, .int .i64 0, .int .i64 0, .int .i64 0, .int .i64 0, .int .i64 0, .int .i64 0, .int .i64 0, .int .i64 0, .int .i64 0, .int .i64 0, .int .i64 0, .int .i64 0, .int .i64 0, .int .i64 0, .int .i64 0, .int .i64 0, .int .i64 0, .int .i64 0, .int .i64 0, .int .i64 0, .int .i64 0, .int .i64 0, .int .i64 0, .int .i64 0, .int .i64 0, .int .i64 0])))
theorem oj : oz Tryd.prog 3 (.int .i64 0) 1 8 := (by kernel_rfl : (Tryd.prog.info? 3).map (fun i => (i.zero, i.size, i.bytes)) = some (some (.int .i64 0), 1, 8))
theorem pl27 : zrq Tryd.prog 27 [(0, 1), (1, 1), (2, 1), (3, 1), (4, 1), (5, 1), (6, 1), (7, 1), (8, 1), (9, 1)] := ⟨_, Tryd.underlying27, by kernel_rfl⟩
theorem inf28 : oz Tryd.prog 28 (.slice none 0 0) 1 24 := (by kernel_rfl : (Tryd.prog.info? 28).map (fun i => (i.zero, i.size, i.bytes)) = some (some (.slice none 0 0), 1, 24))
theorem inf35 : oz Tryd.prog 35 (.int .u64 0) 1 8 := (by kernel_rfl : (Tryd.prog.info? 35).map (fun i => (i.zero, i.size, i.bytes)) = some (some (.int .u64 0), 1, 8))
theorem pl37 : zrq Tryd.prog 37 [(0, 1), (1, 1)] := ⟨_, Tryd.underlying37, by kernel_rfl⟩
theorem pl41 : zrq Tryd.prog 41 [(0, 1), (1, 1), (2, 1), (3, 1), (4, 1), (5, 1), (6, 1)] := ⟨_, Tryd.underlying41, by kernel_rfl⟩
theorem inf55 : oz Tryd.prog 55 (.slice none 0 0) 1 24 := (by kernel_rfl : (Tryd.prog.info? 55).map (fun i => (i.zero, i.size, i.bytes)) = some (some (.slice none 0 0), 1, 24))
theorem pl68 : zrq Tryd.prog 68 [(0, 1), (1, 1), (2, 1), (3, 1), (4, 1), (5, 1), (6, 1), (7, 1), (8, 1)] := ⟨_, Tryd.underlying68, by kernel_rfl⟩
theorem inf78 : oz Tryd.prog 78 (.slice none 0 0) 1 24 := (by kernel_rfl : (Tryd.prog.info? 78).map (fun i => (i.zero, i.size, i.bytes)) = some (some (.slice none 0 0), 1, 24))
theorem pl80 : zrq Tryd.prog 80 [(0, 1), (1, 1)] := ⟨_, Tryd.underlying80, by kernel_rfl⟩
theorem zmx : oz Tryd.prog 80 (.agg #[.int .i64 0, .slice none 0 0]) 2 32 := (by kernel_rfl : (Tryd.prog.info? 80).map (fun i => (i.zero, i.size, i.bytes)) = some (some (.agg #[.int .i64 0, .slice none 0 0]), 2, 32))
theorem pl82 : zrq Tryd.prog 82 [(0, 1), (1, 1)] := ⟨_, Tryd.underlying82, by kernel_rfl⟩
theorem inf82 : oz Tryd.prog 82 (.agg #[.int .i64 0, .slice none 0 0]) 2 32 := (by kernel_rfl : (Tryd.prog.info? 82).map (fun i => (i.zero, i.size, i.bytes)) = some (some (.agg #[.int .i64 0, .slice none 0 0]), 2, 32))
theorem en8 : jw Tryd.prog 8 := ⟨_, Tryd.func8, by kernel_rfl, by kernel_rfl⟩
theorem en9 : jw Tryd.prog 9 := ⟨_, Tryd.func9, by kernel_rfl, by kernel_rfl⟩
theorem en10 : jw Tryd.prog 10 := ⟨_, Tryd.func10, by kernel_rfl, by kernel_rfl⟩
theorem en11 : jw Tryd.prog 11 := ⟨_, Tryd.func11, by kernel_rfl, by kernel_rfl⟩
theorem en12 : jw Tryd.prog 12 := ⟨_, Tryd.func12, by kernel_rfl, by kernel_rfl⟩
theorem en18 : jw Tryd.prog 18 := ⟨_, Tryd.func18, by kernel_rfl, by kernel_rfl⟩
theorem en19 : jw Tryd.prog 19 := ⟨_, Tryd.func19, by kernel_rfl, by kernel_rfl⟩
theorem en20 : jw Tryd.prog 20 := ⟨_, Tryd.func20, by kernel_rfl, by kernel_rfl⟩
theorem en21 : jw Tryd.prog 21 := ⟨_, Tryd.func21, by kernel_rfl, by kernel_rfl⟩
theorem en22 : jw Tryd.prog 22 := ⟨_, Tryd.func22, by kernel_rfl, by kernel_rfl⟩
theorem en23 : jw Tryd.prog 23 := ⟨_, Tryd.func23, by kernel_rfl, by kernel_rfl⟩
theorem en24 : jw Tryd.prog 24 := ⟨_, Tryd.func24, by kernel_rfl, by kernel_rfl⟩
theorem en25 : jw Tryd.prog 25 := ⟨_, Tryd.func25, by kernel_rfl, by kernel_rfl⟩
theorem en26 : jw Tryd.prog 26 := ⟨_, Tryd.func26, by kernel_rfl, by kernel_rfl⟩
theorem en27 : jw Tryd.prog 27 := ⟨_, Tryd.func27, by kernel_rfl, by kernel_rfl⟩
theorem en28 : jw Tryd.prog 28 := ⟨_, Tryd.func28, by kernel_rfl, by kernel_rfl⟩
theorem en29 : jw Tryd.prog 29 := ⟨_, Tryd.func29, by kernel_rfl, by kernel_rfl⟩
theorem en30 : jw Tryd.prog 30 := ⟨_, Tryd.func30, by kernel_rfl, by kernel_rfl⟩
theorem en33 : jw Tryd.prog 33 := ⟨_, Tryd.func33, by kernel_rfl, by kernel_rfl⟩
theorem en34 : jw Tryd.prog 34 := ⟨_, Tryd.func34, by kernel_rfl, by kernel_rfl⟩
theorem en35 : jw Tryd.prog 35 := ⟨_, Tryd.func35, by kernel_rfl, by kernel_rfl⟩
theorem en36 : jw Tryd.prog 36 := ⟨_, Tryd.func36, by kernel_rfl, by kernel_rfl⟩
theorem en37 : jw Tryd.prog 37 := ⟨_, Tryd.func37, by kernel_rfl, by kernel_rfl⟩
theorem en38 : jw Tryd.prog 38 := ⟨_, Tryd.func38, by kernel_rfl, by kernel_rfl⟩
theorem en39 : jw Tryd.prog 39 := ⟨_, Tryd.func39, by kernel_rfl, by kernel_rfl⟩
theorem en40 : jw Tryd.prog 40 := ⟨_, Tryd.func40, by kernel_rfl, by kernel_rfl⟩
theorem en41 : jw Tryd.prog 41 := ⟨_, Tryd.func41, by kernel_rfl, by kernel_rfl⟩
theorem en42 : jw Tryd.prog 42 := ⟨_, Tryd.func42, by kernel_rfl, by kernel_rfl⟩
theorem en43 : jw Tryd.prog 43 := ⟨_, Tryd.func43, by kernel_rfl, by kernel_rfl⟩
theorem en44 : jw Tryd.prog 44 := ⟨_, Tryd.func44, by kernel_rfl, by kernel_rfl⟩
theorem en45 : jw Tryd.prog 45 := ⟨_, Tryd.func45, by kernel_rfl, by kernel_rfl⟩
theorem en46 : jw Tryd.prog 46 := ⟨_, Tryd.func46, by kernel_rfl, by kernel_rfl⟩
theorem en47 : jw Tryd.prog 47 := ⟨_, Tryd.func47, by kernel_rfl, by kernel_rfl⟩
theorem en48 : jw Tryd.prog 48 := ⟨_, Tryd.func48, by kernel_rfl, by kernel_rfl⟩
theorem en49 : jw Tryd.prog 49 := ⟨_, Tryd.func49, by kernel_rfl, by kernel_rfl⟩
theorem jj : Tryd.prog.follows .mixedOrders = true := by kernel_rfl
end Go.Proofs.YtppdgjlmeahimaaDoor
