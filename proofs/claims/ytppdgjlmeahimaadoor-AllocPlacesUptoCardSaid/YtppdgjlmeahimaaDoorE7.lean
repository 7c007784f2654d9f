/- Texts of this claim. -/
import Derived.Test.YtppdgjlmeahimaaDoorE6
import Derived.Test.YtppdgjlmeahimaaDoorProg
import Derived.KernelRfl
namespace Go.Proofs.YtppdgjlmeahimaaDoor
theorem sz3 : vc Tryd.prog 3 1 := (by kernel_rfl : (Tryd.prog.info? 3).map (·.size) = some 1)
theorem zr3 : jz Tryd.prog 3 (.int .i64 0) := (by kernel_rfl : (Tryd.prog.info? 3).map (·.zero) = some (some (.int .i64 0)))
theorem sz4 : vc Tryd.prog 4 1 := (by kernel_rfl : (Tryd.prog.info? 4).map (·.size) = some 1)
theorem zr4 : jz Tryd.prog 4 (.bool false) := (by kernel_rfl : (Tryd.prog.info? 4).map (·.zero) = some (some (.bool false)))
theorem sz5 : vc Tryd.prog 5 1 := (by kernel_rfl : (Tryd.prog.info? 5).map (·.size) = some 1)
theorem sz9 : vc Tryd.prog 9 1 := (by kernel_rfl : (Tryd.prog.info? 9).map (·.size) = some 1)
theorem zr9 : jz Tryd.prog 9 (.string ⟨#[]⟩) := (by kernel_rfl : (Tryd.prog.info? 9).map (·.zero) = some (some (.string ⟨#[]⟩)))
theorem sz22 : vc Tryd.prog 22 1 := (by kernel_rfl : (Tryd.prog.info? 22).map (·.size) = some 1)
theorem sz23 : vc Tryd.prog 23 1 := (by kernel_rfl : (Tryd.prog.info? 23).map (·.size) = some 1)
theorem gz : vc Tryd.prog 24 1 := (by kernel_rfl : (Tryd.prog.info? 24).map (·.size) = some 1)
theorem ko : vc Tryd.prog 25 1 := (by kernel_rfl : (Tryd.prog.info? 25).map (·.size) = some 1)
theorem jp : vc Tryd.prog 27 10 := (by kernel_rfl : (Tryd.prog.info? 27).map (·.size) = some 10)
theorem zr27 : jz Tryd.prog 27 (.agg #[.string ⟨#[]⟩, .int .i64 0, .int .i64 0, .int .i64 0, .bool false, .int .i64 0, .slice none 0 0, .slice none 0 0, .slice none 0 0, .slice none 0 0]) := (by kernel_rfl : (Tryd.prog.info? 27).map (·.zero) = some (some (.agg #[.string ⟨#[]⟩, .int .i64 0, .int .i64 0, .int .i64 0, .bool false, .int .i64 0, .slice none 0 0, .slice none 0 0, .slice none 0 0, .slice none 0 0])))
theorem gu : vc Tryd.prog 28 1 := (by kernel_rfl : (Tryd.prog.info? 28).map (·.size) = some 1)
theorem zr28 : jz Tryd.prog 28 (.slice none 0 0) := (by kernel_rfl : (Tryd.prog.info? 28).map (·.zero) = some (some (.slice none 0 0)))
theorem zax : vc Tryd.prog 35 1 := (by kernel_rfl : (Tryd.prog.info? 35).map (·.size) = some 1)
theorem sz37 : vc Tryd.prog 37 2 := (by kernel_rfl : (Tryd.prog.info? 37).map (·.size) = some 2)
theorem zr37 : jz Tryd.prog 37 (.agg #[.int .i64 0, .string ⟨#[]⟩]) := (by kernel_rfl : (Tryd.prog.info? 37).map (·.zero) = some (some (.agg #[.int .i64 0, .string ⟨#[]⟩])))
theorem vx : vc Tryd.prog 41 7 := (by kernel_rfl : (Tryd.prog.info? 41).map (·.size) = some 7)
theorem zpk : jz Tryd.prog 41 (.agg #[.int .i64 0, .int .i64 0, .int .i64 0, .int .i64 0, .int .i64 0, .int .i64 0, .slice none 0 0]) := (by kernel_rfl : (Tryd.prog.info? 41).map (·.zero) = some (some (.agg #[.int .i64 0, .int .i64 0, .int .i64 0, .int .i64 0, .int .i64 0, .int .i64 0, .slice none 0 0])))
theorem ku : vc Tryd.prog 50 4 := (by kernel_rfl : (Tryd.prog.info? 50).map (·.size) = some 4)
theorem zr50 : jz Tryd.prog 50 (.agg #[.int .i64 0, .int .i64 0, .int .i64 0, .int .i64 0]) := (by kernel_rfl : (Tryd.prog.info? 50).map (·.zero) = some (some (.agg #[.int .i64 0, .int .i64 0, .int .i64 0, .int .i64 0])))
theorem sz52 : vc Tryd.prog 52 1 := (by kernel_rfl : (Tryd.prog.info? 52).map (·.size) = some 1)
theorem zr52 : jz Tryd.prog 52 (.slice none 0 0) := (by kernel_rfl : (Tryd.prog.info? 52).map (·.zero) = some (some (.slice none 0 0)))
theorem zhk : vc Tryd.prog 55 1 := (by kernel_rfl : (Tryd.prog.info? 55).map (·.size) = some 1)
theorem zr55 : jz Tryd.prog 55 (.slice none 0 0) := (by kernel_rfl : (Tryd.prog.info? 55).map (·.zero) = some (some (.slice none 0 0)))
theorem yk : vc Tryd.prog 68 9 := (by kernel_rfl : (Tryd.prog.info? 68).map (·.size) = some 9)
theorem zpv : jz Tryd.prog 68 (.agg #[.bool false, .bool false, .bool false, .bool false, .bool false, .int .i64 0, .int .i64 0, .int .i64 0, .int .i64 0]) := (by kernel_rfl : (Tryd.prog.info? 68).map (·.zero) = some (some (.agg #[.bool false, .bool false, .bool false, .bool false, .bool false, .int .i64 0, .int .i64 0, .int .i64 0, .int .i64 0])))
theorem sz78 : vc Tryd.prog 78 1 := (by kernel_rfl : (Tryd.prog.info? 78).map (·.size) = some 1)
theorem oz : vc Tryd.prog 80 2 := (by kernel_rfl : (Tryd.prog.info? 80).map (·.size) = some 2)
theorem zex : jz Tryd.prog 80 (.agg #[.int .i64 0, .slice none 0 0]) := (by kernel_rfl : (Tryd.prog.info? 80).map (·.zero) = some (some (.agg #[.int .i64 0, .slice none 0 0])))
theorem sz82 : vc Tryd.prog 82 2 := (by kernel_rfl : (Tryd.prog.info? 82).map (·.size) = some 2)
theorem zr82 : jz Tryd.prog 82 (.agg #[.int .i64 0, .slice none 0 0]) := (by kernel_rfl : (Tryd.prog.info? 82).map (·.zero) = some (some (.agg #[.int .i64 0, .slice none 0 0])))
theorem sz89 : vc Tryd.prog 89 45 := (by kernel_rfl : (Tryd.prog.info? 89).map (·.size) = some 45)
theorem zr89 : jz Tryd.prog 89 (.agg #[.int .i64 0, .int .i64 0, .int .i64 0, .int .i64 0, .int .i64 0, .int .i64 0, .int .i64 0, .int .i64 0, .int .i64 0, .int .i64 0, .int .i64 0, .int .i64 0, .int .i64 0, .int .i64 0, .int .i64 0, .int .i64 0, .int .i64 0, .int .i64 0, .int .i64 0, .int .i64 0, .int .i64 0, .int .i64 0, .int .i64 0, .int .i64 0, .int .i64 0, .int .i64 0, .int .i64 0, .int .i64 0, .int .i64 0, .int .i64 0, .int .i64 0, .int .i64 0, .int .i64 0, .int .i64 0, .int .i64 0, .int .i64 0, .int .i64 0, .int .i64 0, .int .i64 0, .int .i64 0, .int .i64 0, .int .i64 0, .int .i64 0, .int .i64 0, .int .i64 0]) := (by kernel_rfl : (Tryd.prog.info? 89).map (·.zero) = some (some (.agg #[.int .i64 0, .int .i64 0, .int .i64 0, .int .i64 0, .int .i64 0, .int .i64 0, .int .i64 0, .int .i64 0, .int .i64 0, .int .i64 0, .int .i64 0, .int .i64 0, .int .i64 0, .int .i64 0, .int .i64 0, .int .i64 0, .int .i64 0, .int .i64 0, .int .i64 0, .int .i64 0, .int .i64 0, .int .i64 0, .int .i64 0, .int .i64 0, .int .i64 0, .int .i64 0, .int .i64 0, .int .i64 0, .int .i64 0, .int .i64 0, .int .i64 0, .int .i64 0, .int .i64 0, .int .i64 0, .int .i64 0, .int .i64 0, .int .i64 0, .int .i64 0, .int .i64 0, .int .i64 0, .int .i64 0, .int .i64 0, .int .i64 0, .int .i64 0, .int .i64 0])))
theorem ou : xj Tryd.prog 3 (.int .i64 0) 1 8 := (by kernel_rfl : (Tryd.prog.info? 3).map (fun i => (i.zero, i.size, i.bytes)) = some (some (.int .i64 0), 1, 8))
theorem inf9 : xj Tryd.prog 9 (.string ⟨#[]⟩) 1 16 := (by kernel_rfl : (Tryd.prog.info? 9).map (fun i => (i.zero, i.size, i.bytes)) = some (some (.string ⟨#[]⟩), 1, 16))
theorem pl27 : zwk Tryd.prog 27 [(0, 1), (1, 1), (2, 1), (3, 1), (4, 1), (5, 1), (6, 1), (7, 1), (8, 1), (9, 1)] := ⟨_, Tryd.underlying27, by kernel_rfl⟩
theorem inf28 : xj Tryd.prog 28 (.slice none 0 0) 1 24 := (by kernel_rfl : (Tryd.prog.info? 28).map (fun i => (i.zero, i.size, i.bytes)) = some (some (.slice none 0 0), 1, 24))
theorem inf35 : xj Tryd.prog 35 (.int .u64 0) 1 8 := (by kernel_rfl : (Tryd.prog.info? 35).map (fun i => (i.zero, i.size, i.bytes)) = some (some (.int .u64 0), 1, 8))
theorem pl37 : zwk Tryd.prog 37 [(0, 1), (1, 1)] := ⟨_, Tryd.underlying37, by kernel_rfl⟩
theorem inf37 : xj Tryd.prog 37 (.agg #[.int .i64 0, .string ⟨#[]⟩]) 2 24 := (by kernel_rfl : (Tryd.prog.info? 37).map (fun i => (i.zero, i.size, i.bytes)) = some (some (.agg #[.int .i64 0, .string ⟨#[]⟩]), 2, 24))
theorem pl41 : zwk Tryd.prog 41 [(0, 1), (1, 1), (2, 1), (3, 1), (4, 1), (5, 1), (6, 1)] := ⟨_, Tryd.underlying41, by kernel_rfl⟩
theorem inf41 : xj Tryd.prog 41 (.agg #[.int .i64 0, .int .i64 0, .int .i64 0, .int .i64 0, .int .i64 0, .int .i64 0, .slice none 0 0]) 7 72 := (by kernel_rfl : (Tryd.prog.info? 41).map (fun i => (i.zero, i.size, i.bytes)) = some (some (.agg #[.int .i64 0, .int .i64 0, .int .i64 0, .int .i64 0, .int .i64 0, .int .i64 0, .slice none 0 0]), 7, 72))
theorem inf50 : xj Tryd.prog 50 (.agg #[.int .i64 0, .int .i64 0, .int .i64 0, .int .i64 0]) 4 32 := (by kernel_rfl : (Tryd.prog.info? 50).map (fun i => (i.zero, i.size, i.bytes)) = some (some (.agg #[.int .i64 0, .int .i64 0, .int .i64 0, .int .i64 0]), 4, 32))
theorem inf55 : xj Tryd.prog 55 (.slice none 0 0) 1 24 := (by kernel_rfl : (Tryd.prog.info? 55).map (fun i => (i.zero, i.size, i.bytes)) = some (some (.slice none 0 0), 1, 24))
theorem pl68 : zwk Tryd.prog 68 [(0, 1), (1, 1), (2, 1), (3, 1), (4, 1), (5, 1), (6, 1), (7, 1), (8, 1)] := ⟨_, Tryd.underlying68, by kernel_rfl⟩
theorem inf78 : xj Tryd.prog 78 (.slice none 0 0) 1 24 := (by kernel_rfl : (Tryd.prog.info? 78).map (fun i => (i.zero, i.size, i.bytes)) = some (some (.slice none 0 0), 1, 24))
theorem pl80 : zwk Tryd.prog 80 [(0, 1), (1, 1)] := ⟨_, Tryd.underlying80, by kernel_rfl⟩
theorem zrq : xj Tryd.prog 80 (.agg #[.int .i64 0, .slice none 0 0]) 2 32 := (by kernel_rfl : (Tryd.prog.info? 80).map (fun i => (i.zero, i.size, i.bytes)) = some (some (.agg #[.int .i64 0, .slice none 0 0]), 2, 32))
theorem pl82 : zwk Tryd.prog 82 [(0, 1), (1, 1)] := ⟨_, Tryd.underlying82, by kernel_rfl⟩
theorem inf82 : xj Tryd.prog 82 (.agg #[.int .i64 0, .slice none 0 0]) 2 32 := (by kernel_rfl : (Tryd.prog.info? 82).map (fun i => (i.zero, i.size, i.bytes)) = some (some (.agg #[.int .i64 0, .slice none 0 0]), 2, 32))
theorem en8 : gp Tryd.prog 8 := ⟨_, Tryd.func8, by kernel_rfl, by kernel_rfl⟩
theorem en9 : gp Tryd.prog 9 := ⟨_, Tryd.func9, by kernel_rfl, by kernel_rfl⟩
theorem en10 : gp Tryd.prog 10 := ⟨_, Tryd.func10, by kernel_rfl, by kernel_rfl⟩
theorem en11 : gp Tryd.prog 11 := ⟨_, Tryd.func11, by kernel_rfl, by kernel_rfl⟩
theorem en12 : gp Tryd.prog 12 := ⟨_, Tryd.func12, by kernel_rfl, by kernel_rfl⟩
theorem en13 : gp Tryd.prog 13 := ⟨_, Tryd.func13, by kernel_rfl, by kernel_rfl⟩
theorem en14 : gp Tryd.prog 14 := ⟨_, Tryd.func14, by kernel_rfl, by kernel_rfl⟩
theorem en15 : gp Tryd.prog 15 := ⟨_, Tryd.func15, by kernel_rfl, by kernel_rfl⟩
theorem en16 : gp Tryd.prog 16 := ⟨_, Tryd.func16, by kernel_rfl, by kernel_rfl⟩
theorem en17 : gp Tryd.prog 17 := ⟨_, Tryd.func17, by kernel_rfl, by kernel_rfl⟩
theorem en18 : gp Tryd.prog 18 := ⟨_, Tryd.func18, by kernel_rfl, by kernel_rfl⟩
theorem en19 : gp Tryd.prog 19 := ⟨_, Tryd.func19, by kernel_rfl, by kernel_rfl⟩
theorem en20 : gp Tryd.prog 20 := ⟨_, Tryd.func20, by kernel_rfl, by kernel_rfl⟩
theorem en21 : gp Tryd.prog 21 := ⟨_, Tryd.func21, by kernel_rfl, by kernel_rfl⟩
theorem en22 : gp Tryd.prog 22 := ⟨_, Tryd.func22, by kernel_rfl, by kernel_rfl⟩
theorem en23 : gp Tryd.prog 23 := ⟨_, Tryd.func23, by kernel_rfl, by kernel_rfl⟩
theorem en24 : gp Tryd.prog 24 := ⟨_, Tryd.func24, by kernel_rfl, by kernel_rfl⟩
theorem en25 : gp Tryd.prog 25 := ⟨_, Tryd.func25, by kernel_rfl, by kernel_rfl⟩
theorem en26 : gp Tryd.prog 26 := ⟨_, Tryd.func26, by kernel_rfl, by kernel_rfl⟩
theorem en27 : gp Tryd.prog 27 := ⟨_, Tryd.func27, by kernel_rfl, by kernel_rfl⟩
theorem en28 : gp Tryd.prog 28 := ⟨_, Tryd.func28, by kernel_rfl, by kernel_rfl⟩
theorem en29 : gp Tryd.prog 29 := ⟨_, Tryd.func29, by kernel_rfl, by kernel_rfl⟩
theorem en30 : gp Tryd.prog 30 := ⟨_, Tryd.func30, by kernel_rfl, by kernel_rfl⟩
theorem en31 : gp Tryd.prog 31 := ⟨_, Tryd.func31, by kernel_rfl, by kernel_rfl⟩
theorem en32 : gp Tryd.prog 32 := ⟨_, Tryd.func32, by kernel_rfl, by kernel_rfl⟩
theorem en33 : gp Tryd.prog 33 := ⟨_, Tryd.func33, by kernel_rfl, by kernel_rfl⟩
theorem en34 : gp Tryd.prog 34 := ⟨_, Tryd.func34, by kernel_rfl, by kernel_rfl⟩
theorem en35 : gp Tryd.prog 35 := ⟨_, Tryd.func35, by kernel_rfl, by kernel_rfl⟩
theorem en36 : gp Tryd.prog 36 := ⟨_, Tryd.func36, by kernel_rfl, by kernel_rfl⟩
theorem en37 : gp Tryd.prog 37 := ⟨_, Tryd.func37, by kernel_rfl, by kernel_rfl⟩
theorem en38 : gp Tryd.prog 38 := ⟨_, Tryd.func38, by kernel_rfl, by kernel_rfl⟩
theorem en39 : gp Tryd.prog 39 := ⟨_, Tryd.func39, by kernel_rfl, by kernel_rfl⟩
theorem en40 : gp Tryd.prog 40 := ⟨_, Tryd.func40, by kernel_rfl, by kernel_rfl⟩
theorem en41 : gp Tryd.prog 41 := ⟨_, Tryd.func41, by kernel_rfl, by kernel_rfl⟩
theorem en42 : gp Tryd.prog 42 := ⟨_, Tryd.func42, by kernel_rfl, by kernel_rfl⟩
theorem en43 : gp Tryd.prog 43 := ⟨_, Tryd.func43, by kernel_rfl, by kernel_rfl⟩
theorem en44 : gp Tryd.prog 44 := ⟨_, Tryd.func44, by kernel_rfl, by kernel_rfl⟩
theorem en45 : gp Tryd.prog 45 := ⟨_, Tryd.func45, by kernel_rfl, by kernel_rfl⟩
theorem en46 : gp Tryd.prog 46 := ⟨_, Tryd.func46, by kernel_rfl, by kernel_rfl⟩
theorem en47 : gp Tryd.prog 47 := ⟨_, Tryd.func47, by kernel_rfl, by kernel_rfl⟩
theorem en48 : gp Tryd.prog 48 := ⟨_, Tryd.func48, by kernel_rfl, by kernel_rfl⟩
theorem en49 : gp Tryd.prog 49 := ⟨_, Tryd.func49, by kernel_rfl, by kernel_rfl⟩
theorem je : Tryd.prog.follows .mixedOrders = true := by kernel_rfl
end Go.Proofs.YtppdgjlmeahimaaDoor
