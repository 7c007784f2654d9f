/- Texts of this claim. -/
import Derived.Test.YtppdgjlmeahimaaDoorD6
import Derived.Test.YtppdgjlmeahimaaDoorProg
import Derived.KernelRfl
namespace Go.Proofs.YtppdgjlmeahimaaDoor
theorem sz3 : qm Tryd.prog 3 1 := (by kernel_rfl : (Tryd.prog.info? 3).map (·.size) = some 1)
theorem zr3 : jb Tryd.prog 3 (.int .i64 0) := (by kernel_rfl : (Tryd.prog.info? 3).map (·.zero) = some (some (.int .i64 0)))
theorem sz4 : qm Tryd.prog 4 1 := (by kernel_rfl : (Tryd.prog.info? 4).map (·.size) = some 1)
theorem zr4 : jb Tryd.prog 4 (.bool false) := (by kernel_rfl : (Tryd.prog.info? 4).map (·.zero) = some (some (.bool false)))
theorem sz5 : qm Tryd.prog 5 1 := (by kernel_rfl : (Tryd.prog.info? 5).map (·.size) = some 1)
theorem sz9 : qm Tryd.prog 9 1 := (by kernel_rfl : (Tryd.prog.info? 9).map (·.size) = some 1)
theorem zr9 : jb Tryd.prog 9 (.string ⟨#[]⟩) := (by kernel_rfl : (Tryd.prog.info? 9).map (·.zero) = some (some (.string ⟨#[]⟩)))
theorem sz22 : qm Tryd.prog 22 1 := (by kernel_rfl : (Tryd.prog.info? 22).map (·.size) = some 1)
theorem sz23 : qm Tryd.prog 23 1 := (by kernel_rfl : (Tryd.prog.info? 23).map (·.size) = some 1)
theorem ju : qm Tryd.prog 24 1 := (by kernel_rfl : (Tryd.prog.info? 24).map (·.size) = some 1)
theorem xj : qm Tryd.prog 25 1 := (by kernel_rfl : (Tryd.prog.info? 25).map (·.size) = some 1)
theorem vq : qm Tryd.prog 27 10 := (by kernel_rfl : (Tryd.prog.info? 27).map (·.size) = some 10)
theorem zr27 : jb Tryd.prog 27 (.agg #[.string ⟨#[]⟩, .int .i64 0, .int .i64 0, .int .i64 0, .bool false, .int .i64 0, .slice none 0 0, .slice none 0 0, .slice none 0 0, .slice none 0 0]) := (by kernel_rfl : (Tryd.prog.info? 27).map (·.zero) = some (some (.agg #[.string ⟨#[]⟩, .int .i64 0, .int .i64 0, .int .i64 0, .bool false, .int .i64 0, .slice none 0 0, .slice none 0 0, .slice none 0 0, .slice none 0 0])))
theorem ziz : qm Tryd.prog 28 1 := (by kernel_rfl : (Tryd.prog.info? 28).map (·.size) = some 1)
theorem zr28 : jb Tryd.prog 28 (.slice none 0 0) := (by kernel_rfl : (Tryd.prog.info? 28).map (·.zero) = some (some (.slice none 0 0)))
theorem xv : qm Tryd.prog 35 1 := (by kernel_rfl : (Tryd.prog.info? 35).map (·.size) = some 1)
theorem sz37 : qm Tryd.prog 37 2 := (by kernel_rfl : (Tryd.prog.info? 37).map (·.size) = some 2)
theorem zr37 : jb Tryd.prog 37 (.agg #[.int .i64 0, .string ⟨#[]⟩]) := (by kernel_rfl : (Tryd.prog.info? 37).map (·.zero) = some (some (.agg #[.int .i64 0, .string ⟨#[]⟩])))
theorem vv : qm Tryd.prog 41 7 := (by kernel_rfl : (Tryd.prog.info? 41).map (·.size) = some 7)
theorem zix : jb Tryd.prog 41 (.agg #[.int .i64 0, .int .i64 0, .int .i64 0, .int .i64 0, .int .i64 0, .int .i64 0, .slice none 0 0]) := (by kernel_rfl : (Tryd.prog.info? 41).map (·.zero) = some (some (.agg #[.int .i64 0, .int .i64 0, .int .i64 0, .int .i64 0, .int .i64 0, .int .i64 0, .slice none 0 0])))
theorem xi : qm Tryd.prog 50 4 := (by kernel_rfl : (Tryd.prog.info? 50).map (·.size) = some 4)
theorem zr50 : jb Tryd.prog 50 (.agg #[.int .i64 0, .int .i64 0, .int .i64 0, .int .i64 0]) := (by kernel_rfl : (Tryd.prog.info? 50).map (·.zero) = some (some (.agg #[.int .i64 0, .int .i64 0, .int .i64 0, .int .i64 0])))
theorem sz52 : qm Tryd.prog 52 1 := (by kernel_rfl : (Tryd.prog.info? 52).map (·.size) = some 1)
theorem zr52 : jb Tryd.prog 52 (.slice none 0 0) := (by kernel_rfl : (Tryd.prog.info? 52).map (·.zero) = some (some (.slice none 0 0)))
theorem sz55 : qm Tryd.prog 55 1 := (by kernel_rfl : (Tryd.prog.info? 55).map (·.size) = some 1)
theorem zr55 : jb Tryd.prog 55 (.slice none 0 0) := (by kernel_rfl : (Tryd.prog.info? 55).map (·.zero) = some (some (.slice none 0 0)))
theorem sz89 : qm Tryd.prog 89 45 := (by kernel_rfl : (Tryd.prog.info? 89).map (·.size) = some 45)
theorem zr89 : jb Tryd.prog 89 (.agg #[.int .i64 0, .int .i64 0, .int .i64 0, .int .i64 0, .int .i64 0, .int .i64 0, .int .i64 0, .int .i64 0, .int .i64 0, .int .i64 0, .int .i64 0, .int .i64 0, .int .i64 0, .int .i64 0, .int .i64 0, .int .i64 0, .int .i64 0, .int .i64 0, .int .i64 0, .int .i64 0, .int .i64 0, .int .i64 0, .int .i64 0, .int .i64 0, .int .i64 0, .int .i64 0, .int .i64 0, .int .i64 0, .int .i64 0, .int .i64 0, .int .i64 0, .int .i64 0, .int .i64 0, .int .i64 0, .int .i64 0, .int .i64 0, .int .i64 0, .int .i64 0, .int .i64 0, .int .i64 0, .int .i64 0, .int .i64 0, .int .i64 0, .int .i64 0, .int .i64 0]) := (by kernel_rfl : (Tryd.prog.info? 89).map (·.zero) = some (some (.agg #[.int .i64 0, .int .i64 0, .int .i64 0, .int .i64 0, .int .i64 0, .int .i64 0, .int .i64 0, .int .i64 0, .int .i64 0, .int .i64 0, .int .i64 0, .int .i64 0, .int .i64 0, .int .i64 0, .int .i64 0, .int .i64 0, .int .i64 0, .int .i64 0, .int .i64 0, .int .i64 0, .int .i64 0, .int .i64 0, .int .i64 0, .int .i64 0, .int .i64 0, .int .i64 0, .int .i64 0, .int .i64 0, .int .i64 0, .int .i64 0, .int .i64 0, .int .i64 0, .int .i64 0, .int .i64 0, .int .i64 0, .int .i64 0, .int .i64 0, .int .i64 0, .int .i64 0, .int .i64 0, .int .i64 0, .int .i64 0, .int .i64 0, .int .i64 0, .int .i64 0])))
theorem inf3 : kv Tryd.prog 3 (.int .i64 0) 1 8 := (by kernel_rfl : (Tryd.prog.info? 3).map (fun i => (i.zero, i.size, i.bytes)) = some (some (.int .i64 0), 1, 8))
theorem inf9 : kv Tryd.prog 9 (.string ⟨#[]⟩) 1 16 := (by kernel_rfl : (Tryd.prog.info? 9).map (fun i => (i.zero, i.size, i.bytes)) = some (some (.string ⟨#[]⟩), 1, 16))
theorem pl27 : Places Tryd.prog 27 [(0, 1), (1, 1), (2, 1), (3, 1), (4, 1), (5, 1), (6, 1), (7, 1), (8, 1), (9, 1)] := ⟨_, Tryd.underlying27, by kernel_rfl⟩
theorem inf35 : kv Tryd.prog 35 (.int .u64 0) 1 8 := (by kernel_rfl : (Tryd.prog.info? 35).map (fun i => (i.zero, i.size, i.bytes)) = some (some (.int .u64 0), 1, 8))
theorem pl37 : Places Tryd.prog 37 [(0, 1), (1, 1)] := ⟨_, Tryd.underlying37, by kernel_rfl⟩
theorem inf37 : kv Tryd.prog 37 (.agg #[.int .i64 0, .string ⟨#[]⟩]) 2 24 := (by kernel_rfl : (Tryd.prog.info? 37).map (fun i => (i.zero, i.size, i.bytes)) = some (some (.agg #[.int .i64 0, .string ⟨#[]⟩]), 2, 24))
theorem pl41 : Places Tryd.prog 41 [(0, 1), (1, 1), (2, 1), (3, 1), (4, 1), (5, 1), (6, 1)] := ⟨_, Tryd.underlying41, by kernel_rfl⟩
theorem inf41 : kv Tryd.prog 41 (.agg #[.int .i64 0, .int .i64 0, .int .i64 0, .int .i64 0, .int .i64 0, .int .i64 0, .slice none 0 0]) 7 72 := (by kernel_rfl : (Tryd.prog.info? 41).map (fun i => (i.zero, i.size, i.bytes)) = some (some (.agg #[.int .i64 0, .int .i64 0, .int .i64 0, .int .i64 0, .int .i64 0, .int .i64 0, .slice none 0 0]), 7, 72))
theorem pl50 : Places Tryd.prog 50 [(0, 1), (1, 1), (2, 1), (3, 1)] := ⟨_, Tryd.underlying50, by kernel_rfl⟩
theorem inf50 : kv Tryd.prog 50 (.agg #[.int .i64 0, .int .i64 0, .int .i64 0, .int .i64 0]) 4 32 := (by kernel_rfl : (Tryd.prog.info? 50).map (fun i => (i.zero, i.size, i.bytes)) = some (some (.agg #[.int .i64 0, .int .i64 0, .int .i64 0, .int .i64 0]), 4, 32))
theorem inf55 : kv Tryd.prog 55 (.slice none 0 0) 1 24 := (by kernel_rfl : (Tryd.prog.info? 55).map (fun i => (i.zero, i.size, i.bytes)) = some (some (.slice none 0 0), 1, 24))
theorem en8 : ka Tryd.prog 8 := ⟨_, Tryd.func8, by kernel_rfl, by kernel_rfl⟩
theorem en9 : ka Tryd.prog 9 := ⟨_, Tryd.func9, by kernel_rfl, by kernel_rfl⟩
theorem en11 : ka Tryd.prog 11 := ⟨_, Tryd.func11, by kernel_rfl, by kernel_rfl⟩
theorem en13 : ka Tryd.prog 13 := ⟨_, Tryd.func13, by kernel_rfl, by kernel_rfl⟩
theorem en14 : ka Tryd.prog 14 := ⟨_, Tryd.func14, by kernel_rfl, by kernel_rfl⟩
theorem en16 : ka Tryd.prog 16 := ⟨_, Tryd.func16, by kernel_rfl, by kernel_rfl⟩
theorem en17 : ka Tryd.prog 17 := ⟨_, Tryd.func17, by kernel_rfl, by kernel_rfl⟩
theorem en18 : ka Tryd.prog 18 := ⟨_, Tryd.func18, by kernel_rfl, by kernel_rfl⟩
theorem en19 : ka Tryd.prog 19 := ⟨_, Tryd.func19, by kernel_rfl, by kernel_rfl⟩
theorem en20 : ka Tryd.prog 20 := ⟨_, Tryd.func20, by kernel_rfl, by kernel_rfl⟩
theorem en21 : ka Tryd.prog 21 := ⟨_, Tryd.func21, by kernel_rfl, by kernel_rfl⟩
theorem en25 : ka Tryd.prog 25 := ⟨_, Tryd.func25, by kernel_rfl, by kernel_rfl⟩
theorem en26 : ka Tryd.prog 26 := ⟨_, Tryd.func26, by kernel_rfl, by kernel_rfl⟩
theorem en31 : ka Tryd.prog 31 := ⟨_, Tryd.func31, by kernel_rfl, by kernel_rfl⟩
theorem en32 : ka Tryd.prog 32 := ⟨_, Tryd.func32, by kernel_rfl, by kernel_rfl⟩
theorem en34 : ka Tryd.prog 34 := ⟨_, Tryd.func34, by kernel_rfl, by kernel_rfl⟩
theorem en35 : ka Tryd.prog 35 := ⟨_, Tryd.func35, by kernel_rfl, by kernel_rfl⟩
theorem en36 : ka Tryd.prog 36 := ⟨_, Tryd.func36, by kernel_rfl, by kernel_rfl⟩
theorem en37 : ka Tryd.prog 37 := ⟨_, Tryd.func37, by kernel_rfl, by kernel_rfl⟩
theorem en38 : ka Tryd.prog 38 := ⟨_, Tryd.func38, by kernel_rfl, by kernel_rfl⟩
theorem en39 : ka Tryd.prog 39 := ⟨_, Tryd.func39, by kernel_rfl, by kernel_rfl⟩
theorem en40 : ka Tryd.prog 40 := ⟨_, Tryd.func40, by kernel_rfl, by kernel_rfl⟩
theorem en41 : ka Tryd.prog 41 := ⟨_, Tryd.func41, by kernel_rfl, by kernel_rfl⟩
theorem en44 : ka Tryd.prog 44 := ⟨_, Tryd.func44, by kernel_rfl, by kernel_rfl⟩
theorem en45 : ka Tryd.prog 45 := ⟨_, Tryd.func45, by kernel_rfl, by kernel_rfl⟩
theorem en46 : ka Tryd.prog 46 := ⟨_, Tryd.func46, by kernel_rfl, by kernel_rfl⟩
theorem gn : Tryd.prog.follows .mixedOrders = true := by kernel_rfl
end Go.Proofs.YtppdgjlmeahimaaDoor
