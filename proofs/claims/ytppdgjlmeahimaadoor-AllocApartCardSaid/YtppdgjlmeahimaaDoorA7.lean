/- Texts of this claim. -/
import Derived.Test.YtppdgjlmeahimaaDoorA6
import Derived.Test.YtppdgjlmeahimaaDoorProg
import Derived.KernelRfl
namespace Go.Proofs.YtppdgjlmeahimaaDoor
theorem sz3 : yz Tryd.prog 3 1 := (by kernel_rfl : (Tryd.prog.info? 3).map (·.size) = some 1)
theorem zr3 : vo Tryd.prog 3 (.int .i64 0) := (by kernel_rfl : (Tryd.prog.info? 3).map (·.zero) = some (some (.int .i64 0)))
theorem sz4 : yz Tryd.prog 4 1 := (by kernel_rfl : (Tryd.prog.info? 4).map (·.size) = some 1)
theorem zr4 : vo Tryd.prog 4 (.bool false) := (by kernel_rfl : (Tryd.prog.info? 4).map (·.zero) = some (some (.bool false)))
theorem sz5 : yz Tryd.prog 5 1 := (by kernel_rfl : (Tryd.prog.info? 5).map (·.size) = some 1)
theorem kr : yz Tryd.prog 24 1 := (by kernel_rfl : (Tryd.prog.info? 24).map (·.size) = some 1)
theorem sz25 : yz Tryd.prog 25 1 := (by kernel_rfl : (Tryd.prog.info? 25).map (·.size) = some 1)
theorem oh : yz Tryd.prog 27 10 := (by kernel_rfl : (Tryd.prog.info? 27).map (·.size) = some 10)
theorem zr27 : vo Tryd.prog 27 (.agg #[.string ⟨#[]⟩, .int .i64 0, .int .i64 0, .int .i64 0, .bool false, .int .i64 0, .slice none 0 0, .slice none 0 0, .slice none 0 0, .slice none 0 0]) := (by kernel_rfl : (Tryd.prog.info? 27).map (·.zero) = some (some (.agg #[.string ⟨#[]⟩, .int .i64 0, .int .i64 0, .int .i64 0, .bool false, .int .i64 0, .slice none 0 0, .slice none 0 0, .slice none 0 0, .slice none 0 0])))
theorem sz28 : yz Tryd.prog 28 1 := (by kernel_rfl : (Tryd.prog.info? 28).map (·.size) = some 1)
theorem zr28 : vo Tryd.prog 28 (.slice none 0 0) := (by kernel_rfl : (Tryd.prog.info? 28).map (·.zero) = some (some (.slice none 0 0)))
theorem kq : yz Tryd.prog 35 1 := (by kernel_rfl : (Tryd.prog.info? 35).map (·.size) = some 1)
theorem sz37 : yz Tryd.prog 37 2 := (by kernel_rfl : (Tryd.prog.info? 37).map (·.size) = some 2)
theorem zr37 : vo Tryd.prog 37 (.agg #[.int .i64 0, .string ⟨#[]⟩]) := (by kernel_rfl : (Tryd.prog.info? 37).map (·.zero) = some (some (.agg #[.int .i64 0, .string ⟨#[]⟩])))
theorem sz38 : yz Tryd.prog 38 2 := (by kernel_rfl : (Tryd.prog.info? 38).map (·.size) = some 2)
theorem zr38 : vo Tryd.prog 38 (.agg #[.int .i64 0, .int .i64 0]) := (by kernel_rfl : (Tryd.prog.info? 38).map (·.zero) = some (some (.agg #[.int .i64 0, .int .i64 0])))
theorem gb : yz Tryd.prog 41 7 := (by kernel_rfl : (Tryd.prog.info? 41).map (·.size) = some 7)
theorem zr41 : vo Tryd.prog 41 (.agg #[.int .i64 0, .int .i64 0, .int .i64 0, .int .i64 0, .int .i64 0, .int .i64 0, .slice none 0 0]) := (by kernel_rfl : (Tryd.prog.info? 41).map (·.zero) = some (some (.agg #[.int .i64 0, .int .i64 0, .int .i64 0, .int .i64 0, .int .i64 0, .int .i64 0, .slice none 0 0])))
theorem sz50 : yz Tryd.prog 50 4 := (by kernel_rfl : (Tryd.prog.info? 50).map (·.size) = some 4)
theorem zr50 : vo Tryd.prog 50 (.agg #[.int .i64 0, .int .i64 0, .int .i64 0, .int .i64 0]) := (by kernel_rfl : (Tryd.prog.info? 50).map (·.zero) = some (some (.agg #[.int .i64 0, .int .i64 0, .int .i64 0, .int .i64 0])))
theorem sz52 : yz Tryd.prog 52 1 := (by kernel_rfl : (Tryd.prog.info? 52).map (·.size) = some 1)
theorem zr52 : vo Tryd.prog 52 (.slice none 0 0) := (by kernel_rfl : (Tryd.prog.info? 52).map (·.zero) = some (some (.slice none 0 0)))
theorem sz55 : yz Tryd.prog 55 1 := (by kernel_rfl : (Tryd.prog.info? 55).map (·.size) = some 1)
theorem zr55 : vo Tryd.prog 55 (.slice none 0 0) := (by kernel_rfl : (Tryd.prog.info? 55).map (·.zero) = some (some (.slice none 0 0)))
theorem sz89 : yz Tryd.prog 89 45 := (by kernel_rfl : (Tryd.prog.info? 89).map (·.size) = some 45)
theorem zr89 : vo Tryd.prog 89 (.agg #[.int .i64 0, .int .i64 0, .int .i64 0, .int .i64 0, .int .i64 0, .int .i64 0, .int .i64 0, .int .i64 0, .int .i64 0, .int .i64 0, .int .i64 0, .int .i64 0, .int .i64 0, .int .i64 0, .int .i64 0, .int .i64 0, .int .i64 0, .int .i64 0, .int .i64 0, .int .i64 0, .int .i64 0, .int .i64 0, .int .i64 0, .int .i64 0, .int .i64 0, .int .i64 0, .int .i64 0, .int .i64 0, .int .i64 0, .int .i64 0, .int .i64 0, .int .i64 0, .int .i64 0, .int .i64 0, .int .i64 0, .int .i64 0, .int .i64 0, .int .i64 0, .int .i64 0, .int .i64 0, .int .i64 0, .int .i64 0, .int .i64 0, .int .i64 0, .int .i64 0]) := (by kernel_rfl : (Tryd.prog.info? 89).map (·.zero) = some (some (.agg #[.int .i64 0, .int .i64 0, .int .i64 0, .int .i64 0, .int .i64 0, .int .i64 0, .int .i64 0, .int .i64 0, .int .i64 0, .int .i64 0, .int .i64 0, .int .i64 0, .int .i64 0, .int .i64 0, .int .i64 0, .int .i64 0, .int .i64 0, .int .i64 0, .int .i64 0, .int .i64 0, .int .i64 0, .int .i64 0, .int .i64 0, .int .i64 0, .int .i64 0, .int .i64 0, .int .i64 0, .int .i64 0, .int .i64 0, .int .i64 0, .int .i64 0, .int .i64 0, .int .i64 0, .int .i64 0, .int .i64 0, .int .i64 0, .int .i64 0, .int .i64 0, .int .i64 0, .int .i64 0, .int .i64 0, .int .i64 0, .int .i64 0, .int .i64 0, .int .i64 0])))
theorem inf3 : zax Tryd.prog 3 (.int .i64 0) 1 8 := (by kernel_rfl : (Tryd.prog.info? 3).map (fun i => (i.zero, i.size, i.bytes)) = some (some (.int .i64 0), 1, 8))
theorem pl27 : Places Tryd.prog 27 [(0, 1), (1, 1), (2, 1), (3, 1), (4, 1), (5, 1), (6, 1), (7, 1), (8, 1), (9, 1)] := ⟨_, Tryd.underlying27, by kernel_rfl⟩
theorem inf35 : zax Tryd.prog 35 (.int .u64 0) 1 8 := (by kernel_rfl : (Tryd.prog.info? 35).map (fun i => (i.zero, i.size, i.bytes)) = some (some (.int .u64 0), 1, 8))
theorem pl37 : Places Tryd.prog 37 [(0, 1), (1, 1)] := ⟨_, Tryd.underlying37, by kernel_rfl⟩
theorem pl41 : Places Tryd.prog 41 [(0, 1), (1, 1), (2, 1), (3, 1), (4, 1), (5, 1), (6, 1)] := ⟨_, Tryd.underlying41, by kernel_rfl⟩
theorem inf41 : zax Tryd.prog 41 (.agg #[.int .i64 0, .int .i64 0, .int .i64 0, .int .i64 0, .int .i64 0, .int .i64 0, .slice none 0 0]) 7 72 := (by kernel_rfl : (Tryd.prog.info? 41).map (fun i => (i.zero, i.size, i.bytes)) = some (some (.agg #[.int .i64 0, .int .i64 0, .int .i64 0, .int .i64 0, .int .i64 0, .int .i64 0, .slice none 0 0]), 7, 72))
theorem inf55 : zax Tryd.prog 55 (.slice none 0 0) 1 24 := (by kernel_rfl : (Tryd.prog.info? 55).map (fun i => (i.zero, i.size, i.bytes)) = some (some (.slice none 0 0), 1, 24))
theorem en8 : ka Tryd.prog 8 := ⟨_, Tryd.func8, by kernel_rfl, by kernel_rfl⟩
theorem en9 : ka Tryd.prog 9 := ⟨_, Tryd.func9, by kernel_rfl, by kernel_rfl⟩
theorem en11 : ka Tryd.prog 11 := ⟨_, Tryd.func11, by kernel_rfl, by kernel_rfl⟩
theorem en18 : ka Tryd.prog 18 := ⟨_, Tryd.func18, by kernel_rfl, by kernel_rfl⟩
theorem en19 : ka Tryd.prog 19 := ⟨_, Tryd.func19, by kernel_rfl, by kernel_rfl⟩
theorem en20 : ka Tryd.prog 20 := ⟨_, Tryd.func20, by kernel_rfl, by kernel_rfl⟩
theorem en21 : ka Tryd.prog 21 := ⟨_, Tryd.func21, by kernel_rfl, by kernel_rfl⟩
theorem en25 : ka Tryd.prog 25 := ⟨_, Tryd.func25, by kernel_rfl, by kernel_rfl⟩
theorem en26 : ka Tryd.prog 26 := ⟨_, Tryd.func26, by kernel_rfl, by kernel_rfl⟩
theorem en34 : ka Tryd.prog 34 := ⟨_, Tryd.func34, by kernel_rfl, by kernel_rfl⟩
theorem en35 : ka Tryd.prog 35 := ⟨_, Tryd.func35, by kernel_rfl, by kernel_rfl⟩
theorem en36 : ka Tryd.prog 36 := ⟨_, Tryd.func36, by kernel_rfl, by kernel_rfl⟩
theorem en37 : ka Tryd.prog 37 := ⟨_, Tryd.func37, by kernel_rfl, by kernel_rfl⟩
theorem en38 : ka Tryd.prog 38 := ⟨_, Tryd.func38, by kernel_rfl, by kernel_rfl⟩
theorem en39 : ka Tryd.prog 39 := ⟨_, Tryd.func39, by kernel_rfl, by kernel_rfl⟩
theorem en40 : ka Tryd.prog 40 := ⟨_, Tryd.func40, by kernel_rfl, by kernel_rfl⟩
theorem en41 : ka Tryd.prog 41 := ⟨_, Tryd.func41, by kernel_rfl, by kernel_rfl⟩
theorem en44 : ka Tryd.prog 44 := ⟨_, Tryd.func44, by kernel_rfl, by kernel_rfl⟩
theorem en45 : ka Tryd.prog 45 := ⟨_, Tryd.func45, by kernel_rfl, by kernel_rfl⟩
theorem en46 : ka Tryd.prog 46 := ⟨_, Tryd.func46, by kernel_rfl, by kernel_rfl⟩
theorem gh : Tryd.prog.follows .mixedOrders = true := by kernel_rfl
end Go.Proofs.YtppdgjlmeahimaaDoor
