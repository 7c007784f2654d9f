/- Texts of this claim. -/
import Derived.Test.YtaleikoeklemmaaGreatDoorA5
import Derived.Test.YtaleikoeklemmaaGreatDoorProg
import Derived.KernelRfl
namespace Go.Proofs.YtaleikoeklemmaaGreatDoor
theorem sz3 : qx Tryz.prog 3 1 := (by kernel_rfl : (Tryz.prog.info? 3).map (·.size) = some 1)
theorem sz4 : qx Tryz.prog 4 1 := (by kernel_rfl : (Tryz.prog.info? 4).map (·.size) = some 1)
theorem sz5 : qx Tryz.prog 5 1 := (by kernel_rfl : (Tryz.prog.info? 5).map (·.size) = some 1)
theorem zr5 : xx Tryz.prog 5 (.int .u8 0) := (by kernel_rfl : (Tryz.prog.info? 5).map (·.zero) = some (some (.int .u8 0)))
theorem sz9 : qx Tryz.prog 9 1 := (by kernel_rfl : (Tryz.prog.info? 9).map (·.size) = some 1)
theorem zfk : qx Tryz.prog 22 1 := (by kernel_rfl : (Tryz.prog.info? 22).map (·.size) = some 1)
theorem yy : qx Tryz.prog 24 2 := (by kernel_rfl : (Tryz.prog.info? 24).map (·.size) = some 2)
theorem xe : xx Tryz.prog 24 (.agg #[.bool false, .slice none 0 0]) := (by kernel_rfl : (Tryz.prog.info? 24).map (·.zero) = some (some (.agg #[.bool false, .slice none 0 0])))
theorem xa : qx Tryz.prog 25 1 := (by kernel_rfl : (Tryz.prog.info? 25).map (·.size) = some 1)
theorem sz26 : qx Tryz.prog 26 1 := (by kernel_rfl : (Tryz.prog.info? 26).map (·.size) = some 1)
theorem yk : qx Tryz.prog 28 7 := (by kernel_rfl : (Tryz.prog.info? 28).map (·.size) = some 7)
theorem zr28 : xx Tryz.prog 28 (.agg #[.int .i64 0, .bool false, .bool false, .slice none 0 0, .int .u64 0, .string ⟨#[]⟩, .slice none 0 0]) := (by kernel_rfl : (Tryz.prog.info? 28).map (·.zero) = some (some (.agg #[.int .i64 0, .bool false, .bool false, .slice none 0 0, .int .u64 0, .string ⟨#[]⟩, .slice none 0 0])))
theorem sz43 : qx Tryz.prog 43 1 := (by kernel_rfl : (Tryz.prog.info? 43).map (·.size) = some 1)
theorem sz45 : qx Tryz.prog 45 2 := (by kernel_rfl : (Tryz.prog.info? 45).map (·.size) = some 2)
theorem sz63 : qx Tryz.prog 63 1 := (by kernel_rfl : (Tryz.prog.info? 63).map (·.size) = some 1)
theorem zr65 : xx Tryz.prog 65 (.agg #[.pointer none, .slice none 0 0]) := (by kernel_rfl : (Tryz.prog.info? 65).map (·.zero) = some (some (.agg #[.pointer none, .slice none 0 0])))
theorem inf5 : InfoIs Tryz.prog 5 (.int .u8 0) 1 1 := (by kernel_rfl : (Tryz.prog.info? 5).map (fun i => (i.zero, i.size, i.bytes)) = some (some (.int .u8 0), 1, 1))
theorem pl24 : Places Tryz.prog 24 [(0, 1), (1, 1)] := ⟨_, Tryz.underlying24, by kernel_rfl⟩
theorem pl28 : Places Tryz.prog 28 [(0, 1), (1, 1), (2, 2), (4, 1), (5, 1), (6, 1)] := ⟨_, Tryz.underlying28, by kernel_rfl⟩
theorem en5 : qy Tryz.prog 5 := ⟨_, Tryz.func5, by kernel_rfl, by kernel_rfl⟩
theorem en6 : qy Tryz.prog 6 := ⟨_, Tryz.func6, by kernel_rfl, by kernel_rfl⟩
theorem en8 : qy Tryz.prog 8 := ⟨_, Tryz.func8, by kernel_rfl, by kernel_rfl⟩
theorem en9 : qy Tryz.prog 9 := ⟨_, Tryz.func9, by kernel_rfl, by kernel_rfl⟩
theorem en13 : qy Tryz.prog 13 := ⟨_, Tryz.func13, by kernel_rfl, by kernel_rfl⟩
theorem en14 : qy Tryz.prog 14 := ⟨_, Tryz.func14, by kernel_rfl, by kernel_rfl⟩
theorem en15 : qy Tryz.prog 15 := ⟨_, Tryz.func15, by kernel_rfl, by kernel_rfl⟩
theorem en16 : qy Tryz.prog 16 := ⟨_, Tryz.func16, by kernel_rfl, by kernel_rfl⟩
theorem en17 : qy Tryz.prog 17 := ⟨_, Tryz.func17, by kernel_rfl, by kernel_rfl⟩
theorem en18 : qy Tryz.prog 18 := ⟨_, Tryz.func18, by kernel_rfl, by kernel_rfl⟩
theorem en19 : qy Tryz.prog 19 := ⟨_, Tryz.func19, by kernel_rfl, by kernel_rfl⟩
theorem en20 : qy Tryz.prog 20 := ⟨_, Tryz.func20, by kernel_rfl, by kernel_rfl⟩
theorem en21 : qy Tryz.prog 21 := ⟨_, Tryz.func21, by kernel_rfl, by kernel_rfl⟩
theorem en22 : qy Tryz.prog 22 := ⟨_, Tryz.func22, by kernel_rfl, by kernel_rfl⟩
theorem en23 : qy Tryz.prog 23 := ⟨_, Tryz.func23, by kernel_rfl, by kernel_rfl⟩
theorem en24 : qy Tryz.prog 24 := ⟨_, Tryz.func24, by kernel_rfl, by kernel_rfl⟩
theorem jg : qy Tryz.prog 25 := ⟨_, Tryz.func25, by kernel_rfl, by kernel_rfl⟩
theorem en26 : qy Tryz.prog 26 := ⟨_, Tryz.func26, by kernel_rfl, by kernel_rfl⟩
theorem en27 : qy Tryz.prog 27 := ⟨_, Tryz.func27, by kernel_rfl, by kernel_rfl⟩
theorem en28 : qy Tryz.prog 28 := ⟨_, Tryz.func28, by kernel_rfl, by kernel_rfl⟩
theorem en29 : qy Tryz.prog 29 := ⟨_, Tryz.func29, by kernel_rfl, by kernel_rfl⟩
theorem en30 : qy Tryz.prog 30 := ⟨_, Tryz.func30, by kernel_rfl, by kernel_rfl⟩
theorem en34 : qy Tryz.prog 34 := ⟨_, Tryz.func34, by kernel_rfl, by kernel_rfl⟩
theorem en35 : qy Tryz.prog 35 := ⟨_, Tryz.func35, by kernel_rfl, by kernel_rfl⟩
theorem en36 : qy Tryz.prog 36 := ⟨_, Tryz.func36, by kernel_rfl, by kernel_rfl⟩
theorem en37 : qy Tryz.prog 37 := ⟨_, Tryz.func37, by kernel_rfl, by kernel_rfl⟩
theorem en38 : qy Tryz.prog 38 := ⟨_, Tryz.func38, by kernel_rfl, by kernel_rfl⟩
theorem en39 : qy Tryz.prog 39 := ⟨_, Tryz.func39, by kernel_rfl, by kernel_rfl⟩
theorem en42 : qy Tryz.prog 42 := ⟨_, Tryz.func42, by kernel_rfl, by kernel_rfl⟩
theorem en44 : qy Tryz.prog 44 := ⟨_, Tryz.func44, by kernel_rfl, by kernel_rfl⟩
theorem en45 : qy Tryz.prog 45 := ⟨_, Tryz.func45, by kernel_rfl, by kernel_rfl⟩
theorem en46 : qy Tryz.prog 46 := ⟨_, Tryz.func46, by kernel_rfl, by kernel_rfl⟩
theorem en47 : qy Tryz.prog 47 := ⟨_, Tryz.func47, by kernel_rfl, by kernel_rfl⟩
theorem en48 : qy Tryz.prog 48 := ⟨_, Tryz.func48, by kernel_rfl, by kernel_rfl⟩
theorem en49 : qy Tryz.prog 49 := ⟨_, Tryz.func49, by kernel_rfl, by kernel_rfl⟩
theorem en52 : qy Tryz.prog 52 := ⟨_, Tryz.func52, by kernel_rfl, by kernel_rfl⟩
theorem en58 : qy Tryz.prog 58 := ⟨_, Tryz.func58, by kernel_rfl, by kernel_rfl⟩
theorem en59 : qy Tryz.prog 59 := ⟨_, Tryz.func59, by kernel_rfl, by kernel_rfl⟩
theorem en60 : qy Tryz.prog 60 := ⟨_, Tryz.func60, by kernel_rfl, by kernel_rfl⟩
theorem en61 : qy Tryz.prog 61 := ⟨_, Tryz.func61, by kernel_rfl, by kernel_rfl⟩
theorem en62 : qy Tryz.prog 62 := ⟨_, Tryz.func62, by kernel_rfl, by kernel_rfl⟩
theorem en63 : qy Tryz.prog 63 := ⟨_, Tryz.func63, by kernel_rfl, by kernel_rfl⟩
theorem en65 : qy Tryz.prog 65 := ⟨_, Tryz.func65, by kernel_rfl, by kernel_rfl⟩
theorem en66 : qy Tryz.prog 66 := ⟨_, Tryz.func66, by kernel_rfl, by kernel_rfl⟩
theorem en67 : qy Tryz.prog 67 := ⟨_, Tryz.func67, by kernel_rfl, by kernel_rfl⟩
theorem en76 : qy Tryz.prog 76 := ⟨_, Tryz.func76, by kernel_rfl, by kernel_rfl⟩
theorem en77 : qy Tryz.prog 77 := ⟨_, Tryz.func77, by kernel_rfl, by kernel_rfl⟩
theorem en78 : qy Tryz.prog 78 := ⟨_, Tryz.func78, by kernel_rfl, by kernel_rfl⟩
theorem en79 : qy Tryz.prog 79 := ⟨_, Tryz.func79, by kernel_rfl, by kernel_rfl⟩
theorem en90 : qy Tryz.prog 90 := ⟨_, Tryz.func90, by kernel_rfl, by kernel_rfl⟩
theorem en92 : qy Tryz.prog 92 := ⟨_, Tryz.func92, by kernel_rfl, by kernel_rfl⟩
theorem en93 : qy Tryz.prog 93 := ⟨_, Tryz.func93, by kernel_rfl, by kernel_rfl⟩
theorem en95 : qy Tryz.prog 95 := ⟨_, Tryz.func95, by kernel_rfl, by kernel_rfl⟩
theorem en97 : qy Tryz.prog 97 := ⟨_, Tryz.func97, by kernel_rfl, by kernel_rfl⟩
theorem en98 : qy Tryz.prog 98 := ⟨_, Tryz.func98, by kernel_rfl, by kernel_rfl⟩
theorem en99 : qy Tryz.prog 99 := ⟨_, Tryz.func99, by kernel_rfl, by kernel_rfl⟩
theorem en122 : qy Tryz.prog 122 := ⟨_, Tryz.func122, by kernel_rfl, by kernel_rfl⟩
theorem en123 : qy Tryz.prog 123 := ⟨_, Tryz.func123, by kernel_rfl, by kernel_rfl⟩
theorem en125 : qy Tryz.prog 125 := ⟨_, Tryz.func125, by kernel_rfl, by kernel_rfl⟩
theorem en144 : qy Tryz.prog 144 := ⟨_, Tryz.func144, by kernel_rfl, by kernel_rfl⟩
theorem mixed : Tryz.prog.follows .mixedOrders = true := by kernel_rfl
end Go.Proofs.YtaleikoeklemmaaGreatDoor
