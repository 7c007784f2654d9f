/- Texts of this claim. -/
import Derived.Test.YtebjkmjfcijebaaT4
import Derived.Test.YtebjkmjfcijebaaProg
import Derived.KernelRfl
namespace Go.Proofs.Ytebjkmjfcijebaa
theorem sz3 : ja Try.prog 3 1 := (by kernel_rfl : (Try.prog.info? 3).map (·.size) = some 1)
theorem zr3 : xu Try.prog 3 (.int .i64 0) := (by kernel_rfl : (Try.prog.info? 3).map (·.zero) = some (some (.int .i64 0)))
theorem sz4 : ja Try.prog 4 1 := (by kernel_rfl : (Try.prog.info? 4).map (·.size) = some 1)
theorem sz5 : ja Try.prog 5 1 := (by kernel_rfl : (Try.prog.info? 5).map (·.size) = some 1)
theorem sz9 : ja Try.prog 9 1 := (by kernel_rfl : (Try.prog.info? 9).map (·.size) = some 1)
theorem kl : ja Try.prog 22 1 := (by kernel_rfl : (Try.prog.info? 22).map (·.size) = some 1)
theorem qx : ja Try.prog 24 2 := (by kernel_rfl : (Try.prog.info? 24).map (·.size) = some 2)
theorem zr24 : xu Try.prog 24 (.agg #[.slice none 0 0, .int .i64 0]) := (by kernel_rfl : (Try.prog.info? 24).map (·.zero) = some (some (.agg #[.slice none 0 0, .int .i64 0])))
theorem vc : ja Try.prog 25 1 := (by kernel_rfl : (Try.prog.info? 25).map (·.size) = some 1)
theorem zr25 : xu Try.prog 25 (.int .u64 0) := (by kernel_rfl : (Try.prog.info? 25).map (·.zero) = some (some (.int .u64 0)))
theorem vk : ja Try.prog 40 2 := (by kernel_rfl : (Try.prog.info? 40).map (·.size) = some 2)
theorem zez : xu Try.prog 40 (.agg #[.bool false, .slice none 0 0]) := (by kernel_rfl : (Try.prog.info? 40).map (·.zero) = some (some (.agg #[.bool false, .slice none 0 0])))
theorem sz41 : ja Try.prog 41 1 := (by kernel_rfl : (Try.prog.info? 41).map (·.size) = some 1)
theorem vi : ja Try.prog 43 7 := (by kernel_rfl : (Try.prog.info? 43).map (·.size) = some 7)
theorem og : xu Try.prog 43 (.agg #[.int .i64 0, .bool false, .bool false, .slice none 0 0, .int .u64 0, .string ⟨#[]⟩, .slice none 0 0]) := (by kernel_rfl : (Try.prog.info? 43).map (·.zero) = some (some (.agg #[.int .i64 0, .bool false, .bool false, .slice none 0 0, .int .u64 0, .string ⟨#[]⟩, .slice none 0 0])))
theorem zr55 : xu Try.prog 55 (.agg #[.slice none 0 0, .int .i64 0, .int .i64 0]) := (by kernel_rfl : (Try.prog.info? 55).map (·.zero) = some (some (.agg #[.slice none 0 0, .int .i64 0, .int .i64 0])))
theorem xe : ja Try.prog 67 3 := (by kernel_rfl : (Try.prog.info? 67).map (·.size) = some 3)
theorem xw : xu Try.prog 67 (.agg #[.int .i64 0, .int .i64 0, .int .i64 0]) := (by kernel_rfl : (Try.prog.info? 67).map (·.zero) = some (some (.agg #[.int .i64 0, .int .i64 0, .int .i64 0])))
theorem zpx : ja Try.prog 75 3 := (by kernel_rfl : (Try.prog.info? 75).map (·.size) = some 3)
theorem zr75 : xu Try.prog 75 (.agg #[.int .i64 0, .int .i64 0, .int .i64 0]) := (by kernel_rfl : (Try.prog.info? 75).map (·.zero) = some (some (.agg #[.int .i64 0, .int .i64 0, .int .i64 0])))
theorem kk : ja Try.prog 107 4 := (by kernel_rfl : (Try.prog.info? 107).map (·.size) = some 4)
theorem zgx : xu Try.prog 107 (.agg #[.int .i64 0, .int .i64 0, .int .i64 0, .int .i64 0]) := (by kernel_rfl : (Try.prog.info? 107).map (·.zero) = some (some (.agg #[.int .i64 0, .int .i64 0, .int .i64 0, .int .i64 0])))
theorem inf3 : ygx Try.prog 3 (.int .i64 0) 1 8 := (by kernel_rfl : (Try.prog.info? 3).map (fun i => (i.zero, i.size, i.bytes)) = some (some (.int .i64 0), 1, 8))
theorem inf4 : ygx Try.prog 4 (.bool false) 1 1 := (by kernel_rfl : (Try.prog.info? 4).map (fun i => (i.zero, i.size, i.bytes)) = some (some (.bool false), 1, 1))
theorem inf5 : ygx Try.prog 5 (.int .u8 0) 1 1 := (by kernel_rfl : (Try.prog.info? 5).map (fun i => (i.zero, i.size, i.bytes)) = some (some (.int .u8 0), 1, 1))
theorem pl24 : zwv Try.prog 24 [(0, 1), (1, 1)] := ⟨_, Try.underlying24, by kernel_rfl⟩
theorem inf25 : ygx Try.prog 25 (.int .u64 0) 1 8 := (by kernel_rfl : (Try.prog.info? 25).map (fun i => (i.zero, i.size, i.bytes)) = some (some (.int .u64 0), 1, 8))
theorem pl40 : zwv Try.prog 40 [(0, 1), (1, 1)] := ⟨_, Try.underlying40, by kernel_rfl⟩
theorem zkx : zwv Try.prog 43 [(0, 1), (1, 1), (2, 2), (4, 1), (5, 1), (6, 1)] := ⟨_, Try.underlying43, by kernel_rfl⟩
theorem pl55 : zwv Try.prog 55 [(0, 2), (2, 1)] := ⟨_, Try.underlying55, by kernel_rfl⟩
theorem pl67 : zwv Try.prog 67 [(0, 1), (1, 1), (2, 1)] := ⟨_, Try.underlying67, by kernel_rfl⟩
theorem pl75 : zwv Try.prog 75 [(0, 1), (1, 1), (2, 1)] := ⟨_, Try.underlying75, by kernel_rfl⟩
theorem pl107 : zwv Try.prog 107 [(0, 1), (1, 1), (2, 1), (3, 1)] := ⟨_, Try.underlying107, by kernel_rfl⟩
theorem en4 : vj Try.prog 4 := ⟨_, Try.func4, by kernel_rfl, by kernel_rfl⟩
theorem en5 : vj Try.prog 5 := ⟨_, Try.func5, by kernel_rfl, by kernel_rfl⟩
theorem en6 : vj Try.prog 6 := ⟨_, Try.func6, by kernel_rfl, by kernel_rfl⟩
theorem en7 : vj Try.prog 7 := ⟨_, Try.func7, by kernel_rfl, by kernel_rfl⟩
theorem en8 : vj Try.prog 8 := ⟨_, Try.func8, by kernel_rfl, by kernel_rfl⟩
theorem en9 : vj Try.prog 9 := ⟨_, Try.func9, by kernel_rfl, by kernel_rfl⟩
theorem en10 : vj Try.prog 10 := ⟨_, Try.func10, by kernel_rfl, by kernel_rfl⟩
theorem en11 : vj Try.prog 11 := ⟨_, Try.func11, by kernel_rfl, by kernel_rfl⟩
theorem en12 : vj Try.prog 12 := ⟨_, Try.func12, by kernel_rfl, by kernel_rfl⟩
theorem en13 : vj Try.prog 13 := ⟨_, Try.func13, by kernel_rfl, by kernel_rfl⟩
theorem en14 : vj Try.prog 14 := ⟨_, Try.func14, by kernel_rfl, by kernel_rfl⟩
theorem en15 : vj Try.prog 15 := ⟨_, Try.func15, by kernel_rfl, by kernel_rfl⟩
theorem en16 : vj Try.prog 16 := ⟨_, Try.func16, by kernel_rfl, by kernel_rfl⟩
theorem en17 : vj Try.prog 17 := ⟨_, Try.func17, by kernel_rfl, by kernel_rfl⟩
theorem en18 : vj Try.prog 18 := ⟨_, Try.func18, by kernel_rfl, by kernel_rfl⟩
theorem en19 : vj Try.prog 19 := ⟨_, Try.func19, by kernel_rfl, by kernel_rfl⟩
theorem en20 : vj Try.prog 20 := ⟨_, Try.func20, by kernel_rfl, by kernel_rfl⟩
theorem en21 : vj Try.prog 21 := ⟨_, Try.func21, by kernel_rfl, by kernel_rfl⟩
theorem en22 : vj Try.prog 22 := ⟨_, Try.func22, by kernel_rfl, by kernel_rfl⟩
theorem en24 : vj Try.prog 24 := ⟨_, Try.func24, by kernel_rfl, by kernel_rfl⟩
theorem en25 : vj Try.prog 25 := ⟨_, Try.func25, by kernel_rfl, by kernel_rfl⟩
theorem en26 : vj Try.prog 26 := ⟨_, Try.func26, by kernel_rfl, by kernel_rfl⟩
theorem ycx : vj Try.prog 27 := ⟨_, Try.func27, by kernel_rfl, by kernel_rfl⟩
theorem en28 : vj Try.prog 28 := ⟨_, Try.func28, by kernel_rfl, by kernel_rfl⟩
theorem en29 : vj Try.prog 29 := ⟨_, Try.func29, by kernel_rfl, by kernel_rfl⟩
theorem en30 : vj Try.prog 30 := ⟨_, Try.func30, by kernel_rfl, by kernel_rfl⟩
theorem en31 : vj Try.prog 31 := ⟨_, Try.func31, by kernel_rfl, by kernel_rfl⟩
theorem en32 : vj Try.prog 32 := ⟨_, Try.func32, by kernel_rfl, by kernel_rfl⟩
theorem en33 : vj Try.prog 33 := ⟨_, Try.func33, by kernel_rfl, by kernel_rfl⟩
theorem en34 : vj Try.prog 34 := ⟨_, Try.func34, by kernel_rfl, by kernel_rfl⟩
theorem en35 : vj Try.prog 35 := ⟨_, Try.func35, by kernel_rfl, by kernel_rfl⟩
theorem en36 : vj Try.prog 36 := ⟨_, Try.func36, by kernel_rfl, by kernel_rfl⟩
theorem en37 : vj Try.prog 37 := ⟨_, Try.func37, by kernel_rfl, by kernel_rfl⟩
theorem en38 : vj Try.prog 38 := ⟨_, Try.func38, by kernel_rfl, by kernel_rfl⟩
theorem en39 : vj Try.prog 39 := ⟨_, Try.func39, by kernel_rfl, by kernel_rfl⟩
theorem en40 : vj Try.prog 40 := ⟨_, Try.func40, by kernel_rfl, by kernel_rfl⟩
theorem en41 : vj Try.prog 41 := ⟨_, Try.func41, by kernel_rfl, by kernel_rfl⟩
theorem en42 : vj Try.prog 42 := ⟨_, Try.func42, by kernel_rfl, by kernel_rfl⟩
theorem en43 : vj Try.prog 43 := ⟨_, Try.func43, by kernel_rfl, by kernel_rfl⟩
theorem en45 : vj Try.prog 45 := ⟨_, Try.func45, by kernel_rfl, by kernel_rfl⟩
theorem en46 : vj Try.prog 46 := ⟨_, Try.func46, by kernel_rfl, by kernel_rfl⟩
theorem en47 : vj Try.prog 47 := ⟨_, Try.func47, by kernel_rfl, by kernel_rfl⟩
theorem en48 : vj Try.prog 48 := ⟨_, Try.func48, by kernel_rfl, by kernel_rfl⟩
theorem en49 : vj Try.prog 49 := ⟨_, Try.func49, by kernel_rfl, by kernel_rfl⟩
theorem en50 : vj Try.prog 50 := ⟨_, Try.func50, by kernel_rfl, by kernel_rfl⟩
theorem en51 : vj Try.prog 51 := ⟨_, Try.func51, by kernel_rfl, by kernel_rfl⟩
theorem en52 : vj Try.prog 52 := ⟨_, Try.func52, by kernel_rfl, by kernel_rfl⟩
theorem en53 : vj Try.prog 53 := ⟨_, Try.func53, by kernel_rfl, by kernel_rfl⟩
theorem en54 : vj Try.prog 54 := ⟨_, Try.func54, by kernel_rfl, by kernel_rfl⟩
theorem en55 : vj Try.prog 55 := ⟨_, Try.func55, by kernel_rfl, by kernel_rfl⟩
theorem en56 : vj Try.prog 56 := ⟨_, Try.func56, by kernel_rfl, by kernel_rfl⟩
theorem en57 : vj Try.prog 57 := ⟨_, Try.func57, by kernel_rfl, by kernel_rfl⟩
theorem en58 : vj Try.prog 58 := ⟨_, Try.func58, by kernel_rfl, by kernel_rfl⟩
theorem en59 : vj Try.prog 59 := ⟨_, Try.func59, by kernel_rfl, by kernel_rfl⟩
theorem en60 : vj Try.prog 60 := ⟨_, Try.func60, by kernel_rfl, by kernel_rfl⟩
theorem en63 : vj Try.prog 63 := ⟨_, Try.func63, by kernel_rfl, by kernel_rfl⟩
theorem en64 : vj Try.prog 64 := ⟨_, Try.func64, by kernel_rfl, by kernel_rfl⟩
theorem en65 : vj Try.prog 65 := ⟨_, Try.func65, by kernel_rfl, by kernel_rfl⟩
theorem en66 : vj Try.prog 66 := ⟨_, Try.func66, by kernel_rfl, by kernel_rfl⟩
theorem en67 : vj Try.prog 67 := ⟨_, Try.func67, by kernel_rfl, by kernel_rfl⟩
theorem en68 : vj Try.prog 68 := ⟨_, Try.func68, by kernel_rfl, by kernel_rfl⟩
theorem en69 : vj Try.prog 69 := ⟨_, Try.func69, by kernel_rfl, by kernel_rfl⟩
theorem en70 : vj Try.prog 70 := ⟨_, Try.func70, by kernel_rfl, by kernel_rfl⟩
theorem en71 : vj Try.prog 71 := ⟨_, Try.func71, by kernel_rfl, by kernel_rfl⟩
theorem en73 : vj Try.prog 73 := ⟨_, Try.func73, by kernel_rfl, by kernel_rfl⟩
theorem en74 : vj Try.prog 74 := ⟨_, Try.func74, by kernel_rfl, by kernel_rfl⟩
theorem en75 : vj Try.prog 75 := ⟨_, Try.func75, by kernel_rfl, by kernel_rfl⟩
theorem en78 : vj Try.prog 78 := ⟨_, Try.func78, by kernel_rfl, by kernel_rfl⟩
theorem en80 : vj Try.prog 80 := ⟨_, Try.func80, by kernel_rfl, by kernel_rfl⟩
theorem en81 : vj Try.prog 81 := ⟨_, Try.func81, by kernel_rfl, by kernel_rfl⟩
theorem en82 : vj Try.prog 82 := ⟨_, Try.func82, by kernel_rfl, by kernel_rfl⟩
theorem en83 : vj Try.prog 83 := ⟨_, Try.func83, by kernel_rfl, by kernel_rfl⟩
theorem en84 : vj Try.prog 84 := ⟨_, Try.func84, by kernel_rfl, by kernel_rfl⟩
theorem en87 : vj Try.prog 87 := ⟨_, Try.func87, by kernel_rfl, by kernel_rfl⟩
theorem en88 : vj Try.prog 88 := ⟨_, Try.func88, by kernel_rfl, by kernel_rfl⟩
theorem en90 : vj Try.prog 90 := ⟨_, Try.func90, by kernel_rfl, by kernel_rfl⟩
theorem en95 : vj Try.prog 95 := ⟨_, Try.func95, by kernel_rfl, by kernel_rfl⟩
theorem vu : Try.prog.follows .mixedOrders = true := by kernel_rfl
end Go.Proofs.Ytebjkmjfcijebaa
