/- The sizes and noughts of the types; the functions that have bodies. Closed facts. -/
import Derived.Test.YtjdcjdohghkcgaaGreatDoorP5
import Derived.Test.YtjdcjdohghkcgaaGreatDoorProg
import Derived.KernelRfl
namespace Go.Proofs.YtjdcjdohghkcgaaGreatDoor
theorem sz3 : SizeIs Tryz.prog 3 1 := (by kernel_rfl : (Tryz.prog.info? 3).map (·.size) = some 1)
theorem sz4 : SizeIs Tryz.prog 4 1 := (by kernel_rfl : (Tryz.prog.info? 4).map (·.size) = some 1)
theorem sz5 : SizeIs Tryz.prog 5 1 := (by kernel_rfl : (Tryz.prog.info? 5).map (·.size) = some 1)
theorem zr5 : ZeroIs Tryz.prog 5 (.int .u8 0) := (by kernel_rfl : (Tryz.prog.info? 5).map (·.zero) = some (some (.int .u8 0)))
theorem sz9 : SizeIs Tryz.prog 9 1 := (by kernel_rfl : (Tryz.prog.info? 9).map (·.size) = some 1)
theorem sz32 : SizeIs Tryz.prog 32 1 := (by kernel_rfl : (Tryz.prog.info? 32).map (·.size) = some 1)
theorem sz78 : SizeIs Tryz.prog 78 1 := (by kernel_rfl : (Tryz.prog.info? 78).map (·.size) = some 1)
theorem sz144 : SizeIs Tryz.prog 144 1 := (by kernel_rfl : (Tryz.prog.info? 144).map (·.size) = some 1)
theorem zr185 : ZeroIs Tryz.prog 185 (.agg #[.int .u8 0, .int .u8 0, .int .u8 0, .int .u8 0, .int .u8 0, .int .u8 0, .int .u8 0, .int .u8 0, .int .u8 0, .int .u8 0, .int .u8 0, .int .u8 0, .int .u8 0, .int .u8 0, .int .u8 0, .int .u8 0, .int .u8 0, .int .u8 0, .int .u8 0, .int .u8 0, .int .u8 0, .int .u8 0, .int .u8 0, .int .u8 0, .int .u8 0, .int .u8 0, .int .u8 0, .int .u8 0, .int .u8 0, .int .u8 0, .int .u8 0, .int .u8 0]) := (by kernel_rfl : (Tryz.prog.info? 185).map (·.zero) = some (some (.agg #[.int .u8 0, .int .u8 0, .int .u8 0, .int .u8 0, .int .u8 0, .int .u8 0, .int .u8 0, .int .u8 0, .int .u8 0, .int .u8 0, .int .u8 0, .int .u8 0, .int .u8 0, .int .u8 0, .int .u8 0, .int .u8 0, .int .u8 0, .int .u8 0, .int .u8 0, .int .u8 0, .int .u8 0, .int .u8 0, .int .u8 0, .int .u8 0, .int .u8 0, .int .u8 0, .int .u8 0, .int .u8 0, .int .u8 0, .int .u8 0, .int .u8 0, .int .u8 0])))
theorem sz191 : SizeIs Tryz.prog 191 800 := (by kernel_rfl : (Tryz.prog.info? 191).map (·.size) = some 800)
theorem zr229 : ZeroIs Tryz.prog 229 (.agg #[.int .u64 0, .int .u64 0, .int .i64 0]) := (by kernel_rfl : (Tryz.prog.info? 229).map (·.zero) = some (some (.agg #[.int .u64 0, .int .u64 0, .int .i64 0])))
theorem sz253 : SizeIs Tryz.prog 253 2 := (by kernel_rfl : (Tryz.prog.info? 253).map (·.size) = some 2)
theorem sz257 : SizeIs Tryz.prog 257 2 := (by kernel_rfl : (Tryz.prog.info? 257).map (·.size) = some 2)
theorem inf5 : InfoIs Tryz.prog 5 (.int .u8 0) 1 1 := (by kernel_rfl : (Tryz.prog.info? 5).map (fun i => (i.zero, i.size, i.bytes)) = some (some (.int .u8 0), 1, 1))
theorem en12 : Own_ Tryz.prog 12 := ⟨_, Tryz.func12, by kernel_rfl, by kernel_rfl⟩
theorem en13 : Own_ Tryz.prog 13 := ⟨_, Tryz.func13, by kernel_rfl, by kernel_rfl⟩
theorem en14 : Own_ Tryz.prog 14 := ⟨_, Tryz.func14, by kernel_rfl, by kernel_rfl⟩
theorem en15 : Own_ Tryz.prog 15 := ⟨_, Tryz.func15, by kernel_rfl, by kernel_rfl⟩
theorem en39 : Own_ Tryz.prog 39 := ⟨_, Tryz.func39, by kernel_rfl, by kernel_rfl⟩
theorem en40 : Own_ Tryz.prog 40 := ⟨_, Tryz.func40, by kernel_rfl, by kernel_rfl⟩
theorem en41 : Own_ Tryz.prog 41 := ⟨_, Tryz.func41, by kernel_rfl, by kernel_rfl⟩
theorem en42 : Own_ Tryz.prog 42 := ⟨_, Tryz.func42, by kernel_rfl, by kernel_rfl⟩
theorem en43 : Own_ Tryz.prog 43 := ⟨_, Tryz.func43, by kernel_rfl, by kernel_rfl⟩
theorem en44 : Own_ Tryz.prog 44 := ⟨_, Tryz.func44, by kernel_rfl, by kernel_rfl⟩
theorem en45 : Own_ Tryz.prog 45 := ⟨_, Tryz.func45, by kernel_rfl, by kernel_rfl⟩
theorem en47 : Own_ Tryz.prog 47 := ⟨_, Tryz.func47, by kernel_rfl, by kernel_rfl⟩
theorem en49 : Own_ Tryz.prog 49 := ⟨_, Tryz.func49, by kernel_rfl, by kernel_rfl⟩
theorem en50 : Own_ Tryz.prog 50 := ⟨_, Tryz.func50, by kernel_rfl, by kernel_rfl⟩
theorem en51 : Own_ Tryz.prog 51 := ⟨_, Tryz.func51, by kernel_rfl, by kernel_rfl⟩
theorem en52 : Own_ Tryz.prog 52 := ⟨_, Tryz.func52, by kernel_rfl, by kernel_rfl⟩
theorem en53 : Own_ Tryz.prog 53 := ⟨_, Tryz.func53, by kernel_rfl, by kernel_rfl⟩
theorem en59 : Own_ Tryz.prog 59 := ⟨_, Tryz.func59, by kernel_rfl, by kernel_rfl⟩
theorem en69 : Own_ Tryz.prog 69 := ⟨_, Tryz.func69, by kernel_rfl, by kernel_rfl⟩
theorem en70 : Own_ Tryz.prog 70 := ⟨_, Tryz.func70, by kernel_rfl, by kernel_rfl⟩
theorem en82 : Own_ Tryz.prog 82 := ⟨_, Tryz.func82, by kernel_rfl, by kernel_rfl⟩
theorem en83 : Own_ Tryz.prog 83 := ⟨_, Tryz.func83, by kernel_rfl, by kernel_rfl⟩
theorem en84 : Own_ Tryz.prog 84 := ⟨_, Tryz.func84, by kernel_rfl, by kernel_rfl⟩
theorem en85 : Own_ Tryz.prog 85 := ⟨_, Tryz.func85, by kernel_rfl, by kernel_rfl⟩
theorem en86 : Own_ Tryz.prog 86 := ⟨_, Tryz.func86, by kernel_rfl, by kernel_rfl⟩
theorem en87 : Own_ Tryz.prog 87 := ⟨_, Tryz.func87, by kernel_rfl, by kernel_rfl⟩
theorem en88 : Own_ Tryz.prog 88 := ⟨_, Tryz.func88, by kernel_rfl, by kernel_rfl⟩
theorem en89 : Own_ Tryz.prog 89 := ⟨_, Tryz.func89, by kernel_rfl, by kernel_rfl⟩
theorem en90 : Own_ Tryz.prog 90 := ⟨_, Tryz.func90, by kernel_rfl, by kernel_rfl⟩
theorem en91 : Own_ Tryz.prog 91 := ⟨_, Tryz.func91, by kernel_rfl, by kernel_rfl⟩
theorem en92 : Own_ Tryz.prog 92 := ⟨_, Tryz.func92, by kernel_rfl, by kernel_rfl⟩
theorem en96 : Own_ Tryz.prog 96 := ⟨_, Tryz.func96, by kernel_rfl, by kernel_rfl⟩
theorem en115 : Own_ Tryz.prog 115 := ⟨_, Tryz.func115, by kernel_rfl, by kernel_rfl⟩
theorem en116 : Own_ Tryz.prog 116 := ⟨_, Tryz.func116, by kernel_rfl, by kernel_rfl⟩
theorem en121 : Own_ Tryz.prog 121 := ⟨_, Tryz.func121, by kernel_rfl, by kernel_rfl⟩
theorem en122 : Own_ Tryz.prog 122 := ⟨_, Tryz.func122, by kernel_rfl, by kernel_rfl⟩
theorem en124 : Own_ Tryz.prog 124 := ⟨_, Tryz.func124, by kernel_rfl, by kernel_rfl⟩
theorem en127 : Own_ Tryz.prog 127 := ⟨_, Tryz.func127, by kernel_rfl, by kernel_rfl⟩
theorem en129 : Own_ Tryz.prog 129 := ⟨_, Tryz.func129, by kernel_rfl, by kernel_rfl⟩
theorem en142 : Own_ Tryz.prog 142 := ⟨_, Tryz.func142, by kernel_rfl, by kernel_rfl⟩
theorem en147 : Own_ Tryz.prog 147 := ⟨_, Tryz.func147, by kernel_rfl, by kernel_rfl⟩
theorem en154 : Own_ Tryz.prog 154 := ⟨_, Tryz.func154, by kernel_rfl, by kernel_rfl⟩
theorem en155 : Own_ Tryz.prog 155 := ⟨_, Tryz.func155, by kernel_rfl, by kernel_rfl⟩
theorem en157 : Own_ Tryz.prog 157 := ⟨_, Tryz.func157, by kernel_rfl, by kernel_rfl⟩
theorem en158 : Own_ Tryz.prog 158 := ⟨_, Tryz.func158, by kernel_rfl, by kernel_rfl⟩
theorem en162 : Own_ Tryz.prog 162 := ⟨_, Tryz.func162, by kernel_rfl, by kernel_rfl⟩
theorem en164 : Own_ Tryz.prog 164 := ⟨_, Tryz.func164, by kernel_rfl, by kernel_rfl⟩
theorem en170 : Own_ Tryz.prog 170 := ⟨_, Tryz.func170, by kernel_rfl, by kernel_rfl⟩
theorem en172 : Own_ Tryz.prog 172 := ⟨_, Tryz.func172, by kernel_rfl, by kernel_rfl⟩
theorem en173 : Own_ Tryz.prog 173 := ⟨_, Tryz.func173, by kernel_rfl, by kernel_rfl⟩
theorem en179 : Own_ Tryz.prog 179 := ⟨_, Tryz.func179, by kernel_rfl, by kernel_rfl⟩
theorem en180 : Own_ Tryz.prog 180 := ⟨_, Tryz.func180, by kernel_rfl, by kernel_rfl⟩
theorem en181 : Own_ Tryz.prog 181 := ⟨_, Tryz.func181, by kernel_rfl, by kernel_rfl⟩
theorem en183 : Own_ Tryz.prog 183 := ⟨_, Tryz.func183, by kernel_rfl, by kernel_rfl⟩
theorem en184 : Own_ Tryz.prog 184 := ⟨_, Tryz.func184, by kernel_rfl, by kernel_rfl⟩
theorem en190 : Own_ Tryz.prog 190 := ⟨_, Tryz.func190, by kernel_rfl, by kernel_rfl⟩
theorem en191 : Own_ Tryz.prog 191 := ⟨_, Tryz.func191, by kernel_rfl, by kernel_rfl⟩
theorem en192 : Own_ Tryz.prog 192 := ⟨_, Tryz.func192, by kernel_rfl, by kernel_rfl⟩
theorem en193 : Own_ Tryz.prog 193 := ⟨_, Tryz.func193, by kernel_rfl, by kernel_rfl⟩
theorem en194 : Own_ Tryz.prog 194 := ⟨_, Tryz.func194, by kernel_rfl, by kernel_rfl⟩
theorem en195 : Own_ Tryz.prog 195 := ⟨_, Tryz.func195, by kernel_rfl, by kernel_rfl⟩
theorem en196 : Own_ Tryz.prog 196 := ⟨_, Tryz.func196, by kernel_rfl, by kernel_rfl⟩
theorem en197 : Own_ Tryz.prog 197 := ⟨_, Tryz.func197, by kernel_rfl, by kernel_rfl⟩
theorem en198 : Own_ Tryz.prog 198 := ⟨_, Tryz.func198, by kernel_rfl, by kernel_rfl⟩
theorem en199 : Own_ Tryz.prog 199 := ⟨_, Tryz.func199, by kernel_rfl, by kernel_rfl⟩
theorem en200 : Own_ Tryz.prog 200 := ⟨_, Tryz.func200, by kernel_rfl, by kernel_rfl⟩
theorem en202 : Own_ Tryz.prog 202 := ⟨_, Tryz.func202, by kernel_rfl, by kernel_rfl⟩
theorem en203 : Own_ Tryz.prog 203 := ⟨_, Tryz.func203, by kernel_rfl, by kernel_rfl⟩
theorem en204 : Own_ Tryz.prog 204 := ⟨_, Tryz.func204, by kernel_rfl, by kernel_rfl⟩
theorem en205 : Own_ Tryz.prog 205 := ⟨_, Tryz.func205, by kernel_rfl, by kernel_rfl⟩
theorem en216 : Own_ Tryz.prog 216 := ⟨_, Tryz.func216, by kernel_rfl, by kernel_rfl⟩
theorem en217 : Own_ Tryz.prog 217 := ⟨_, Tryz.func217, by kernel_rfl, by kernel_rfl⟩
theorem en220 : Own_ Tryz.prog 220 := ⟨_, Tryz.func220, by kernel_rfl, by kernel_rfl⟩
theorem mixed : Tryz.prog.follows .mixedOrders = true := by kernel_rfl
end Go.Proofs.YtjdcjdohghkcgaaGreatDoor
