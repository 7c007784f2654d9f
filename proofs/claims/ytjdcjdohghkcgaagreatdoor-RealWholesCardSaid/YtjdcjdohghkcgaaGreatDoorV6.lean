/- Texts of this claim. -/
import Derived.Test.YtjdcjdohghkcgaaGreatDoorV5
import Derived.Test.YtjdcjdohghkcgaaGreatDoorProg
import Derived.KernelRfl
namespace Go.Proofs.YtjdcjdohghkcgaaGreatDoor
theorem sz3 : vc Tryz.prog 3 1 := (by kernel_rfl : (Tryz.prog.info? 3).map (·.size) = some 1)
theorem sz4 : vc Tryz.prog 4 1 := (by kernel_rfl : (Tryz.prog.info? 4).map (·.size) = some 1)
theorem sz5 : vc Tryz.prog 5 1 := (by kernel_rfl : (Tryz.prog.info? 5).map (·.size) = some 1)
theorem zr5 : oc Tryz.prog 5 (.int .u8 0) := (by kernel_rfl : (Tryz.prog.info? 5).map (·.zero) = some (some (.int .u8 0)))
theorem sz9 : vc Tryz.prog 9 1 := (by kernel_rfl : (Tryz.prog.info? 9).map (·.size) = some 1)
theorem zik : vc Tryz.prog 32 1 := (by kernel_rfl : (Tryz.prog.info? 32).map (·.size) = some 1)
theorem zsz : vc Tryz.prog 40 1 := (by kernel_rfl : (Tryz.prog.info? 40).map (·.size) = some 1)
theorem ve : vc Tryz.prog 42 2 := (by kernel_rfl : (Tryz.prog.info? 42).map (·.size) = some 2)
theorem od : oc Tryz.prog 42 (.agg #[.bool false, .slice none 0 0]) := (by kernel_rfl : (Tryz.prog.info? 42).map (·.zero) = some (some (.agg #[.bool false, .slice none 0 0])))
theorem sz78 : vc Tryz.prog 78 1 := (by kernel_rfl : (Tryz.prog.info? 78).map (·.size) = some 1)
theorem sz97 : vc Tryz.prog 97 1 := (by kernel_rfl : (Tryz.prog.info? 97).map (·.size) = some 1)
theorem oz : vc Tryz.prog 99 2 := (by kernel_rfl : (Tryz.prog.info? 99).map (·.size) = some 2)
theorem zr99 : oc Tryz.prog 99 (.agg #[.bool false, .slice none 0 0]) := (by kernel_rfl : (Tryz.prog.info? 99).map (·.zero) = some (some (.agg #[.bool false, .slice none 0 0])))
theorem og : vc Tryz.prog 144 1 := (by kernel_rfl : (Tryz.prog.info? 144).map (·.size) = some 1)
theorem zr185 : oc Tryz.prog 185 (.agg #[.int .u8 0, .int .u8 0, .int .u8 0, .int .u8 0, .int .u8 0, .int .u8 0, .int .u8 0, .int .u8 0, .int .u8 0, .int .u8 0, .int .u8 0, .int .u8 0, .int .u8 0, .int .u8 0, .int .u8 0, .int .u8 0, .int .u8 0, .int .u8 0, .int .u8 0, .int .u8 0, .int .u8 0, .int .u8 0, .int .u8 0, .int .u8 0, .int .u8 0, .int .u8 0, .int .u8 0, .int .u8 0, .int .u8 0, .int .u8 0, .int .u8 0, .int .u8 0]) := (by kernel_rfl : (Tryz.prog.info? 185).map (·.zero) = some (some (.agg #[.int .u8 0, .int .u8 0, .int .u8 0, .int .u8 0, .int .u8 0, .int .u8 0, .int .u8 0, .int .u8 0, .int .u8 0, .int .u8 0, .int .u8 0, .int .u8 0, .int .u8 0, .int .u8 0, .int .u8 0, .int .u8 0, .int .u8 0, .int .u8 0, .int .u8 0, .int .u8 0, .int .u8 0, .int .u8 0, .int .u8 0, .int .u8 0, .int .u8 0, .int .u8 0, .int .u8 0, .int .u8 0, .int .u8 0, .int .u8 0, .int .u8 0, .int .u8 0])))
theorem zr188 : oc Tryz.prog 188 (.agg #[.int .u8 0, .int .u8 0, .int .u8 0, .int .u8 0, .int .u8 0, .int .u8 0, .int .u8 0, .int .u8 0, .int .u8 0, .int .u8 0, .int .u8 0, .int .u8 0, .int .u8 0, .int .u8 0, .int .u8 0, .int .u8 0, .int .u8 0, .int .u8 0, .int .u8 0, .int .u8 0, .int .u8 0, .int .u8 0, .int .u8 0, .int .u8 0]) := (by kernel_rfl : (Tryz.prog.info? 188).map (·.zero) = some (some (.agg #[.int .u8 0, .int .u8 0, .int .u8 0, .int .u8 0, .int .u8 0, .int .u8 0, .int .u8 0, .int .u8 0, .int .u8 0, .int .u8 0, .int .u8 0, .int .u8 0, .int .u8 0, .int .u8 0, .int .u8 0, .int .u8 0, .int .u8 0, .int .u8 0, .int .u8 0, .int .u8 0, .int .u8 0, .int .u8 0, .int .u8 0, .int .u8 0])))
theorem zax : vc Tryz.prog 191 800 := (by kernel_rfl : (Tryz.prog.info? 191).map (·.size) = some 800)
theorem zr229 : oc Tryz.prog 229 (.agg #[.int .u64 0, .int .u64 0, .int .i64 0]) := (by kernel_rfl : (Tryz.prog.info? 229).map (·.zero) = some (some (.agg #[.int .u64 0, .int .u64 0, .int .i64 0])))
theorem sz253 : vc Tryz.prog 253 2 := (by kernel_rfl : (Tryz.prog.info? 253).map (·.size) = some 2)
theorem sz257 : vc Tryz.prog 257 2 := (by kernel_rfl : (Tryz.prog.info? 257).map (·.size) = some 2)
theorem zoq : InfoIs Tryz.prog 5 (.int .u8 0) 1 1 := (by kernel_rfl : (Tryz.prog.info? 5).map (fun i => (i.zero, i.size, i.bytes)) = some (some (.int .u8 0), 1, 1))
theorem pl42 : Places Tryz.prog 42 [(0, 1), (1, 1)] := ⟨_, Tryz.underlying42, by kernel_rfl⟩
theorem en12 : qp Tryz.prog 12 := ⟨_, Tryz.func12, by kernel_rfl, by kernel_rfl⟩
theorem en14 : qp Tryz.prog 14 := ⟨_, Tryz.func14, by kernel_rfl, by kernel_rfl⟩
theorem en15 : qp Tryz.prog 15 := ⟨_, Tryz.func15, by kernel_rfl, by kernel_rfl⟩
theorem en16 : qp Tryz.prog 16 := ⟨_, Tryz.func16, by kernel_rfl, by kernel_rfl⟩
theorem en17 : qp Tryz.prog 17 := ⟨_, Tryz.func17, by kernel_rfl, by kernel_rfl⟩
theorem en18 : qp Tryz.prog 18 := ⟨_, Tryz.func18, by kernel_rfl, by kernel_rfl⟩
theorem en19 : qp Tryz.prog 19 := ⟨_, Tryz.func19, by kernel_rfl, by kernel_rfl⟩
theorem en20 : qp Tryz.prog 20 := ⟨_, Tryz.func20, by kernel_rfl, by kernel_rfl⟩
theorem en21 : qp Tryz.prog 21 := ⟨_, Tryz.func21, by kernel_rfl, by kernel_rfl⟩
theorem en27 : qp Tryz.prog 27 := ⟨_, Tryz.func27, by kernel_rfl, by kernel_rfl⟩
theorem en39 : qp Tryz.prog 39 := ⟨_, Tryz.func39, by kernel_rfl, by kernel_rfl⟩
theorem en42 : qp Tryz.prog 42 := ⟨_, Tryz.func42, by kernel_rfl, by kernel_rfl⟩
theorem en44 : qp Tryz.prog 44 := ⟨_, Tryz.func44, by kernel_rfl, by kernel_rfl⟩
theorem en47 : qp Tryz.prog 47 := ⟨_, Tryz.func47, by kernel_rfl, by kernel_rfl⟩
theorem en49 : qp Tryz.prog 49 := ⟨_, Tryz.func49, by kernel_rfl, by kernel_rfl⟩
theorem en50 : qp Tryz.prog 50 := ⟨_, Tryz.func50, by kernel_rfl, by kernel_rfl⟩
theorem en51 : qp Tryz.prog 51 := ⟨_, Tryz.func51, by kernel_rfl, by kernel_rfl⟩
theorem en52 : qp Tryz.prog 52 := ⟨_, Tryz.func52, by kernel_rfl, by kernel_rfl⟩
theorem en53 : qp Tryz.prog 53 := ⟨_, Tryz.func53, by kernel_rfl, by kernel_rfl⟩
theorem en54 : qp Tryz.prog 54 := ⟨_, Tryz.func54, by kernel_rfl, by kernel_rfl⟩
theorem en55 : qp Tryz.prog 55 := ⟨_, Tryz.func55, by kernel_rfl, by kernel_rfl⟩
theorem en56 : qp Tryz.prog 56 := ⟨_, Tryz.func56, by kernel_rfl, by kernel_rfl⟩
theorem en57 : qp Tryz.prog 57 := ⟨_, Tryz.func57, by kernel_rfl, by kernel_rfl⟩
theorem en58 : qp Tryz.prog 58 := ⟨_, Tryz.func58, by kernel_rfl, by kernel_rfl⟩
theorem en59 : qp Tryz.prog 59 := ⟨_, Tryz.func59, by kernel_rfl, by kernel_rfl⟩
theorem en60 : qp Tryz.prog 60 := ⟨_, Tryz.func60, by kernel_rfl, by kernel_rfl⟩
theorem en61 : qp Tryz.prog 61 := ⟨_, Tryz.func61, by kernel_rfl, by kernel_rfl⟩
theorem en62 : qp Tryz.prog 62 := ⟨_, Tryz.func62, by kernel_rfl, by kernel_rfl⟩
theorem en63 : qp Tryz.prog 63 := ⟨_, Tryz.func63, by kernel_rfl, by kernel_rfl⟩
theorem en64 : qp Tryz.prog 64 := ⟨_, Tryz.func64, by kernel_rfl, by kernel_rfl⟩
theorem en65 : qp Tryz.prog 65 := ⟨_, Tryz.func65, by kernel_rfl, by kernel_rfl⟩
theorem en66 : qp Tryz.prog 66 := ⟨_, Tryz.func66, by kernel_rfl, by kernel_rfl⟩
theorem en67 : qp Tryz.prog 67 := ⟨_, Tryz.func67, by kernel_rfl, by kernel_rfl⟩
theorem en69 : qp Tryz.prog 69 := ⟨_, Tryz.func69, by kernel_rfl, by kernel_rfl⟩
theorem en70 : qp Tryz.prog 70 := ⟨_, Tryz.func70, by kernel_rfl, by kernel_rfl⟩
theorem en82 : qp Tryz.prog 82 := ⟨_, Tryz.func82, by kernel_rfl, by kernel_rfl⟩
theorem en85 : qp Tryz.prog 85 := ⟨_, Tryz.func85, by kernel_rfl, by kernel_rfl⟩
theorem en86 : qp Tryz.prog 86 := ⟨_, Tryz.func86, by kernel_rfl, by kernel_rfl⟩
theorem en88 : qp Tryz.prog 88 := ⟨_, Tryz.func88, by kernel_rfl, by kernel_rfl⟩
theorem en89 : qp Tryz.prog 89 := ⟨_, Tryz.func89, by kernel_rfl, by kernel_rfl⟩
theorem en90 : qp Tryz.prog 90 := ⟨_, Tryz.func90, by kernel_rfl, by kernel_rfl⟩
theorem en91 : qp Tryz.prog 91 := ⟨_, Tryz.func91, by kernel_rfl, by kernel_rfl⟩
theorem en92 : qp Tryz.prog 92 := ⟨_, Tryz.func92, by kernel_rfl, by kernel_rfl⟩
theorem en93 : qp Tryz.prog 93 := ⟨_, Tryz.func93, by kernel_rfl, by kernel_rfl⟩
theorem en96 : qp Tryz.prog 96 := ⟨_, Tryz.func96, by kernel_rfl, by kernel_rfl⟩
theorem en101 : qp Tryz.prog 101 := ⟨_, Tryz.func101, by kernel_rfl, by kernel_rfl⟩
theorem en107 : qp Tryz.prog 107 := ⟨_, Tryz.func107, by kernel_rfl, by kernel_rfl⟩
theorem en108 : qp Tryz.prog 108 := ⟨_, Tryz.func108, by kernel_rfl, by kernel_rfl⟩
theorem en109 : qp Tryz.prog 109 := ⟨_, Tryz.func109, by kernel_rfl, by kernel_rfl⟩
theorem en110 : qp Tryz.prog 110 := ⟨_, Tryz.func110, by kernel_rfl, by kernel_rfl⟩
theorem en115 : qp Tryz.prog 115 := ⟨_, Tryz.func115, by kernel_rfl, by kernel_rfl⟩
theorem en116 : qp Tryz.prog 116 := ⟨_, Tryz.func116, by kernel_rfl, by kernel_rfl⟩
theorem en121 : qp Tryz.prog 121 := ⟨_, Tryz.func121, by kernel_rfl, by kernel_rfl⟩
theorem en122 : qp Tryz.prog 122 := ⟨_, Tryz.func122, by kernel_rfl, by kernel_rfl⟩
theorem en124 : qp Tryz.prog 124 := ⟨_, Tryz.func124, by kernel_rfl, by kernel_rfl⟩
theorem en127 : qp Tryz.prog 127 := ⟨_, Tryz.func127, by kernel_rfl, by kernel_rfl⟩
theorem en128 : qp Tryz.prog 128 := ⟨_, Tryz.func128, by kernel_rfl, by kernel_rfl⟩
theorem en129 : qp Tryz.prog 129 := ⟨_, Tryz.func129, by kernel_rfl, by kernel_rfl⟩
theorem en130 : qp Tryz.prog 130 := ⟨_, Tryz.func130, by kernel_rfl, by kernel_rfl⟩
theorem en142 : qp Tryz.prog 142 := ⟨_, Tryz.func142, by kernel_rfl, by kernel_rfl⟩
theorem en147 : qp Tryz.prog 147 := ⟨_, Tryz.func147, by kernel_rfl, by kernel_rfl⟩
theorem en154 : qp Tryz.prog 154 := ⟨_, Tryz.func154, by kernel_rfl, by kernel_rfl⟩
theorem en155 : qp Tryz.prog 155 := ⟨_, Tryz.func155, by kernel_rfl, by kernel_rfl⟩
theorem en157 : qp Tryz.prog 157 := ⟨_, Tryz.func157, by kernel_rfl, by kernel_rfl⟩
theorem en158 : qp Tryz.prog 158 := ⟨_, Tryz.func158, by kernel_rfl, by kernel_rfl⟩
theorem en162 : qp Tryz.prog 162 := ⟨_, Tryz.func162, by kernel_rfl, by kernel_rfl⟩
theorem en164 : qp Tryz.prog 164 := ⟨_, Tryz.func164, by kernel_rfl, by kernel_rfl⟩
theorem en169 : qp Tryz.prog 169 := ⟨_, Tryz.func169, by kernel_rfl, by kernel_rfl⟩
theorem en170 : qp Tryz.prog 170 := ⟨_, Tryz.func170, by kernel_rfl, by kernel_rfl⟩
theorem en172 : qp Tryz.prog 172 := ⟨_, Tryz.func172, by kernel_rfl, by kernel_rfl⟩
theorem en173 : qp Tryz.prog 173 := ⟨_, Tryz.func173, by kernel_rfl, by kernel_rfl⟩
theorem en179 : qp Tryz.prog 179 := ⟨_, Tryz.func179, by kernel_rfl, by kernel_rfl⟩
theorem en180 : qp Tryz.prog 180 := ⟨_, Tryz.func180, by kernel_rfl, by kernel_rfl⟩
theorem en181 : qp Tryz.prog 181 := ⟨_, Tryz.func181, by kernel_rfl, by kernel_rfl⟩
theorem en183 : qp Tryz.prog 183 := ⟨_, Tryz.func183, by kernel_rfl, by kernel_rfl⟩
theorem en184 : qp Tryz.prog 184 := ⟨_, Tryz.func184, by kernel_rfl, by kernel_rfl⟩
theorem en190 : qp Tryz.prog 190 := ⟨_, Tryz.func190, by kernel_rfl, by kernel_rfl⟩
theorem en191 : qp Tryz.prog 191 := ⟨_, Tryz.func191, by kernel_rfl, by kernel_rfl⟩
theorem en192 : qp Tryz.prog 192 := ⟨_, Tryz.func192, by kernel_rfl, by kernel_rfl⟩
theorem en193 : qp Tryz.prog 193 := ⟨_, Tryz.func193, by kernel_rfl, by kernel_rfl⟩
theorem en194 : qp Tryz.prog 194 := ⟨_, Tryz.func194, by kernel_rfl, by kernel_rfl⟩
theorem en195 : qp Tryz.prog 195 := ⟨_, Tryz.func195, by kernel_rfl, by kernel_rfl⟩
theorem en196 : qp Tryz.prog 196 := ⟨_, Tryz.func196, by kernel_rfl, by kernel_rfl⟩
theorem en197 : qp Tryz.prog 197 := ⟨_, Tryz.func197, by kernel_rfl, by kernel_rfl⟩
theorem en198 : qp Tryz.prog 198 := ⟨_, Tryz.func198, by kernel_rfl, by kernel_rfl⟩
theorem en199 : qp Tryz.prog 199 := ⟨_, Tryz.func199, by kernel_rfl, by kernel_rfl⟩
theorem en200 : qp Tryz.prog 200 := ⟨_, Tryz.func200, by kernel_rfl, by kernel_rfl⟩
theorem en202 : qp Tryz.prog 202 := ⟨_, Tryz.func202, by kernel_rfl, by kernel_rfl⟩
theorem en203 : qp Tryz.prog 203 := ⟨_, Tryz.func203, by kernel_rfl, by kernel_rfl⟩
theorem en204 : qp Tryz.prog 204 := ⟨_, Tryz.func204, by kernel_rfl, by kernel_rfl⟩
theorem en205 : qp Tryz.prog 205 := ⟨_, Tryz.func205, by kernel_rfl, by kernel_rfl⟩
theorem en212 : qp Tryz.prog 212 := ⟨_, Tryz.func212, by kernel_rfl, by kernel_rfl⟩
theorem en216 : qp Tryz.prog 216 := ⟨_, Tryz.func216, by kernel_rfl, by kernel_rfl⟩
theorem en217 : qp Tryz.prog 217 := ⟨_, Tryz.func217, by kernel_rfl, by kernel_rfl⟩
theorem en220 : qp Tryz.prog 220 := ⟨_, Tryz.func220, by kernel_rfl, by kernel_rfl⟩
theorem mixed : Tryz.prog.follows .mixedOrders = true := by kernel_rfl
end Go.Proofs.YtjdcjdohghkcgaaGreatDoor
