/- The sizes and noughts of the types; the functions that have bodies. Closed facts. -/
import Derived.Test.YtljndllhmdpjlaaGreatDoorH5
import Derived.Test.YtljndllhmdpjlaaGreatDoorProg
import Derived.KernelRfl
namespace Go.Proofs.YtljndllhmdpjlaaGreatDoor
theorem sz1 : SizeIs Tryz.prog 1 1 := (by kernel_rfl : (Tryz.prog.info? 1).map (·.size) = some 1)
theorem zr1 : ZeroIs Tryz.prog 1 (.nilFunc) := (by kernel_rfl : (Tryz.prog.info? 1).map (·.zero) = some (some (.nilFunc)))
theorem sz2 : SizeIs Tryz.prog 2 1 := (by kernel_rfl : (Tryz.prog.info? 2).map (·.size) = some 1)
theorem zr2 : ZeroIs Tryz.prog 2 (.int .i64 0) := (by kernel_rfl : (Tryz.prog.info? 2).map (·.zero) = some (some (.int .i64 0)))
theorem sz3 : SizeIs Tryz.prog 3 1 := (by kernel_rfl : (Tryz.prog.info? 3).map (·.size) = some 1)
theorem zr3 : ZeroIs Tryz.prog 3 (.int .i64 0) := (by kernel_rfl : (Tryz.prog.info? 3).map (·.zero) = some (some (.int .i64 0)))
theorem sz4 : SizeIs Tryz.prog 4 1 := (by kernel_rfl : (Tryz.prog.info? 4).map (·.size) = some 1)
theorem zr4 : ZeroIs Tryz.prog 4 (.bool false) := (by kernel_rfl : (Tryz.prog.info? 4).map (·.zero) = some (some (.bool false)))
theorem sz5 : SizeIs Tryz.prog 5 1 := (by kernel_rfl : (Tryz.prog.info? 5).map (·.size) = some 1)
theorem zr5 : ZeroIs Tryz.prog 5 (.int .u8 0) := (by kernel_rfl : (Tryz.prog.info? 5).map (·.zero) = some (some (.int .u8 0)))
theorem sz6 : SizeIs Tryz.prog 6 1 := (by kernel_rfl : (Tryz.prog.info? 6).map (·.size) = some 1)
theorem zr6 : ZeroIs Tryz.prog 6 (.int .u8 0) := (by kernel_rfl : (Tryz.prog.info? 6).map (·.zero) = some (some (.int .u8 0)))
theorem sz7 : SizeIs Tryz.prog 7 4 := (by kernel_rfl : (Tryz.prog.info? 7).map (·.size) = some 4)
theorem zr7 : ZeroIs Tryz.prog 7 (.agg #[.int .i64 0, .int .i64 0, .bool false, .int .u8 0]) := (by kernel_rfl : (Tryz.prog.info? 7).map (·.zero) = some (some (.agg #[.int .i64 0, .int .i64 0, .bool false, .int .u8 0])))
theorem sz8 : SizeIs Tryz.prog 8 4 := (by kernel_rfl : (Tryz.prog.info? 8).map (·.size) = some 4)
theorem zr8 : ZeroIs Tryz.prog 8 (.agg #[.int .i64 0, .int .i64 0, .bool false, .int .u8 0]) := (by kernel_rfl : (Tryz.prog.info? 8).map (·.zero) = some (some (.agg #[.int .i64 0, .int .i64 0, .bool false, .int .u8 0])))
theorem sz9 : SizeIs Tryz.prog 9 1 := (by kernel_rfl : (Tryz.prog.info? 9).map (·.size) = some 1)
theorem zr9 : ZeroIs Tryz.prog 9 (.string ⟨#[]⟩) := (by kernel_rfl : (Tryz.prog.info? 9).map (·.zero) = some (some (.string ⟨#[]⟩)))
theorem sz10 : SizeIs Tryz.prog 10 1 := (by kernel_rfl : (Tryz.prog.info? 10).map (·.size) = some 1)
theorem zr10 : ZeroIs Tryz.prog 10 (.string ⟨#[]⟩) := (by kernel_rfl : (Tryz.prog.info? 10).map (·.zero) = some (some (.string ⟨#[]⟩)))
theorem sz11 : SizeIs Tryz.prog 11 1 := (by kernel_rfl : (Tryz.prog.info? 11).map (·.size) = some 1)
theorem zr11 : ZeroIs Tryz.prog 11 (.string ⟨#[]⟩) := (by kernel_rfl : (Tryz.prog.info? 11).map (·.zero) = some (some (.string ⟨#[]⟩)))
theorem sz12 : SizeIs Tryz.prog 12 1 := (by kernel_rfl : (Tryz.prog.info? 12).map (·.size) = some 1)
theorem zr12 : ZeroIs Tryz.prog 12 (.int .u64 0) := (by kernel_rfl : (Tryz.prog.info? 12).map (·.zero) = some (some (.int .u64 0)))
theorem sz13 : SizeIs Tryz.prog 13 2 := (by kernel_rfl : (Tryz.prog.info? 13).map (·.size) = some 2)
theorem zr13 : ZeroIs Tryz.prog 13 (.agg #[.string ⟨#[]⟩, .int .u64 0]) := (by kernel_rfl : (Tryz.prog.info? 13).map (·.zero) = some (some (.agg #[.string ⟨#[]⟩, .int .u64 0])))
theorem sz14 : SizeIs Tryz.prog 14 2 := (by kernel_rfl : (Tryz.prog.info? 14).map (·.size) = some 2)
theorem zr14 : ZeroIs Tryz.prog 14 (.agg #[.string ⟨#[]⟩, .int .u64 0]) := (by kernel_rfl : (Tryz.prog.info? 14).map (·.zero) = some (some (.agg #[.string ⟨#[]⟩, .int .u64 0])))
theorem sz15 : SizeIs Tryz.prog 15 1 := (by kernel_rfl : (Tryz.prog.info? 15).map (·.size) = some 1)
theorem zr15 : ZeroIs Tryz.prog 15 (.pointer none) := (by kernel_rfl : (Tryz.prog.info? 15).map (·.zero) = some (some (.pointer none)))
theorem sz16 : SizeIs Tryz.prog 16 1 := (by kernel_rfl : (Tryz.prog.info? 16).map (·.size) = some 1)
theorem zr16 : ZeroIs Tryz.prog 16 (.pointer none) := (by kernel_rfl : (Tryz.prog.info? 16).map (·.zero) = some (some (.pointer none)))
theorem sz17 : SizeIs Tryz.prog 17 1 := (by kernel_rfl : (Tryz.prog.info? 17).map (·.size) = some 1)
theorem zr17 : ZeroIs Tryz.prog 17 (.pointer none) := (by kernel_rfl : (Tryz.prog.info? 17).map (·.zero) = some (some (.pointer none)))
theorem sz18 : SizeIs Tryz.prog 18 1 := (by kernel_rfl : (Tryz.prog.info? 18).map (·.size) = some 1)
theorem zr18 : ZeroIs Tryz.prog 18 (.agg #[.pointer none]) := (by kernel_rfl : (Tryz.prog.info? 18).map (·.zero) = some (some (.agg #[.pointer none])))
theorem sz19 : SizeIs Tryz.prog 19 1 := (by kernel_rfl : (Tryz.prog.info? 19).map (·.size) = some 1)
theorem zr19 : ZeroIs Tryz.prog 19 (.agg #[.pointer none]) := (by kernel_rfl : (Tryz.prog.info? 19).map (·.zero) = some (some (.agg #[.pointer none])))
theorem sz20 : SizeIs Tryz.prog 20 1 := (by kernel_rfl : (Tryz.prog.info? 20).map (·.size) = some 1)
theorem zr20 : ZeroIs Tryz.prog 20 (.nilIface) := (by kernel_rfl : (Tryz.prog.info? 20).map (·.zero) = some (some (.nilIface)))
theorem sz21 : SizeIs Tryz.prog 21 1 := (by kernel_rfl : (Tryz.prog.info? 21).map (·.size) = some 1)
theorem zr21 : ZeroIs Tryz.prog 21 (.int .i32 0) := (by kernel_rfl : (Tryz.prog.info? 21).map (·.zero) = some (some (.int .i32 0)))
theorem sz22 : SizeIs Tryz.prog 22 1 := (by kernel_rfl : (Tryz.prog.info? 22).map (·.size) = some 1)
theorem zr22 : ZeroIs Tryz.prog 22 (.int .u64 0) := (by kernel_rfl : (Tryz.prog.info? 22).map (·.zero) = some (some (.int .u64 0)))
theorem sz23 : SizeIs Tryz.prog 23 1 := (by kernel_rfl : (Tryz.prog.info? 23).map (·.size) = some 1)
theorem zr23 : ZeroIs Tryz.prog 23 (.int .i64 0) := (by kernel_rfl : (Tryz.prog.info? 23).map (·.zero) = some (some (.int .i64 0)))
theorem sz25 : SizeIs Tryz.prog 25 1 := (by kernel_rfl : (Tryz.prog.info? 25).map (·.size) = some 1)
theorem zr25 : ZeroIs Tryz.prog 25 (.nilFunc) := (by kernel_rfl : (Tryz.prog.info? 25).map (·.zero) = some (some (.nilFunc)))
theorem sz27 : SizeIs Tryz.prog 27 1 := (by kernel_rfl : (Tryz.prog.info? 27).map (·.size) = some 1)
theorem zr27 : ZeroIs Tryz.prog 27 (.nilFunc) := (by kernel_rfl : (Tryz.prog.info? 27).map (·.zero) = some (some (.nilFunc)))
theorem sz28 : SizeIs Tryz.prog 28 1 := (by kernel_rfl : (Tryz.prog.info? 28).map (·.size) = some 1)
theorem zr28 : ZeroIs Tryz.prog 28 (.nilFunc) := (by kernel_rfl : (Tryz.prog.info? 28).map (·.zero) = some (some (.nilFunc)))
theorem sz29 : SizeIs Tryz.prog 29 1 := (by kernel_rfl : (Tryz.prog.info? 29).map (·.size) = some 1)
theorem zr29 : ZeroIs Tryz.prog 29 (.nilFunc) := (by kernel_rfl : (Tryz.prog.info? 29).map (·.zero) = some (some (.nilFunc)))
theorem sz30 : SizeIs Tryz.prog 30 1 := (by kernel_rfl : (Tryz.prog.info? 30).map (·.size) = some 1)
theorem zr30 : ZeroIs Tryz.prog 30 (.nilFunc) := (by kernel_rfl : (Tryz.prog.info? 30).map (·.zero) = some (some (.nilFunc)))
theorem sz31 : SizeIs Tryz.prog 31 1 := (by kernel_rfl : (Tryz.prog.info? 31).map (·.size) = some 1)
theorem zr31 : ZeroIs Tryz.prog 31 (.nilFunc) := (by kernel_rfl : (Tryz.prog.info? 31).map (·.zero) = some (some (.nilFunc)))
theorem sz32 : SizeIs Tryz.prog 32 1 := (by kernel_rfl : (Tryz.prog.info? 32).map (·.size) = some 1)
theorem zr32 : ZeroIs Tryz.prog 32 (.nilFunc) := (by kernel_rfl : (Tryz.prog.info? 32).map (·.zero) = some (some (.nilFunc)))
theorem sz33 : SizeIs Tryz.prog 33 1 := (by kernel_rfl : (Tryz.prog.info? 33).map (·.size) = some 1)
theorem zr33 : ZeroIs Tryz.prog 33 (.nilFunc) := (by kernel_rfl : (Tryz.prog.info? 33).map (·.zero) = some (some (.nilFunc)))
theorem sz34 : SizeIs Tryz.prog 34 1 := (by kernel_rfl : (Tryz.prog.info? 34).map (·.size) = some 1)
theorem zr34 : ZeroIs Tryz.prog 34 (.nilFunc) := (by kernel_rfl : (Tryz.prog.info? 34).map (·.zero) = some (some (.nilFunc)))
theorem sz35 : SizeIs Tryz.prog 35 1 := (by kernel_rfl : (Tryz.prog.info? 35).map (·.size) = some 1)
theorem zr35 : ZeroIs Tryz.prog 35 (.nilFunc) := (by kernel_rfl : (Tryz.prog.info? 35).map (·.zero) = some (some (.nilFunc)))
theorem sz36 : SizeIs Tryz.prog 36 1 := (by kernel_rfl : (Tryz.prog.info? 36).map (·.size) = some 1)
theorem zr36 : ZeroIs Tryz.prog 36 (.nilFunc) := (by kernel_rfl : (Tryz.prog.info? 36).map (·.zero) = some (some (.nilFunc)))
theorem sz38 : SizeIs Tryz.prog 38 1 := (by kernel_rfl : (Tryz.prog.info? 38).map (·.size) = some 1)
theorem zr38 : ZeroIs Tryz.prog 38 (.nilFunc) := (by kernel_rfl : (Tryz.prog.info? 38).map (·.zero) = some (some (.nilFunc)))
theorem sz39 : SizeIs Tryz.prog 39 1 := (by kernel_rfl : (Tryz.prog.info? 39).map (·.size) = some 1)
theorem zr39 : ZeroIs Tryz.prog 39 (.slice none 0 0) := (by kernel_rfl : (Tryz.prog.info? 39).map (·.zero) = some (some (.slice none 0 0)))
theorem sz40 : SizeIs Tryz.prog 40 2 := (by kernel_rfl : (Tryz.prog.info? 40).map (·.size) = some 2)
theorem zr40 : ZeroIs Tryz.prog 40 (.agg #[.bool false, .slice none 0 0]) := (by kernel_rfl : (Tryz.prog.info? 40).map (·.zero) = some (some (.agg #[.bool false, .slice none 0 0])))
theorem sz41 : SizeIs Tryz.prog 41 2 := (by kernel_rfl : (Tryz.prog.info? 41).map (·.size) = some 2)
theorem zr41 : ZeroIs Tryz.prog 41 (.agg #[.bool false, .slice none 0 0]) := (by kernel_rfl : (Tryz.prog.info? 41).map (·.zero) = some (some (.agg #[.bool false, .slice none 0 0])))
theorem sz42 : SizeIs Tryz.prog 42 1 := (by kernel_rfl : (Tryz.prog.info? 42).map (·.size) = some 1)
theorem zr42 : ZeroIs Tryz.prog 42 (.nilFunc) := (by kernel_rfl : (Tryz.prog.info? 42).map (·.zero) = some (some (.nilFunc)))
theorem sz43 : SizeIs Tryz.prog 43 1 := (by kernel_rfl : (Tryz.prog.info? 43).map (·.size) = some 1)
theorem zr43 : ZeroIs Tryz.prog 43 (.nilFunc) := (by kernel_rfl : (Tryz.prog.info? 43).map (·.zero) = some (some (.nilFunc)))
theorem sz44 : SizeIs Tryz.prog 44 1 := (by kernel_rfl : (Tryz.prog.info? 44).map (·.size) = some 1)
theorem zr44 : ZeroIs Tryz.prog 44 (.nilFunc) := (by kernel_rfl : (Tryz.prog.info? 44).map (·.zero) = some (some (.nilFunc)))
theorem sz45 : SizeIs Tryz.prog 45 1 := (by kernel_rfl : (Tryz.prog.info? 45).map (·.size) = some 1)
theorem zr45 : ZeroIs Tryz.prog 45 (.nilFunc) := (by kernel_rfl : (Tryz.prog.info? 45).map (·.zero) = some (some (.nilFunc)))
theorem sz46 : SizeIs Tryz.prog 46 1 := (by kernel_rfl : (Tryz.prog.info? 46).map (·.size) = some 1)
theorem zr46 : ZeroIs Tryz.prog 46 (.nilFunc) := (by kernel_rfl : (Tryz.prog.info? 46).map (·.zero) = some (some (.nilFunc)))
theorem sz48 : SizeIs Tryz.prog 48 1 := (by kernel_rfl : (Tryz.prog.info? 48).map (·.size) = some 1)
theorem zr48 : ZeroIs Tryz.prog 48 (.nilFunc) := (by kernel_rfl : (Tryz.prog.info? 48).map (·.zero) = some (some (.nilFunc)))
theorem sz50 : SizeIs Tryz.prog 50 1 := (by kernel_rfl : (Tryz.prog.info? 50).map (·.size) = some 1)
theorem zr50 : ZeroIs Tryz.prog 50 (.nilFunc) := (by kernel_rfl : (Tryz.prog.info? 50).map (·.zero) = some (some (.nilFunc)))
theorem sz51 : SizeIs Tryz.prog 51 1 := (by kernel_rfl : (Tryz.prog.info? 51).map (·.size) = some 1)
theorem zr51 : ZeroIs Tryz.prog 51 (.nilFunc) := (by kernel_rfl : (Tryz.prog.info? 51).map (·.zero) = some (some (.nilFunc)))
theorem sz52 : SizeIs Tryz.prog 52 1 := (by kernel_rfl : (Tryz.prog.info? 52).map (·.size) = some 1)
theorem zr52 : ZeroIs Tryz.prog 52 (.nilFunc) := (by kernel_rfl : (Tryz.prog.info? 52).map (·.zero) = some (some (.nilFunc)))
theorem sz53 : SizeIs Tryz.prog 53 1 := (by kernel_rfl : (Tryz.prog.info? 53).map (·.size) = some 1)
theorem zr53 : ZeroIs Tryz.prog 53 (.nilFunc) := (by kernel_rfl : (Tryz.prog.info? 53).map (·.zero) = some (some (.nilFunc)))
theorem sz54 : SizeIs Tryz.prog 54 1 := (by kernel_rfl : (Tryz.prog.info? 54).map (·.size) = some 1)
theorem zr54 : ZeroIs Tryz.prog 54 (.nilFunc) := (by kernel_rfl : (Tryz.prog.info? 54).map (·.zero) = some (some (.nilFunc)))
theorem sz56 : SizeIs Tryz.prog 56 1 := (by kernel_rfl : (Tryz.prog.info? 56).map (·.size) = some 1)
theorem zr56 : ZeroIs Tryz.prog 56 (.nilFunc) := (by kernel_rfl : (Tryz.prog.info? 56).map (·.zero) = some (some (.nilFunc)))
theorem sz57 : SizeIs Tryz.prog 57 1 := (by kernel_rfl : (Tryz.prog.info? 57).map (·.size) = some 1)
theorem zr57 : ZeroIs Tryz.prog 57 (.float .f64 0) := (by kernel_rfl : (Tryz.prog.info? 57).map (·.zero) = some (some (.float .f64 0)))
theorem sz58 : SizeIs Tryz.prog 58 1 := (by kernel_rfl : (Tryz.prog.info? 58).map (·.size) = some 1)
theorem zr58 : ZeroIs Tryz.prog 58 (.nilFunc) := (by kernel_rfl : (Tryz.prog.info? 58).map (·.zero) = some (some (.nilFunc)))
theorem sz59 : SizeIs Tryz.prog 59 1 := (by kernel_rfl : (Tryz.prog.info? 59).map (·.size) = some 1)
theorem zr59 : ZeroIs Tryz.prog 59 (.nilIface) := (by kernel_rfl : (Tryz.prog.info? 59).map (·.zero) = some (some (.nilIface)))
theorem sz60 : SizeIs Tryz.prog 60 1 := (by kernel_rfl : (Tryz.prog.info? 60).map (·.size) = some 1)
theorem zr60 : ZeroIs Tryz.prog 60 (.nilIface) := (by kernel_rfl : (Tryz.prog.info? 60).map (·.zero) = some (some (.nilIface)))
theorem sz62 : SizeIs Tryz.prog 62 1 := (by kernel_rfl : (Tryz.prog.info? 62).map (·.size) = some 1)
theorem zr62 : ZeroIs Tryz.prog 62 (.nilFunc) := (by kernel_rfl : (Tryz.prog.info? 62).map (·.zero) = some (some (.nilFunc)))
theorem sz63 : SizeIs Tryz.prog 63 1 := (by kernel_rfl : (Tryz.prog.info? 63).map (·.size) = some 1)
theorem zr63 : ZeroIs Tryz.prog 63 (.nilFunc) := (by kernel_rfl : (Tryz.prog.info? 63).map (·.zero) = some (some (.nilFunc)))
theorem sz64 : SizeIs Tryz.prog 64 1 := (by kernel_rfl : (Tryz.prog.info? 64).map (·.size) = some 1)
theorem zr64 : ZeroIs Tryz.prog 64 (.nilFunc) := (by kernel_rfl : (Tryz.prog.info? 64).map (·.zero) = some (some (.nilFunc)))
theorem sz65 : SizeIs Tryz.prog 65 1 := (by kernel_rfl : (Tryz.prog.info? 65).map (·.size) = some 1)
theorem zr65 : ZeroIs Tryz.prog 65 (.nilFunc) := (by kernel_rfl : (Tryz.prog.info? 65).map (·.zero) = some (some (.nilFunc)))
theorem sz66 : SizeIs Tryz.prog 66 1 := (by kernel_rfl : (Tryz.prog.info? 66).map (·.size) = some 1)
theorem zr66 : ZeroIs Tryz.prog 66 (.nilFunc) := (by kernel_rfl : (Tryz.prog.info? 66).map (·.zero) = some (some (.nilFunc)))
theorem sz67 : SizeIs Tryz.prog 67 1 := (by kernel_rfl : (Tryz.prog.info? 67).map (·.size) = some 1)
theorem zr67 : ZeroIs Tryz.prog 67 (.nilFunc) := (by kernel_rfl : (Tryz.prog.info? 67).map (·.zero) = some (some (.nilFunc)))
theorem sz68 : SizeIs Tryz.prog 68 1 := (by kernel_rfl : (Tryz.prog.info? 68).map (·.size) = some 1)
theorem zr68 : ZeroIs Tryz.prog 68 (.nilFunc) := (by kernel_rfl : (Tryz.prog.info? 68).map (·.zero) = some (some (.nilFunc)))
theorem sz69 : SizeIs Tryz.prog 69 1 := (by kernel_rfl : (Tryz.prog.info? 69).map (·.size) = some 1)
theorem zr69 : ZeroIs Tryz.prog 69 (.nilFunc) := (by kernel_rfl : (Tryz.prog.info? 69).map (·.zero) = some (some (.nilFunc)))
theorem sz71 : SizeIs Tryz.prog 71 1 := (by kernel_rfl : (Tryz.prog.info? 71).map (·.size) = some 1)
theorem zr71 : ZeroIs Tryz.prog 71 (.nilFunc) := (by kernel_rfl : (Tryz.prog.info? 71).map (·.zero) = some (some (.nilFunc)))
theorem sz72 : SizeIs Tryz.prog 72 1 := (by kernel_rfl : (Tryz.prog.info? 72).map (·.size) = some 1)
theorem zr72 : ZeroIs Tryz.prog 72 (.nilFunc) := (by kernel_rfl : (Tryz.prog.info? 72).map (·.zero) = some (some (.nilFunc)))
theorem sz74 : SizeIs Tryz.prog 74 1 := (by kernel_rfl : (Tryz.prog.info? 74).map (·.size) = some 1)
theorem zr74 : ZeroIs Tryz.prog 74 (.nilFunc) := (by kernel_rfl : (Tryz.prog.info? 74).map (·.zero) = some (some (.nilFunc)))
theorem sz76 : SizeIs Tryz.prog 76 1 := (by kernel_rfl : (Tryz.prog.info? 76).map (·.size) = some 1)
theorem zr76 : ZeroIs Tryz.prog 76 (.nilFunc) := (by kernel_rfl : (Tryz.prog.info? 76).map (·.zero) = some (some (.nilFunc)))
theorem sz78 : SizeIs Tryz.prog 78 1 := (by kernel_rfl : (Tryz.prog.info? 78).map (·.size) = some 1)
theorem zr78 : ZeroIs Tryz.prog 78 (.nilFunc) := (by kernel_rfl : (Tryz.prog.info? 78).map (·.zero) = some (some (.nilFunc)))
theorem sz79 : SizeIs Tryz.prog 79 1 := (by kernel_rfl : (Tryz.prog.info? 79).map (·.size) = some 1)
theorem zr79 : ZeroIs Tryz.prog 79 (.nilFunc) := (by kernel_rfl : (Tryz.prog.info? 79).map (·.zero) = some (some (.nilFunc)))
theorem sz80 : SizeIs Tryz.prog 80 1 := (by kernel_rfl : (Tryz.prog.info? 80).map (·.size) = some 1)
theorem zr80 : ZeroIs Tryz.prog 80 (.nilFunc) := (by kernel_rfl : (Tryz.prog.info? 80).map (·.zero) = some (some (.nilFunc)))
theorem sz81 : SizeIs Tryz.prog 81 1 := (by kernel_rfl : (Tryz.prog.info? 81).map (·.size) = some 1)
theorem zr81 : ZeroIs Tryz.prog 81 (.nilFunc) := (by kernel_rfl : (Tryz.prog.info? 81).map (·.zero) = some (some (.nilFunc)))
theorem sz82 : SizeIs Tryz.prog 82 1 := (by kernel_rfl : (Tryz.prog.info? 82).map (·.size) = some 1)
theorem zr82 : ZeroIs Tryz.prog 82 (.nilFunc) := (by kernel_rfl : (Tryz.prog.info? 82).map (·.zero) = some (some (.nilFunc)))
theorem sz83 : SizeIs Tryz.prog 83 1 := (by kernel_rfl : (Tryz.prog.info? 83).map (·.size) = some 1)
theorem zr83 : ZeroIs Tryz.prog 83 (.nilFunc) := (by kernel_rfl : (Tryz.prog.info? 83).map (·.zero) = some (some (.nilFunc)))
theorem sz84 : SizeIs Tryz.prog 84 1 := (by kernel_rfl : (Tryz.prog.info? 84).map (·.size) = some 1)
theorem zr84 : ZeroIs Tryz.prog 84 (.slice none 0 0) := (by kernel_rfl : (Tryz.prog.info? 84).map (·.zero) = some (some (.slice none 0 0)))
theorem sz85 : SizeIs Tryz.prog 85 2 := (by kernel_rfl : (Tryz.prog.info? 85).map (·.size) = some 2)
theorem zr85 : ZeroIs Tryz.prog 85 (.agg #[.bool false, .slice none 0 0]) := (by kernel_rfl : (Tryz.prog.info? 85).map (·.zero) = some (some (.agg #[.bool false, .slice none 0 0])))
theorem sz86 : SizeIs Tryz.prog 86 2 := (by kernel_rfl : (Tryz.prog.info? 86).map (·.size) = some 2)
theorem zr86 : ZeroIs Tryz.prog 86 (.agg #[.bool false, .slice none 0 0]) := (by kernel_rfl : (Tryz.prog.info? 86).map (·.zero) = some (some (.agg #[.bool false, .slice none 0 0])))
theorem sz87 : SizeIs Tryz.prog 87 1 := (by kernel_rfl : (Tryz.prog.info? 87).map (·.size) = some 1)
theorem zr87 : ZeroIs Tryz.prog 87 (.nilFunc) := (by kernel_rfl : (Tryz.prog.info? 87).map (·.zero) = some (some (.nilFunc)))
theorem sz88 : SizeIs Tryz.prog 88 1 := (by kernel_rfl : (Tryz.prog.info? 88).map (·.size) = some 1)
theorem zr88 : ZeroIs Tryz.prog 88 (.nilFunc) := (by kernel_rfl : (Tryz.prog.info? 88).map (·.zero) = some (some (.nilFunc)))
theorem sz89 : SizeIs Tryz.prog 89 1 := (by kernel_rfl : (Tryz.prog.info? 89).map (·.size) = some 1)
theorem zr89 : ZeroIs Tryz.prog 89 (.nilFunc) := (by kernel_rfl : (Tryz.prog.info? 89).map (·.zero) = some (some (.nilFunc)))
theorem sz90 : SizeIs Tryz.prog 90 1 := (by kernel_rfl : (Tryz.prog.info? 90).map (·.size) = some 1)
theorem zr90 : ZeroIs Tryz.prog 90 (.nilFunc) := (by kernel_rfl : (Tryz.prog.info? 90).map (·.zero) = some (some (.nilFunc)))
theorem sz91 : SizeIs Tryz.prog 91 1 := (by kernel_rfl : (Tryz.prog.info? 91).map (·.size) = some 1)
theorem zr91 : ZeroIs Tryz.prog 91 (.nilFunc) := (by kernel_rfl : (Tryz.prog.info? 91).map (·.zero) = some (some (.nilFunc)))
theorem sz93 : SizeIs Tryz.prog 93 1 := (by kernel_rfl : (Tryz.prog.info? 93).map (·.size) = some 1)
theorem zr93 : ZeroIs Tryz.prog 93 (.nilFunc) := (by kernel_rfl : (Tryz.prog.info? 93).map (·.zero) = some (some (.nilFunc)))
theorem sz95 : SizeIs Tryz.prog 95 1 := (by kernel_rfl : (Tryz.prog.info? 95).map (·.size) = some 1)
theorem zr95 : ZeroIs Tryz.prog 95 (.nilFunc) := (by kernel_rfl : (Tryz.prog.info? 95).map (·.zero) = some (some (.nilFunc)))
theorem sz96 : SizeIs Tryz.prog 96 1 := (by kernel_rfl : (Tryz.prog.info? 96).map (·.size) = some 1)
theorem zr96 : ZeroIs Tryz.prog 96 (.nilFunc) := (by kernel_rfl : (Tryz.prog.info? 96).map (·.zero) = some (some (.nilFunc)))
theorem sz97 : SizeIs Tryz.prog 97 1 := (by kernel_rfl : (Tryz.prog.info? 97).map (·.size) = some 1)
theorem zr97 : ZeroIs Tryz.prog 97 (.nilFunc) := (by kernel_rfl : (Tryz.prog.info? 97).map (·.zero) = some (some (.nilFunc)))
theorem sz98 : SizeIs Tryz.prog 98 1 := (by kernel_rfl : (Tryz.prog.info? 98).map (·.size) = some 1)
theorem zr98 : ZeroIs Tryz.prog 98 (.nilFunc) := (by kernel_rfl : (Tryz.prog.info? 98).map (·.zero) = some (some (.nilFunc)))
theorem sz99 : SizeIs Tryz.prog 99 1 := (by kernel_rfl : (Tryz.prog.info? 99).map (·.size) = some 1)
theorem zr99 : ZeroIs Tryz.prog 99 (.nilFunc) := (by kernel_rfl : (Tryz.prog.info? 99).map (·.zero) = some (some (.nilFunc)))
theorem sz100 : SizeIs Tryz.prog 100 1 := (by kernel_rfl : (Tryz.prog.info? 100).map (·.size) = some 1)
theorem zr100 : ZeroIs Tryz.prog 100 (.nilFunc) := (by kernel_rfl : (Tryz.prog.info? 100).map (·.zero) = some (some (.nilFunc)))
theorem sz101 : SizeIs Tryz.prog 101 1 := (by kernel_rfl : (Tryz.prog.info? 101).map (·.size) = some 1)
theorem zr101 : ZeroIs Tryz.prog 101 (.nilFunc) := (by kernel_rfl : (Tryz.prog.info? 101).map (·.zero) = some (some (.nilFunc)))
theorem sz102 : SizeIs Tryz.prog 102 1 := (by kernel_rfl : (Tryz.prog.info? 102).map (·.size) = some 1)
theorem zr102 : ZeroIs Tryz.prog 102 (.nilFunc) := (by kernel_rfl : (Tryz.prog.info? 102).map (·.zero) = some (some (.nilFunc)))
theorem sz103 : SizeIs Tryz.prog 103 1 := (by kernel_rfl : (Tryz.prog.info? 103).map (·.size) = some 1)
theorem zr103 : ZeroIs Tryz.prog 103 (.nilFunc) := (by kernel_rfl : (Tryz.prog.info? 103).map (·.zero) = some (some (.nilFunc)))
theorem sz104 : SizeIs Tryz.prog 104 1 := (by kernel_rfl : (Tryz.prog.info? 104).map (·.size) = some 1)
theorem zr104 : ZeroIs Tryz.prog 104 (.int .u64 0) := (by kernel_rfl : (Tryz.prog.info? 104).map (·.zero) = some (some (.int .u64 0)))
theorem sz105 : SizeIs Tryz.prog 105 1 := (by kernel_rfl : (Tryz.prog.info? 105).map (·.size) = some 1)
theorem zr105 : ZeroIs Tryz.prog 105 (.nilFunc) := (by kernel_rfl : (Tryz.prog.info? 105).map (·.zero) = some (some (.nilFunc)))
theorem sz106 : SizeIs Tryz.prog 106 1 := (by kernel_rfl : (Tryz.prog.info? 106).map (·.size) = some 1)
theorem zr106 : ZeroIs Tryz.prog 106 (.nilFunc) := (by kernel_rfl : (Tryz.prog.info? 106).map (·.zero) = some (some (.nilFunc)))
theorem sz107 : SizeIs Tryz.prog 107 1 := (by kernel_rfl : (Tryz.prog.info? 107).map (·.size) = some 1)
theorem zr107 : ZeroIs Tryz.prog 107 (.nilFunc) := (by kernel_rfl : (Tryz.prog.info? 107).map (·.zero) = some (some (.nilFunc)))
theorem sz108 : SizeIs Tryz.prog 108 1 := (by kernel_rfl : (Tryz.prog.info? 108).map (·.size) = some 1)
theorem zr108 : ZeroIs Tryz.prog 108 (.nilFunc) := (by kernel_rfl : (Tryz.prog.info? 108).map (·.zero) = some (some (.nilFunc)))
theorem sz110 : SizeIs Tryz.prog 110 1 := (by kernel_rfl : (Tryz.prog.info? 110).map (·.size) = some 1)
theorem zr110 : ZeroIs Tryz.prog 110 (.nilFunc) := (by kernel_rfl : (Tryz.prog.info? 110).map (·.zero) = some (some (.nilFunc)))
theorem sz111 : SizeIs Tryz.prog 111 1 := (by kernel_rfl : (Tryz.prog.info? 111).map (·.size) = some 1)
theorem zr111 : ZeroIs Tryz.prog 111 (.nilFunc) := (by kernel_rfl : (Tryz.prog.info? 111).map (·.zero) = some (some (.nilFunc)))
theorem sz112 : SizeIs Tryz.prog 112 1 := (by kernel_rfl : (Tryz.prog.info? 112).map (·.size) = some 1)
theorem zr112 : ZeroIs Tryz.prog 112 (.nilFunc) := (by kernel_rfl : (Tryz.prog.info? 112).map (·.zero) = some (some (.nilFunc)))
theorem sz113 : SizeIs Tryz.prog 113 1 := (by kernel_rfl : (Tryz.prog.info? 113).map (·.size) = some 1)
theorem zr113 : ZeroIs Tryz.prog 113 (.nilFunc) := (by kernel_rfl : (Tryz.prog.info? 113).map (·.zero) = some (some (.nilFunc)))
theorem sz114 : SizeIs Tryz.prog 114 1 := (by kernel_rfl : (Tryz.prog.info? 114).map (·.size) = some 1)
theorem zr114 : ZeroIs Tryz.prog 114 (.nilFunc) := (by kernel_rfl : (Tryz.prog.info? 114).map (·.zero) = some (some (.nilFunc)))
theorem sz115 : SizeIs Tryz.prog 115 1 := (by kernel_rfl : (Tryz.prog.info? 115).map (·.size) = some 1)
theorem zr115 : ZeroIs Tryz.prog 115 (.nilFunc) := (by kernel_rfl : (Tryz.prog.info? 115).map (·.zero) = some (some (.nilFunc)))
theorem sz117 : SizeIs Tryz.prog 117 1 := (by kernel_rfl : (Tryz.prog.info? 117).map (·.size) = some 1)
theorem zr117 : ZeroIs Tryz.prog 117 (.nilFunc) := (by kernel_rfl : (Tryz.prog.info? 117).map (·.zero) = some (some (.nilFunc)))
theorem sz118 : SizeIs Tryz.prog 118 1 := (by kernel_rfl : (Tryz.prog.info? 118).map (·.size) = some 1)
theorem zr118 : ZeroIs Tryz.prog 118 (.int .i64 0) := (by kernel_rfl : (Tryz.prog.info? 118).map (·.zero) = some (some (.int .i64 0)))
theorem sz119 : SizeIs Tryz.prog 119 1 := (by kernel_rfl : (Tryz.prog.info? 119).map (·.size) = some 1)
theorem zr119 : ZeroIs Tryz.prog 119 (.pointer none) := (by kernel_rfl : (Tryz.prog.info? 119).map (·.zero) = some (some (.pointer none)))
theorem sz120 : SizeIs Tryz.prog 120 1 := (by kernel_rfl : (Tryz.prog.info? 120).map (·.size) = some 1)
theorem zr120 : ZeroIs Tryz.prog 120 (.nilFunc) := (by kernel_rfl : (Tryz.prog.info? 120).map (·.zero) = some (some (.nilFunc)))
theorem sz121 : SizeIs Tryz.prog 121 1 := (by kernel_rfl : (Tryz.prog.info? 121).map (·.size) = some 1)
theorem zr121 : ZeroIs Tryz.prog 121 (.nilFunc) := (by kernel_rfl : (Tryz.prog.info? 121).map (·.zero) = some (some (.nilFunc)))
theorem sz122 : SizeIs Tryz.prog 122 1 := (by kernel_rfl : (Tryz.prog.info? 122).map (·.size) = some 1)
theorem zr122 : ZeroIs Tryz.prog 122 (.nilFunc) := (by kernel_rfl : (Tryz.prog.info? 122).map (·.zero) = some (some (.nilFunc)))
theorem sz123 : SizeIs Tryz.prog 123 1 := (by kernel_rfl : (Tryz.prog.info? 123).map (·.size) = some 1)
theorem zr123 : ZeroIs Tryz.prog 123 (.float .f32 0) := (by kernel_rfl : (Tryz.prog.info? 123).map (·.zero) = some (some (.float .f32 0)))
theorem sz124 : SizeIs Tryz.prog 124 1 := (by kernel_rfl : (Tryz.prog.info? 124).map (·.size) = some 1)
theorem zr124 : ZeroIs Tryz.prog 124 (.nilFunc) := (by kernel_rfl : (Tryz.prog.info? 124).map (·.zero) = some (some (.nilFunc)))
theorem sz126 : SizeIs Tryz.prog 126 1 := (by kernel_rfl : (Tryz.prog.info? 126).map (·.size) = some 1)
theorem zr126 : ZeroIs Tryz.prog 126 (.nilFunc) := (by kernel_rfl : (Tryz.prog.info? 126).map (·.zero) = some (some (.nilFunc)))
theorem sz127 : SizeIs Tryz.prog 127 1 := (by kernel_rfl : (Tryz.prog.info? 127).map (·.size) = some 1)
theorem zr127 : ZeroIs Tryz.prog 127 (.nilFunc) := (by kernel_rfl : (Tryz.prog.info? 127).map (·.zero) = some (some (.nilFunc)))
theorem sz128 : SizeIs Tryz.prog 128 1 := (by kernel_rfl : (Tryz.prog.info? 128).map (·.size) = some 1)
theorem zr128 : ZeroIs Tryz.prog 128 (.nilFunc) := (by kernel_rfl : (Tryz.prog.info? 128).map (·.zero) = some (some (.nilFunc)))
theorem sz130 : SizeIs Tryz.prog 130 1 := (by kernel_rfl : (Tryz.prog.info? 130).map (·.size) = some 1)
theorem zr130 : ZeroIs Tryz.prog 130 (.nilFunc) := (by kernel_rfl : (Tryz.prog.info? 130).map (·.zero) = some (some (.nilFunc)))
theorem sz131 : SizeIs Tryz.prog 131 1 := (by kernel_rfl : (Tryz.prog.info? 131).map (·.size) = some 1)
theorem zr131 : ZeroIs Tryz.prog 131 (.nilFunc) := (by kernel_rfl : (Tryz.prog.info? 131).map (·.zero) = some (some (.nilFunc)))
theorem sz132 : SizeIs Tryz.prog 132 1 := (by kernel_rfl : (Tryz.prog.info? 132).map (·.size) = some 1)
theorem zr132 : ZeroIs Tryz.prog 132 (.nilFunc) := (by kernel_rfl : (Tryz.prog.info? 132).map (·.zero) = some (some (.nilFunc)))
theorem sz133 : SizeIs Tryz.prog 133 1 := (by kernel_rfl : (Tryz.prog.info? 133).map (·.size) = some 1)
theorem zr133 : ZeroIs Tryz.prog 133 (.nilFunc) := (by kernel_rfl : (Tryz.prog.info? 133).map (·.zero) = some (some (.nilFunc)))
theorem sz135 : SizeIs Tryz.prog 135 1 := (by kernel_rfl : (Tryz.prog.info? 135).map (·.size) = some 1)
theorem zr135 : ZeroIs Tryz.prog 135 (.nilFunc) := (by kernel_rfl : (Tryz.prog.info? 135).map (·.zero) = some (some (.nilFunc)))
theorem sz136 : SizeIs Tryz.prog 136 1 := (by kernel_rfl : (Tryz.prog.info? 136).map (·.size) = some 1)
theorem zr136 : ZeroIs Tryz.prog 136 (.nilFunc) := (by kernel_rfl : (Tryz.prog.info? 136).map (·.zero) = some (some (.nilFunc)))
theorem sz137 : SizeIs Tryz.prog 137 1 := (by kernel_rfl : (Tryz.prog.info? 137).map (·.size) = some 1)
theorem zr137 : ZeroIs Tryz.prog 137 (.nilFunc) := (by kernel_rfl : (Tryz.prog.info? 137).map (·.zero) = some (some (.nilFunc)))
theorem sz138 : SizeIs Tryz.prog 138 3 := (by kernel_rfl : (Tryz.prog.info? 138).map (·.size) = some 3)
theorem zr138 : ZeroIs Tryz.prog 138 (.agg #[.string ⟨#[]⟩, .string ⟨#[]⟩, .nilIface]) := (by kernel_rfl : (Tryz.prog.info? 138).map (·.zero) = some (some (.agg #[.string ⟨#[]⟩, .string ⟨#[]⟩, .nilIface])))
theorem sz139 : SizeIs Tryz.prog 139 3 := (by kernel_rfl : (Tryz.prog.info? 139).map (·.size) = some 3)
theorem zr139 : ZeroIs Tryz.prog 139 (.agg #[.string ⟨#[]⟩, .string ⟨#[]⟩, .nilIface]) := (by kernel_rfl : (Tryz.prog.info? 139).map (·.zero) = some (some (.agg #[.string ⟨#[]⟩, .string ⟨#[]⟩, .nilIface])))
theorem sz140 : SizeIs Tryz.prog 140 1 := (by kernel_rfl : (Tryz.prog.info? 140).map (·.size) = some 1)
theorem zr140 : ZeroIs Tryz.prog 140 (.nilFunc) := (by kernel_rfl : (Tryz.prog.info? 140).map (·.zero) = some (some (.nilFunc)))
theorem sz141 : SizeIs Tryz.prog 141 1 := (by kernel_rfl : (Tryz.prog.info? 141).map (·.size) = some 1)
theorem zr141 : ZeroIs Tryz.prog 141 (.nilFunc) := (by kernel_rfl : (Tryz.prog.info? 141).map (·.zero) = some (some (.nilFunc)))
theorem sz142 : SizeIs Tryz.prog 142 1 := (by kernel_rfl : (Tryz.prog.info? 142).map (·.size) = some 1)
theorem zr142 : ZeroIs Tryz.prog 142 (.int .u32 0) := (by kernel_rfl : (Tryz.prog.info? 142).map (·.zero) = some (some (.int .u32 0)))
theorem sz143 : SizeIs Tryz.prog 143 1 := (by kernel_rfl : (Tryz.prog.info? 143).map (·.size) = some 1)
theorem zr143 : ZeroIs Tryz.prog 143 (.nilFunc) := (by kernel_rfl : (Tryz.prog.info? 143).map (·.zero) = some (some (.nilFunc)))
theorem sz144 : SizeIs Tryz.prog 144 1 := (by kernel_rfl : (Tryz.prog.info? 144).map (·.size) = some 1)
theorem zr144 : ZeroIs Tryz.prog 144 (.nilFunc) := (by kernel_rfl : (Tryz.prog.info? 144).map (·.zero) = some (some (.nilFunc)))
theorem sz145 : SizeIs Tryz.prog 145 1 := (by kernel_rfl : (Tryz.prog.info? 145).map (·.size) = some 1)
theorem zr145 : ZeroIs Tryz.prog 145 (.nilFunc) := (by kernel_rfl : (Tryz.prog.info? 145).map (·.zero) = some (some (.nilFunc)))
theorem sz146 : SizeIs Tryz.prog 146 1 := (by kernel_rfl : (Tryz.prog.info? 146).map (·.size) = some 1)
theorem zr146 : ZeroIs Tryz.prog 146 (.nilFunc) := (by kernel_rfl : (Tryz.prog.info? 146).map (·.zero) = some (some (.nilFunc)))
theorem sz147 : SizeIs Tryz.prog 147 32 := (by kernel_rfl : (Tryz.prog.info? 147).map (·.size) = some 32)
theorem zr147 : ZeroIs Tryz.prog 147 (.agg #[.int .u8 0, .int .u8 0, .int .u8 0, .int .u8 0, .int .u8 0, .int .u8 0, .int .u8 0, .int .u8 0, .int .u8 0, .int .u8 0, .int .u8 0, .int .u8 0, .int .u8 0, .int .u8 0, .int .u8 0, .int .u8 0, .int .u8 0, .int .u8 0, .int .u8 0, .int .u8 0, .int .u8 0, .int .u8 0, .int .u8 0, .int .u8 0, .int .u8 0, .int .u8 0, .int .u8 0, .int .u8 0, .int .u8 0, .int .u8 0, .int .u8 0, .int .u8 0]) := (by kernel_rfl : (Tryz.prog.info? 147).map (·.zero) = some (some (.agg #[.int .u8 0, .int .u8 0, .int .u8 0, .int .u8 0, .int .u8 0, .int .u8 0, .int .u8 0, .int .u8 0, .int .u8 0, .int .u8 0, .int .u8 0, .int .u8 0, .int .u8 0, .int .u8 0, .int .u8 0, .int .u8 0, .int .u8 0, .int .u8 0, .int .u8 0, .int .u8 0, .int .u8 0, .int .u8 0, .int .u8 0, .int .u8 0, .int .u8 0, .int .u8 0, .int .u8 0, .int .u8 0, .int .u8 0, .int .u8 0, .int .u8 0, .int .u8 0])))
theorem sz148 : SizeIs Tryz.prog 148 1 := (by kernel_rfl : (Tryz.prog.info? 148).map (·.size) = some 1)
theorem zr148 : ZeroIs Tryz.prog 148 (.nilFunc) := (by kernel_rfl : (Tryz.prog.info? 148).map (·.zero) = some (some (.nilFunc)))
theorem sz150 : SizeIs Tryz.prog 150 1 := (by kernel_rfl : (Tryz.prog.info? 150).map (·.size) = some 1)
theorem zr150 : ZeroIs Tryz.prog 150 (.nilFunc) := (by kernel_rfl : (Tryz.prog.info? 150).map (·.zero) = some (some (.nilFunc)))
theorem sz151 : SizeIs Tryz.prog 151 1 := (by kernel_rfl : (Tryz.prog.info? 151).map (·.size) = some 1)
theorem zr151 : ZeroIs Tryz.prog 151 (.nilFunc) := (by kernel_rfl : (Tryz.prog.info? 151).map (·.zero) = some (some (.nilFunc)))
theorem sz152 : SizeIs Tryz.prog 152 24 := (by kernel_rfl : (Tryz.prog.info? 152).map (·.size) = some 24)
theorem zr152 : ZeroIs Tryz.prog 152 (.agg #[.int .u8 0, .int .u8 0, .int .u8 0, .int .u8 0, .int .u8 0, .int .u8 0, .int .u8 0, .int .u8 0, .int .u8 0, .int .u8 0, .int .u8 0, .int .u8 0, .int .u8 0, .int .u8 0, .int .u8 0, .int .u8 0, .int .u8 0, .int .u8 0, .int .u8 0, .int .u8 0, .int .u8 0, .int .u8 0, .int .u8 0, .int .u8 0]) := (by kernel_rfl : (Tryz.prog.info? 152).map (·.zero) = some (some (.agg #[.int .u8 0, .int .u8 0, .int .u8 0, .int .u8 0, .int .u8 0, .int .u8 0, .int .u8 0, .int .u8 0, .int .u8 0, .int .u8 0, .int .u8 0, .int .u8 0, .int .u8 0, .int .u8 0, .int .u8 0, .int .u8 0, .int .u8 0, .int .u8 0, .int .u8 0, .int .u8 0, .int .u8 0, .int .u8 0, .int .u8 0, .int .u8 0])))
theorem sz153 : SizeIs Tryz.prog 153 1 := (by kernel_rfl : (Tryz.prog.info? 153).map (·.size) = some 1)
theorem zr153 : ZeroIs Tryz.prog 153 (.nilFunc) := (by kernel_rfl : (Tryz.prog.info? 153).map (·.zero) = some (some (.nilFunc)))
theorem sz154 : SizeIs Tryz.prog 154 1 := (by kernel_rfl : (Tryz.prog.info? 154).map (·.size) = some 1)
theorem zr154 : ZeroIs Tryz.prog 154 (.pointer none) := (by kernel_rfl : (Tryz.prog.info? 154).map (·.zero) = some (some (.pointer none)))
theorem sz155 : SizeIs Tryz.prog 155 800 := (by kernel_rfl : (Tryz.prog.info? 155).map (·.size) = some 800)
theorem sz156 : SizeIs Tryz.prog 156 804 := (by kernel_rfl : (Tryz.prog.info? 156).map (·.size) = some 804)
theorem sz157 : SizeIs Tryz.prog 157 804 := (by kernel_rfl : (Tryz.prog.info? 157).map (·.size) = some 804)
theorem sz158 : SizeIs Tryz.prog 158 1 := (by kernel_rfl : (Tryz.prog.info? 158).map (·.size) = some 1)
theorem zr158 : ZeroIs Tryz.prog 158 (.nilFunc) := (by kernel_rfl : (Tryz.prog.info? 158).map (·.zero) = some (some (.nilFunc)))
theorem sz159 : SizeIs Tryz.prog 159 1 := (by kernel_rfl : (Tryz.prog.info? 159).map (·.size) = some 1)
theorem zr159 : ZeroIs Tryz.prog 159 (.nilFunc) := (by kernel_rfl : (Tryz.prog.info? 159).map (·.zero) = some (some (.nilFunc)))
theorem sz161 : SizeIs Tryz.prog 161 1 := (by kernel_rfl : (Tryz.prog.info? 161).map (·.size) = some 1)
theorem zr161 : ZeroIs Tryz.prog 161 (.nilFunc) := (by kernel_rfl : (Tryz.prog.info? 161).map (·.zero) = some (some (.nilFunc)))
theorem sz162 : SizeIs Tryz.prog 162 1 := (by kernel_rfl : (Tryz.prog.info? 162).map (·.size) = some 1)
theorem zr162 : ZeroIs Tryz.prog 162 (.nilFunc) := (by kernel_rfl : (Tryz.prog.info? 162).map (·.zero) = some (some (.nilFunc)))
theorem sz163 : SizeIs Tryz.prog 163 1 := (by kernel_rfl : (Tryz.prog.info? 163).map (·.size) = some 1)
theorem zr163 : ZeroIs Tryz.prog 163 (.nilFunc) := (by kernel_rfl : (Tryz.prog.info? 163).map (·.zero) = some (some (.nilFunc)))
theorem sz164 : SizeIs Tryz.prog 164 1 := (by kernel_rfl : (Tryz.prog.info? 164).map (·.size) = some 1)
theorem zr164 : ZeroIs Tryz.prog 164 (.nilFunc) := (by kernel_rfl : (Tryz.prog.info? 164).map (·.zero) = some (some (.nilFunc)))
theorem sz166 : SizeIs Tryz.prog 166 1 := (by kernel_rfl : (Tryz.prog.info? 166).map (·.size) = some 1)
theorem zr166 : ZeroIs Tryz.prog 166 (.nilFunc) := (by kernel_rfl : (Tryz.prog.info? 166).map (·.zero) = some (some (.nilFunc)))
theorem sz168 : SizeIs Tryz.prog 168 1 := (by kernel_rfl : (Tryz.prog.info? 168).map (·.size) = some 1)
theorem zr168 : ZeroIs Tryz.prog 168 (.nilFunc) := (by kernel_rfl : (Tryz.prog.info? 168).map (·.zero) = some (some (.nilFunc)))
theorem sz170 : SizeIs Tryz.prog 170 1 := (by kernel_rfl : (Tryz.prog.info? 170).map (·.size) = some 1)
theorem zr170 : ZeroIs Tryz.prog 170 (.nilFunc) := (by kernel_rfl : (Tryz.prog.info? 170).map (·.zero) = some (some (.nilFunc)))
theorem sz171 : SizeIs Tryz.prog 171 1 := (by kernel_rfl : (Tryz.prog.info? 171).map (·.size) = some 1)
theorem zr171 : ZeroIs Tryz.prog 171 (.nilFunc) := (by kernel_rfl : (Tryz.prog.info? 171).map (·.zero) = some (some (.nilFunc)))
theorem sz172 : SizeIs Tryz.prog 172 1 := (by kernel_rfl : (Tryz.prog.info? 172).map (·.size) = some 1)
theorem zr172 : ZeroIs Tryz.prog 172 (.pointer none) := (by kernel_rfl : (Tryz.prog.info? 172).map (·.zero) = some (some (.pointer none)))
theorem sz173 : SizeIs Tryz.prog 173 3 := (by kernel_rfl : (Tryz.prog.info? 173).map (·.size) = some 3)
theorem zr173 : ZeroIs Tryz.prog 173 (.agg #[.int .u64 0, .int .u64 0, .int .i64 0]) := (by kernel_rfl : (Tryz.prog.info? 173).map (·.zero) = some (some (.agg #[.int .u64 0, .int .u64 0, .int .i64 0])))
theorem sz174 : SizeIs Tryz.prog 174 3 := (by kernel_rfl : (Tryz.prog.info? 174).map (·.size) = some 3)
theorem zr174 : ZeroIs Tryz.prog 174 (.agg #[.int .u64 0, .int .u64 0, .int .i64 0]) := (by kernel_rfl : (Tryz.prog.info? 174).map (·.zero) = some (some (.agg #[.int .u64 0, .int .u64 0, .int .i64 0])))
theorem sz175 : SizeIs Tryz.prog 175 1 := (by kernel_rfl : (Tryz.prog.info? 175).map (·.size) = some 1)
theorem zr175 : ZeroIs Tryz.prog 175 (.nilFunc) := (by kernel_rfl : (Tryz.prog.info? 175).map (·.zero) = some (some (.nilFunc)))
theorem sz176 : SizeIs Tryz.prog 176 1 := (by kernel_rfl : (Tryz.prog.info? 176).map (·.size) = some 1)
theorem zr176 : ZeroIs Tryz.prog 176 (.nilFunc) := (by kernel_rfl : (Tryz.prog.info? 176).map (·.zero) = some (some (.nilFunc)))
theorem sz178 : SizeIs Tryz.prog 178 1 := (by kernel_rfl : (Tryz.prog.info? 178).map (·.size) = some 1)
theorem zr178 : ZeroIs Tryz.prog 178 (.nilFunc) := (by kernel_rfl : (Tryz.prog.info? 178).map (·.zero) = some (some (.nilFunc)))
theorem sz180 : SizeIs Tryz.prog 180 1 := (by kernel_rfl : (Tryz.prog.info? 180).map (·.size) = some 1)
theorem zr180 : ZeroIs Tryz.prog 180 (.nilFunc) := (by kernel_rfl : (Tryz.prog.info? 180).map (·.zero) = some (some (.nilFunc)))
theorem sz182 : SizeIs Tryz.prog 182 1 := (by kernel_rfl : (Tryz.prog.info? 182).map (·.size) = some 1)
theorem zr182 : ZeroIs Tryz.prog 182 (.nilFunc) := (by kernel_rfl : (Tryz.prog.info? 182).map (·.zero) = some (some (.nilFunc)))
theorem sz183 : SizeIs Tryz.prog 183 1 := (by kernel_rfl : (Tryz.prog.info? 183).map (·.size) = some 1)
theorem zr183 : ZeroIs Tryz.prog 183 (.nilFunc) := (by kernel_rfl : (Tryz.prog.info? 183).map (·.zero) = some (some (.nilFunc)))
theorem sz185 : SizeIs Tryz.prog 185 1 := (by kernel_rfl : (Tryz.prog.info? 185).map (·.size) = some 1)
theorem zr185 : ZeroIs Tryz.prog 185 (.nilFunc) := (by kernel_rfl : (Tryz.prog.info? 185).map (·.zero) = some (some (.nilFunc)))
theorem sz186 : SizeIs Tryz.prog 186 1 := (by kernel_rfl : (Tryz.prog.info? 186).map (·.size) = some 1)
theorem zr186 : ZeroIs Tryz.prog 186 (.nilFunc) := (by kernel_rfl : (Tryz.prog.info? 186).map (·.zero) = some (some (.nilFunc)))
theorem sz187 : SizeIs Tryz.prog 187 1 := (by kernel_rfl : (Tryz.prog.info? 187).map (·.size) = some 1)
theorem zr187 : ZeroIs Tryz.prog 187 (.pointer none) := (by kernel_rfl : (Tryz.prog.info? 187).map (·.zero) = some (some (.pointer none)))
theorem sz188 : SizeIs Tryz.prog 188 1 := (by kernel_rfl : (Tryz.prog.info? 188).map (·.size) = some 1)
theorem zr188 : ZeroIs Tryz.prog 188 (.pointer none) := (by kernel_rfl : (Tryz.prog.info? 188).map (·.zero) = some (some (.pointer none)))
theorem sz189 : SizeIs Tryz.prog 189 1 := (by kernel_rfl : (Tryz.prog.info? 189).map (·.size) = some 1)
theorem zr189 : ZeroIs Tryz.prog 189 (.agg #[.string ⟨#[]⟩]) := (by kernel_rfl : (Tryz.prog.info? 189).map (·.zero) = some (some (.agg #[.string ⟨#[]⟩])))
theorem sz190 : SizeIs Tryz.prog 190 1 := (by kernel_rfl : (Tryz.prog.info? 190).map (·.size) = some 1)
theorem zr190 : ZeroIs Tryz.prog 190 (.agg #[.string ⟨#[]⟩]) := (by kernel_rfl : (Tryz.prog.info? 190).map (·.zero) = some (some (.agg #[.string ⟨#[]⟩])))
theorem sz191 : SizeIs Tryz.prog 191 1 := (by kernel_rfl : (Tryz.prog.info? 191).map (·.size) = some 1)
theorem zr191 : ZeroIs Tryz.prog 191 (.nilFunc) := (by kernel_rfl : (Tryz.prog.info? 191).map (·.zero) = some (some (.nilFunc)))
theorem sz192 : SizeIs Tryz.prog 192 1 := (by kernel_rfl : (Tryz.prog.info? 192).map (·.size) = some 1)
theorem zr192 : ZeroIs Tryz.prog 192 (.nilFunc) := (by kernel_rfl : (Tryz.prog.info? 192).map (·.zero) = some (some (.nilFunc)))
theorem sz193 : SizeIs Tryz.prog 193 1 := (by kernel_rfl : (Tryz.prog.info? 193).map (·.size) = some 1)
theorem zr193 : ZeroIs Tryz.prog 193 (.nilFunc) := (by kernel_rfl : (Tryz.prog.info? 193).map (·.zero) = some (some (.nilFunc)))
theorem sz194 : SizeIs Tryz.prog 194 3 := (by kernel_rfl : (Tryz.prog.info? 194).map (·.size) = some 3)
theorem zr194 : ZeroIs Tryz.prog 194 (.agg #[.int .u64 0, .int .u64 0, .int .i64 0]) := (by kernel_rfl : (Tryz.prog.info? 194).map (·.zero) = some (some (.agg #[.int .u64 0, .int .u64 0, .int .i64 0])))
theorem sz195 : SizeIs Tryz.prog 195 3 := (by kernel_rfl : (Tryz.prog.info? 195).map (·.size) = some 3)
theorem zr195 : ZeroIs Tryz.prog 195 (.agg #[.int .u64 0, .int .u64 0, .int .i64 0]) := (by kernel_rfl : (Tryz.prog.info? 195).map (·.zero) = some (some (.agg #[.int .u64 0, .int .u64 0, .int .i64 0])))
theorem sz196 : SizeIs Tryz.prog 196 1 := (by kernel_rfl : (Tryz.prog.info? 196).map (·.size) = some 1)
theorem zr196 : ZeroIs Tryz.prog 196 (.nilFunc) := (by kernel_rfl : (Tryz.prog.info? 196).map (·.zero) = some (some (.nilFunc)))
theorem sz197 : SizeIs Tryz.prog 197 1 := (by kernel_rfl : (Tryz.prog.info? 197).map (·.size) = some 1)
theorem zr197 : ZeroIs Tryz.prog 197 (.pointer none) := (by kernel_rfl : (Tryz.prog.info? 197).map (·.zero) = some (some (.pointer none)))
theorem sz198 : SizeIs Tryz.prog 198 1 := (by kernel_rfl : (Tryz.prog.info? 198).map (·.size) = some 1)
theorem zr198 : ZeroIs Tryz.prog 198 (.int .u64 0) := (by kernel_rfl : (Tryz.prog.info? 198).map (·.zero) = some (some (.int .u64 0)))
theorem sz199 : SizeIs Tryz.prog 199 1 := (by kernel_rfl : (Tryz.prog.info? 199).map (·.size) = some 1)
theorem zr199 : ZeroIs Tryz.prog 199 (.nilFunc) := (by kernel_rfl : (Tryz.prog.info? 199).map (·.zero) = some (some (.nilFunc)))
theorem sz200 : SizeIs Tryz.prog 200 1 := (by kernel_rfl : (Tryz.prog.info? 200).map (·.size) = some 1)
theorem zr200 : ZeroIs Tryz.prog 200 (.nilFunc) := (by kernel_rfl : (Tryz.prog.info? 200).map (·.zero) = some (some (.nilFunc)))
theorem sz201 : SizeIs Tryz.prog 201 1 := (by kernel_rfl : (Tryz.prog.info? 201).map (·.size) = some 1)
theorem zr201 : ZeroIs Tryz.prog 201 (.nilFunc) := (by kernel_rfl : (Tryz.prog.info? 201).map (·.zero) = some (some (.nilFunc)))
theorem sz202 : SizeIs Tryz.prog 202 1 := (by kernel_rfl : (Tryz.prog.info? 202).map (·.size) = some 1)
theorem zr202 : ZeroIs Tryz.prog 202 (.nilFunc) := (by kernel_rfl : (Tryz.prog.info? 202).map (·.zero) = some (some (.nilFunc)))
theorem sz203 : SizeIs Tryz.prog 203 20 := (by kernel_rfl : (Tryz.prog.info? 203).map (·.size) = some 20)
theorem zr203 : ZeroIs Tryz.prog 203 (.agg #[.int .u64 0, .int .u64 0, .int .u64 0, .int .u64 0, .int .u64 0, .int .u64 0, .int .u64 0, .int .u64 0, .int .u64 0, .int .u64 0, .int .u64 0, .int .u64 0, .int .u64 0, .int .u64 0, .int .u64 0, .int .u64 0, .int .u64 0, .int .u64 0, .int .u64 0, .int .u64 0]) := (by kernel_rfl : (Tryz.prog.info? 203).map (·.zero) = some (some (.agg #[.int .u64 0, .int .u64 0, .int .u64 0, .int .u64 0, .int .u64 0, .int .u64 0, .int .u64 0, .int .u64 0, .int .u64 0, .int .u64 0, .int .u64 0, .int .u64 0, .int .u64 0, .int .u64 0, .int .u64 0, .int .u64 0, .int .u64 0, .int .u64 0, .int .u64 0, .int .u64 0])))
theorem sz204 : SizeIs Tryz.prog 204 1 := (by kernel_rfl : (Tryz.prog.info? 204).map (·.size) = some 1)
theorem zr204 : ZeroIs Tryz.prog 204 (.nilFunc) := (by kernel_rfl : (Tryz.prog.info? 204).map (·.zero) = some (some (.nilFunc)))
theorem sz205 : SizeIs Tryz.prog 205 1 := (by kernel_rfl : (Tryz.prog.info? 205).map (·.size) = some 1)
theorem zr205 : ZeroIs Tryz.prog 205 (.nilFunc) := (by kernel_rfl : (Tryz.prog.info? 205).map (·.zero) = some (some (.nilFunc)))
theorem sz206 : SizeIs Tryz.prog 206 1 := (by kernel_rfl : (Tryz.prog.info? 206).map (·.size) = some 1)
theorem zr206 : ZeroIs Tryz.prog 206 (.nilFunc) := (by kernel_rfl : (Tryz.prog.info? 206).map (·.zero) = some (some (.nilFunc)))
theorem sz207 : SizeIs Tryz.prog 207 1 := (by kernel_rfl : (Tryz.prog.info? 207).map (·.size) = some 1)
theorem zr207 : ZeroIs Tryz.prog 207 (.nilFunc) := (by kernel_rfl : (Tryz.prog.info? 207).map (·.zero) = some (some (.nilFunc)))
theorem sz209 : SizeIs Tryz.prog 209 1 := (by kernel_rfl : (Tryz.prog.info? 209).map (·.size) = some 1)
theorem zr209 : ZeroIs Tryz.prog 209 (.nilFunc) := (by kernel_rfl : (Tryz.prog.info? 209).map (·.zero) = some (some (.nilFunc)))
theorem sz210 : SizeIs Tryz.prog 210 65 := (by kernel_rfl : (Tryz.prog.info? 210).map (·.size) = some 65)
theorem sz211 : SizeIs Tryz.prog 211 1 := (by kernel_rfl : (Tryz.prog.info? 211).map (·.size) = some 1)
theorem zr211 : ZeroIs Tryz.prog 211 (.nilFunc) := (by kernel_rfl : (Tryz.prog.info? 211).map (·.zero) = some (some (.nilFunc)))
theorem sz212 : SizeIs Tryz.prog 212 1 := (by kernel_rfl : (Tryz.prog.info? 212).map (·.size) = some 1)
theorem zr212 : ZeroIs Tryz.prog 212 (.nilFunc) := (by kernel_rfl : (Tryz.prog.info? 212).map (·.zero) = some (some (.nilFunc)))
theorem sz213 : SizeIs Tryz.prog 213 1 := (by kernel_rfl : (Tryz.prog.info? 213).map (·.size) = some 1)
theorem zr213 : ZeroIs Tryz.prog 213 (.slice none 0 0) := (by kernel_rfl : (Tryz.prog.info? 213).map (·.zero) = some (some (.slice none 0 0)))
theorem sz214 : SizeIs Tryz.prog 214 1 := (by kernel_rfl : (Tryz.prog.info? 214).map (·.size) = some 1)
theorem zr214 : ZeroIs Tryz.prog 214 (.nilFunc) := (by kernel_rfl : (Tryz.prog.info? 214).map (·.zero) = some (some (.nilFunc)))
theorem sz215 : SizeIs Tryz.prog 215 1 := (by kernel_rfl : (Tryz.prog.info? 215).map (·.size) = some 1)
theorem zr215 : ZeroIs Tryz.prog 215 (.slice none 0 0) := (by kernel_rfl : (Tryz.prog.info? 215).map (·.zero) = some (some (.slice none 0 0)))
theorem sz216 : SizeIs Tryz.prog 216 1 := (by kernel_rfl : (Tryz.prog.info? 216).map (·.size) = some 1)
theorem zr216 : ZeroIs Tryz.prog 216 (.slice none 0 0) := (by kernel_rfl : (Tryz.prog.info? 216).map (·.zero) = some (some (.slice none 0 0)))
theorem sz217 : SizeIs Tryz.prog 217 1 := (by kernel_rfl : (Tryz.prog.info? 217).map (·.size) = some 1)
theorem zr217 : ZeroIs Tryz.prog 217 (.nilFunc) := (by kernel_rfl : (Tryz.prog.info? 217).map (·.zero) = some (some (.nilFunc)))
theorem sz218 : SizeIs Tryz.prog 218 1 := (by kernel_rfl : (Tryz.prog.info? 218).map (·.size) = some 1)
theorem zr218 : ZeroIs Tryz.prog 218 (.nilFunc) := (by kernel_rfl : (Tryz.prog.info? 218).map (·.zero) = some (some (.nilFunc)))
theorem sz219 : SizeIs Tryz.prog 219 2 := (by kernel_rfl : (Tryz.prog.info? 219).map (·.size) = some 2)
theorem zr219 : ZeroIs Tryz.prog 219 (.agg #[.int .u64 0, .int .u64 0]) := (by kernel_rfl : (Tryz.prog.info? 219).map (·.zero) = some (some (.agg #[.int .u64 0, .int .u64 0])))
theorem sz220 : SizeIs Tryz.prog 220 2 := (by kernel_rfl : (Tryz.prog.info? 220).map (·.size) = some 2)
theorem zr220 : ZeroIs Tryz.prog 220 (.agg #[.int .u64 0, .int .u64 0]) := (by kernel_rfl : (Tryz.prog.info? 220).map (·.zero) = some (some (.agg #[.int .u64 0, .int .u64 0])))
theorem sz221 : SizeIs Tryz.prog 221 1392 := (by kernel_rfl : (Tryz.prog.info? 221).map (·.size) = some 1392)
theorem sz222 : SizeIs Tryz.prog 222 1 := (by kernel_rfl : (Tryz.prog.info? 222).map (·.size) = some 1)
theorem zr222 : ZeroIs Tryz.prog 222 (.nilFunc) := (by kernel_rfl : (Tryz.prog.info? 222).map (·.zero) = some (some (.nilFunc)))
theorem sz223 : SizeIs Tryz.prog 223 2 := (by kernel_rfl : (Tryz.prog.info? 223).map (·.size) = some 2)
theorem zr223 : ZeroIs Tryz.prog 223 (.agg #[.int .i64 0, .string ⟨#[]⟩]) := (by kernel_rfl : (Tryz.prog.info? 223).map (·.zero) = some (some (.agg #[.int .i64 0, .string ⟨#[]⟩])))
theorem sz224 : SizeIs Tryz.prog 224 2 := (by kernel_rfl : (Tryz.prog.info? 224).map (·.size) = some 2)
theorem zr224 : ZeroIs Tryz.prog 224 (.agg #[.int .i64 0, .string ⟨#[]⟩]) := (by kernel_rfl : (Tryz.prog.info? 224).map (·.zero) = some (some (.agg #[.int .i64 0, .string ⟨#[]⟩])))
theorem sz225 : SizeIs Tryz.prog 225 1 := (by kernel_rfl : (Tryz.prog.info? 225).map (·.size) = some 1)
theorem zr225 : ZeroIs Tryz.prog 225 (.slice none 0 0) := (by kernel_rfl : (Tryz.prog.info? 225).map (·.zero) = some (some (.slice none 0 0)))
theorem sz226 : SizeIs Tryz.prog 226 1 := (by kernel_rfl : (Tryz.prog.info? 226).map (·.size) = some 1)
theorem zr226 : ZeroIs Tryz.prog 226 (.nilFunc) := (by kernel_rfl : (Tryz.prog.info? 226).map (·.zero) = some (some (.nilFunc)))
theorem sz227 : SizeIs Tryz.prog 227 1 := (by kernel_rfl : (Tryz.prog.info? 227).map (·.size) = some 1)
theorem zr227 : ZeroIs Tryz.prog 227 (.nilFunc) := (by kernel_rfl : (Tryz.prog.info? 227).map (·.zero) = some (some (.nilFunc)))
theorem sz228 : SizeIs Tryz.prog 228 64 := (by kernel_rfl : (Tryz.prog.info? 228).map (·.size) = some 64)
theorem zr228 : ZeroIs Tryz.prog 228 (.agg #[.int .u8 0, .int .u8 0, .int .u8 0, .int .u8 0, .int .u8 0, .int .u8 0, .int .u8 0, .int .u8 0, .int .u8 0, .int .u8 0, .int .u8 0, .int .u8 0, .int .u8 0, .int .u8 0, .int .u8 0, .int .u8 0, .int .u8 0, .int .u8 0, .int .u8 0, .int .u8 0, .int .u8 0, .int .u8 0, .int .u8 0, .int .u8 0, .int .u8 0, .int .u8 0, .int .u8 0, .int .u8 0, .int .u8 0, .int .u8 0, .int .u8 0, .int .u8 0, .int .u8 0, .int .u8 0, .int .u8 0, .int .u8 0, .int .u8 0, .int .u8 0, .int .u8 0, .int .u8 0, .int .u8 0, .int .u8 0, .int .u8 0, .int .u8 0, .int .u8 0, .int .u8 0, .int .u8 0, .int .u8 0, .int .u8 0, .int .u8 0, .int .u8 0, .int .u8 0, .int .u8 0, .int .u8 0, .int .u8 0, .int .u8 0, .int .u8 0, .int .u8 0, .int .u8 0, .int .u8 0, .int .u8 0, .int .u8 0, .int .u8 0, .int .u8 0]) := (by kernel_rfl : (Tryz.prog.info? 228).map (·.zero) = some (some (.agg #[.int .u8 0, .int .u8 0, .int .u8 0, .int .u8 0, .int .u8 0, .int .u8 0, .int .u8 0, .int .u8 0, .int .u8 0, .int .u8 0, .int .u8 0, .int .u8 0, .int .u8 0, .int .u8 0, .int .u8 0, .int .u8 0, .int .u8 0, .int .u8 0, .int .u8 0, .int .u8 0, .int .u8 0, .int .u8 0, .int .u8 0, .int .u8 0, .int .u8 0, .int .u8 0, .int .u8 0, .int .u8 0, .int .u8 0, .int .u8 0, .int .u8 0, .int .u8 0, .int .u8 0, .int .u8 0, .int .u8 0, .int .u8 0, .int .u8 0, .int .u8 0, .int .u8 0, .int .u8 0, .int .u8 0, .int .u8 0, .int .u8 0, .int .u8 0, .int .u8 0, .int .u8 0, .int .u8 0, .int .u8 0, .int .u8 0, .int .u8 0, .int .u8 0, .int .u8 0, .int .u8 0, .int .u8 0, .int .u8 0, .int .u8 0, .int .u8 0, .int .u8 0, .int .u8 0, .int .u8 0, .int .u8 0, .int .u8 0, .int .u8 0, .int .u8 0])))
theorem sz229 : SizeIs Tryz.prog 229 1 := (by kernel_rfl : (Tryz.prog.info? 229).map (·.size) = some 1)
theorem zr229 : ZeroIs Tryz.prog 229 (.nilFunc) := (by kernel_rfl : (Tryz.prog.info? 229).map (·.zero) = some (some (.nilFunc)))
theorem sz230 : SizeIs Tryz.prog 230 4 := (by kernel_rfl : (Tryz.prog.info? 230).map (·.size) = some 4)
theorem zr230 : ZeroIs Tryz.prog 230 (.agg #[.pointer none, .pointer none, .pointer none, .string ⟨#[]⟩]) := (by kernel_rfl : (Tryz.prog.info? 230).map (·.zero) = some (some (.agg #[.pointer none, .pointer none, .pointer none, .string ⟨#[]⟩])))
theorem sz231 : SizeIs Tryz.prog 231 4 := (by kernel_rfl : (Tryz.prog.info? 231).map (·.size) = some 4)
theorem zr231 : ZeroIs Tryz.prog 231 (.agg #[.pointer none, .pointer none, .pointer none, .string ⟨#[]⟩]) := (by kernel_rfl : (Tryz.prog.info? 231).map (·.zero) = some (some (.agg #[.pointer none, .pointer none, .pointer none, .string ⟨#[]⟩])))
theorem sz232 : SizeIs Tryz.prog 232 0 := (by kernel_rfl : (Tryz.prog.info? 232).map (·.size) = some 0)
theorem zr232 : ZeroIs Tryz.prog 232 (.agg #[]) := (by kernel_rfl : (Tryz.prog.info? 232).map (·.zero) = some (some (.agg #[])))
theorem sz233 : SizeIs Tryz.prog 233 0 := (by kernel_rfl : (Tryz.prog.info? 233).map (·.size) = some 0)
theorem zr233 : ZeroIs Tryz.prog 233 (.agg #[]) := (by kernel_rfl : (Tryz.prog.info? 233).map (·.zero) = some (some (.agg #[])))
theorem sz234 : SizeIs Tryz.prog 234 0 := (by kernel_rfl : (Tryz.prog.info? 234).map (·.size) = some 0)
theorem zr234 : ZeroIs Tryz.prog 234 (.agg #[]) := (by kernel_rfl : (Tryz.prog.info? 234).map (·.zero) = some (some (.agg #[])))
theorem sz235 : SizeIs Tryz.prog 235 1 := (by kernel_rfl : (Tryz.prog.info? 235).map (·.size) = some 1)
theorem zr235 : ZeroIs Tryz.prog 235 (.nilFunc) := (by kernel_rfl : (Tryz.prog.info? 235).map (·.zero) = some (some (.nilFunc)))
theorem sz236 : SizeIs Tryz.prog 236 1 := (by kernel_rfl : (Tryz.prog.info? 236).map (·.size) = some 1)
theorem zr236 : ZeroIs Tryz.prog 236 (.int .u8 0) := (by kernel_rfl : (Tryz.prog.info? 236).map (·.zero) = some (some (.int .u8 0)))
theorem sz237 : SizeIs Tryz.prog 237 1 := (by kernel_rfl : (Tryz.prog.info? 237).map (·.size) = some 1)
theorem zr237 : ZeroIs Tryz.prog 237 (.int .u8 0) := (by kernel_rfl : (Tryz.prog.info? 237).map (·.zero) = some (some (.int .u8 0)))
theorem sz238 : SizeIs Tryz.prog 238 1 := (by kernel_rfl : (Tryz.prog.info? 238).map (·.size) = some 1)
theorem zr238 : ZeroIs Tryz.prog 238 (.nilFunc) := (by kernel_rfl : (Tryz.prog.info? 238).map (·.zero) = some (some (.nilFunc)))
theorem sz239 : SizeIs Tryz.prog 239 1 := (by kernel_rfl : (Tryz.prog.info? 239).map (·.size) = some 1)
theorem zr239 : ZeroIs Tryz.prog 239 (.int .i32 0) := (by kernel_rfl : (Tryz.prog.info? 239).map (·.zero) = some (some (.int .i32 0)))
theorem sz240 : SizeIs Tryz.prog 240 1 := (by kernel_rfl : (Tryz.prog.info? 240).map (·.size) = some 1)
theorem zr240 : ZeroIs Tryz.prog 240 (.int .i32 0) := (by kernel_rfl : (Tryz.prog.info? 240).map (·.zero) = some (some (.int .i32 0)))
theorem sz241 : SizeIs Tryz.prog 241 11 := (by kernel_rfl : (Tryz.prog.info? 241).map (·.size) = some 11)
theorem zr241 : ZeroIs Tryz.prog 241 (.agg #[.int .u64 0, .int .u64 0, .int .u32 0, .int .u8 0, .int .u8 0, .int .u8 0, .int .u8 0, .nilFunc, .pointer none, .int .i32 0, .int .i32 0]) := (by kernel_rfl : (Tryz.prog.info? 241).map (·.zero) = some (some (.agg #[.int .u64 0, .int .u64 0, .int .u32 0, .int .u8 0, .int .u8 0, .int .u8 0, .int .u8 0, .nilFunc, .pointer none, .int .i32 0, .int .i32 0])))
theorem sz242 : SizeIs Tryz.prog 242 11 := (by kernel_rfl : (Tryz.prog.info? 242).map (·.size) = some 11)
theorem zr242 : ZeroIs Tryz.prog 242 (.agg #[.int .u64 0, .int .u64 0, .int .u32 0, .int .u8 0, .int .u8 0, .int .u8 0, .int .u8 0, .nilFunc, .pointer none, .int .i32 0, .int .i32 0]) := (by kernel_rfl : (Tryz.prog.info? 242).map (·.zero) = some (some (.agg #[.int .u64 0, .int .u64 0, .int .u32 0, .int .u8 0, .int .u8 0, .int .u8 0, .int .u8 0, .nilFunc, .pointer none, .int .i32 0, .int .i32 0])))
theorem sz243 : SizeIs Tryz.prog 243 1 := (by kernel_rfl : (Tryz.prog.info? 243).map (·.size) = some 1)
theorem zr243 : ZeroIs Tryz.prog 243 (.pointer none) := (by kernel_rfl : (Tryz.prog.info? 243).map (·.zero) = some (some (.pointer none)))
theorem inf2 : InfoIs Tryz.prog 2 (.int .i64 0) 1 8 := (by kernel_rfl : (Tryz.prog.info? 2).map (fun i => (i.zero, i.size, i.bytes)) = some (some (.int .i64 0), 1, 8))
theorem inf3 : InfoIs Tryz.prog 3 (.int .i64 0) 1 8 := (by kernel_rfl : (Tryz.prog.info? 3).map (fun i => (i.zero, i.size, i.bytes)) = some (some (.int .i64 0), 1, 8))
theorem inf4 : InfoIs Tryz.prog 4 (.bool false) 1 1 := (by kernel_rfl : (Tryz.prog.info? 4).map (fun i => (i.zero, i.size, i.bytes)) = some (some (.bool false), 1, 1))
theorem inf5 : InfoIs Tryz.prog 5 (.int .u8 0) 1 1 := (by kernel_rfl : (Tryz.prog.info? 5).map (fun i => (i.zero, i.size, i.bytes)) = some (some (.int .u8 0), 1, 1))
theorem inf6 : InfoIs Tryz.prog 6 (.int .u8 0) 1 1 := (by kernel_rfl : (Tryz.prog.info? 6).map (fun i => (i.zero, i.size, i.bytes)) = some (some (.int .u8 0), 1, 1))
theorem pl7 : Places Tryz.prog 7 [(0, 1), (1, 1), (2, 1), (3, 1)] := ⟨_, Tryz.underlying7, by kernel_rfl⟩
theorem inf7 : InfoIs Tryz.prog 7 (.agg #[.int .i64 0, .int .i64 0, .bool false, .int .u8 0]) 4 24 := (by kernel_rfl : (Tryz.prog.info? 7).map (fun i => (i.zero, i.size, i.bytes)) = some (some (.agg #[.int .i64 0, .int .i64 0, .bool false, .int .u8 0]), 4, 24))
theorem pl8 : Places Tryz.prog 8 [(0, 1), (1, 1), (2, 1), (3, 1)] := ⟨_, Tryz.underlying8, by kernel_rfl⟩
theorem inf8 : InfoIs Tryz.prog 8 (.agg #[.int .i64 0, .int .i64 0, .bool false, .int .u8 0]) 4 24 := (by kernel_rfl : (Tryz.prog.info? 8).map (fun i => (i.zero, i.size, i.bytes)) = some (some (.agg #[.int .i64 0, .int .i64 0, .bool false, .int .u8 0]), 4, 24))
theorem inf9 : InfoIs Tryz.prog 9 (.string ⟨#[]⟩) 1 16 := (by kernel_rfl : (Tryz.prog.info? 9).map (fun i => (i.zero, i.size, i.bytes)) = some (some (.string ⟨#[]⟩), 1, 16))
theorem inf10 : InfoIs Tryz.prog 10 (.string ⟨#[]⟩) 1 16 := (by kernel_rfl : (Tryz.prog.info? 10).map (fun i => (i.zero, i.size, i.bytes)) = some (some (.string ⟨#[]⟩), 1, 16))
theorem inf11 : InfoIs Tryz.prog 11 (.string ⟨#[]⟩) 1 16 := (by kernel_rfl : (Tryz.prog.info? 11).map (fun i => (i.zero, i.size, i.bytes)) = some (some (.string ⟨#[]⟩), 1, 16))
theorem inf12 : InfoIs Tryz.prog 12 (.int .u64 0) 1 8 := (by kernel_rfl : (Tryz.prog.info? 12).map (fun i => (i.zero, i.size, i.bytes)) = some (some (.int .u64 0), 1, 8))
theorem pl13 : Places Tryz.prog 13 [(0, 1), (1, 1)] := ⟨_, Tryz.underlying13, by kernel_rfl⟩
theorem inf13 : InfoIs Tryz.prog 13 (.agg #[.string ⟨#[]⟩, .int .u64 0]) 2 24 := (by kernel_rfl : (Tryz.prog.info? 13).map (fun i => (i.zero, i.size, i.bytes)) = some (some (.agg #[.string ⟨#[]⟩, .int .u64 0]), 2, 24))
theorem pl14 : Places Tryz.prog 14 [(0, 1), (1, 1)] := ⟨_, Tryz.underlying14, by kernel_rfl⟩
theorem inf14 : InfoIs Tryz.prog 14 (.agg #[.string ⟨#[]⟩, .int .u64 0]) 2 24 := (by kernel_rfl : (Tryz.prog.info? 14).map (fun i => (i.zero, i.size, i.bytes)) = some (some (.agg #[.string ⟨#[]⟩, .int .u64 0]), 2, 24))
theorem inf15 : InfoIs Tryz.prog 15 (.pointer none) 1 8 := (by kernel_rfl : (Tryz.prog.info? 15).map (fun i => (i.zero, i.size, i.bytes)) = some (some (.pointer none), 1, 8))
theorem inf16 : InfoIs Tryz.prog 16 (.pointer none) 1 8 := (by kernel_rfl : (Tryz.prog.info? 16).map (fun i => (i.zero, i.size, i.bytes)) = some (some (.pointer none), 1, 8))
theorem inf17 : InfoIs Tryz.prog 17 (.pointer none) 1 8 := (by kernel_rfl : (Tryz.prog.info? 17).map (fun i => (i.zero, i.size, i.bytes)) = some (some (.pointer none), 1, 8))
theorem pl18 : Places Tryz.prog 18 [(0, 1)] := ⟨_, Tryz.underlying18, by kernel_rfl⟩
theorem inf18 : InfoIs Tryz.prog 18 (.agg #[.pointer none]) 1 8 := (by kernel_rfl : (Tryz.prog.info? 18).map (fun i => (i.zero, i.size, i.bytes)) = some (some (.agg #[.pointer none]), 1, 8))
theorem pl19 : Places Tryz.prog 19 [(0, 1)] := ⟨_, Tryz.underlying19, by kernel_rfl⟩
theorem inf19 : InfoIs Tryz.prog 19 (.agg #[.pointer none]) 1 8 := (by kernel_rfl : (Tryz.prog.info? 19).map (fun i => (i.zero, i.size, i.bytes)) = some (some (.agg #[.pointer none]), 1, 8))
theorem inf20 : InfoIs Tryz.prog 20 (.nilIface) 1 16 := (by kernel_rfl : (Tryz.prog.info? 20).map (fun i => (i.zero, i.size, i.bytes)) = some (some (.nilIface), 1, 16))
theorem inf21 : InfoIs Tryz.prog 21 (.int .i32 0) 1 4 := (by kernel_rfl : (Tryz.prog.info? 21).map (fun i => (i.zero, i.size, i.bytes)) = some (some (.int .i32 0), 1, 4))
theorem inf22 : InfoIs Tryz.prog 22 (.int .u64 0) 1 8 := (by kernel_rfl : (Tryz.prog.info? 22).map (fun i => (i.zero, i.size, i.bytes)) = some (some (.int .u64 0), 1, 8))
theorem inf23 : InfoIs Tryz.prog 23 (.int .i64 0) 1 8 := (by kernel_rfl : (Tryz.prog.info? 23).map (fun i => (i.zero, i.size, i.bytes)) = some (some (.int .i64 0), 1, 8))
theorem inf39 : InfoIs Tryz.prog 39 (.slice none 0 0) 1 24 := (by kernel_rfl : (Tryz.prog.info? 39).map (fun i => (i.zero, i.size, i.bytes)) = some (some (.slice none 0 0), 1, 24))
theorem pl40 : Places Tryz.prog 40 [(0, 1), (1, 1)] := ⟨_, Tryz.underlying40, by kernel_rfl⟩
theorem inf40 : InfoIs Tryz.prog 40 (.agg #[.bool false, .slice none 0 0]) 2 32 := (by kernel_rfl : (Tryz.prog.info? 40).map (fun i => (i.zero, i.size, i.bytes)) = some (some (.agg #[.bool false, .slice none 0 0]), 2, 32))
theorem pl41 : Places Tryz.prog 41 [(0, 1), (1, 1)] := ⟨_, Tryz.underlying41, by kernel_rfl⟩
theorem inf41 : InfoIs Tryz.prog 41 (.agg #[.bool false, .slice none 0 0]) 2 32 := (by kernel_rfl : (Tryz.prog.info? 41).map (fun i => (i.zero, i.size, i.bytes)) = some (some (.agg #[.bool false, .slice none 0 0]), 2, 32))
theorem inf59 : InfoIs Tryz.prog 59 (.nilIface) 1 16 := (by kernel_rfl : (Tryz.prog.info? 59).map (fun i => (i.zero, i.size, i.bytes)) = some (some (.nilIface), 1, 16))
theorem inf60 : InfoIs Tryz.prog 60 (.nilIface) 1 16 := (by kernel_rfl : (Tryz.prog.info? 60).map (fun i => (i.zero, i.size, i.bytes)) = some (some (.nilIface), 1, 16))
theorem inf84 : InfoIs Tryz.prog 84 (.slice none 0 0) 1 24 := (by kernel_rfl : (Tryz.prog.info? 84).map (fun i => (i.zero, i.size, i.bytes)) = some (some (.slice none 0 0), 1, 24))
theorem pl85 : Places Tryz.prog 85 [(0, 1), (1, 1)] := ⟨_, Tryz.underlying85, by kernel_rfl⟩
theorem inf85 : InfoIs Tryz.prog 85 (.agg #[.bool false, .slice none 0 0]) 2 32 := (by kernel_rfl : (Tryz.prog.info? 85).map (fun i => (i.zero, i.size, i.bytes)) = some (some (.agg #[.bool false, .slice none 0 0]), 2, 32))
theorem pl86 : Places Tryz.prog 86 [(0, 1), (1, 1)] := ⟨_, Tryz.underlying86, by kernel_rfl⟩
theorem inf86 : InfoIs Tryz.prog 86 (.agg #[.bool false, .slice none 0 0]) 2 32 := (by kernel_rfl : (Tryz.prog.info? 86).map (fun i => (i.zero, i.size, i.bytes)) = some (some (.agg #[.bool false, .slice none 0 0]), 2, 32))
theorem inf104 : InfoIs Tryz.prog 104 (.int .u64 0) 1 8 := (by kernel_rfl : (Tryz.prog.info? 104).map (fun i => (i.zero, i.size, i.bytes)) = some (some (.int .u64 0), 1, 8))
theorem inf118 : InfoIs Tryz.prog 118 (.int .i64 0) 1 8 := (by kernel_rfl : (Tryz.prog.info? 118).map (fun i => (i.zero, i.size, i.bytes)) = some (some (.int .i64 0), 1, 8))
theorem inf119 : InfoIs Tryz.prog 119 (.pointer none) 1 8 := (by kernel_rfl : (Tryz.prog.info? 119).map (fun i => (i.zero, i.size, i.bytes)) = some (some (.pointer none), 1, 8))
theorem pl138 : Places Tryz.prog 138 [(0, 1), (1, 1), (2, 1)] := ⟨_, Tryz.underlying138, by kernel_rfl⟩
theorem inf138 : InfoIs Tryz.prog 138 (.agg #[.string ⟨#[]⟩, .string ⟨#[]⟩, .nilIface]) 3 48 := (by kernel_rfl : (Tryz.prog.info? 138).map (fun i => (i.zero, i.size, i.bytes)) = some (some (.agg #[.string ⟨#[]⟩, .string ⟨#[]⟩, .nilIface]), 3, 48))
theorem pl139 : Places Tryz.prog 139 [(0, 1), (1, 1), (2, 1)] := ⟨_, Tryz.underlying139, by kernel_rfl⟩
theorem inf139 : InfoIs Tryz.prog 139 (.agg #[.string ⟨#[]⟩, .string ⟨#[]⟩, .nilIface]) 3 48 := (by kernel_rfl : (Tryz.prog.info? 139).map (fun i => (i.zero, i.size, i.bytes)) = some (some (.agg #[.string ⟨#[]⟩, .string ⟨#[]⟩, .nilIface]), 3, 48))
theorem inf142 : InfoIs Tryz.prog 142 (.int .u32 0) 1 4 := (by kernel_rfl : (Tryz.prog.info? 142).map (fun i => (i.zero, i.size, i.bytes)) = some (some (.int .u32 0), 1, 4))
theorem inf154 : InfoIs Tryz.prog 154 (.pointer none) 1 8 := (by kernel_rfl : (Tryz.prog.info? 154).map (fun i => (i.zero, i.size, i.bytes)) = some (some (.pointer none), 1, 8))
theorem inf172 : InfoIs Tryz.prog 172 (.pointer none) 1 8 := (by kernel_rfl : (Tryz.prog.info? 172).map (fun i => (i.zero, i.size, i.bytes)) = some (some (.pointer none), 1, 8))
theorem pl173 : Places Tryz.prog 173 [(0, 1), (1, 1), (2, 1)] := ⟨_, Tryz.underlying173, by kernel_rfl⟩
theorem inf173 : InfoIs Tryz.prog 173 (.agg #[.int .u64 0, .int .u64 0, .int .i64 0]) 3 24 := (by kernel_rfl : (Tryz.prog.info? 173).map (fun i => (i.zero, i.size, i.bytes)) = some (some (.agg #[.int .u64 0, .int .u64 0, .int .i64 0]), 3, 24))
theorem pl174 : Places Tryz.prog 174 [(0, 1), (1, 1), (2, 1)] := ⟨_, Tryz.underlying174, by kernel_rfl⟩
theorem inf174 : InfoIs Tryz.prog 174 (.agg #[.int .u64 0, .int .u64 0, .int .i64 0]) 3 24 := (by kernel_rfl : (Tryz.prog.info? 174).map (fun i => (i.zero, i.size, i.bytes)) = some (some (.agg #[.int .u64 0, .int .u64 0, .int .i64 0]), 3, 24))
theorem inf187 : InfoIs Tryz.prog 187 (.pointer none) 1 8 := (by kernel_rfl : (Tryz.prog.info? 187).map (fun i => (i.zero, i.size, i.bytes)) = some (some (.pointer none), 1, 8))
theorem inf188 : InfoIs Tryz.prog 188 (.pointer none) 1 8 := (by kernel_rfl : (Tryz.prog.info? 188).map (fun i => (i.zero, i.size, i.bytes)) = some (some (.pointer none), 1, 8))
theorem pl189 : Places Tryz.prog 189 [(0, 1)] := ⟨_, Tryz.underlying189, by kernel_rfl⟩
theorem inf189 : InfoIs Tryz.prog 189 (.agg #[.string ⟨#[]⟩]) 1 16 := (by kernel_rfl : (Tryz.prog.info? 189).map (fun i => (i.zero, i.size, i.bytes)) = some (some (.agg #[.string ⟨#[]⟩]), 1, 16))
theorem pl190 : Places Tryz.prog 190 [(0, 1)] := ⟨_, Tryz.underlying190, by kernel_rfl⟩
theorem inf190 : InfoIs Tryz.prog 190 (.agg #[.string ⟨#[]⟩]) 1 16 := (by kernel_rfl : (Tryz.prog.info? 190).map (fun i => (i.zero, i.size, i.bytes)) = some (some (.agg #[.string ⟨#[]⟩]), 1, 16))
theorem pl194 : Places Tryz.prog 194 [(0, 1), (1, 1), (2, 1)] := ⟨_, Tryz.underlying194, by kernel_rfl⟩
theorem inf194 : InfoIs Tryz.prog 194 (.agg #[.int .u64 0, .int .u64 0, .int .i64 0]) 3 24 := (by kernel_rfl : (Tryz.prog.info? 194).map (fun i => (i.zero, i.size, i.bytes)) = some (some (.agg #[.int .u64 0, .int .u64 0, .int .i64 0]), 3, 24))
theorem pl195 : Places Tryz.prog 195 [(0, 1), (1, 1), (2, 1)] := ⟨_, Tryz.underlying195, by kernel_rfl⟩
theorem inf195 : InfoIs Tryz.prog 195 (.agg #[.int .u64 0, .int .u64 0, .int .i64 0]) 3 24 := (by kernel_rfl : (Tryz.prog.info? 195).map (fun i => (i.zero, i.size, i.bytes)) = some (some (.agg #[.int .u64 0, .int .u64 0, .int .i64 0]), 3, 24))
theorem inf197 : InfoIs Tryz.prog 197 (.pointer none) 1 8 := (by kernel_rfl : (Tryz.prog.info? 197).map (fun i => (i.zero, i.size, i.bytes)) = some (some (.pointer none), 1, 8))
theorem inf198 : InfoIs Tryz.prog 198 (.int .u64 0) 1 8 := (by kernel_rfl : (Tryz.prog.info? 198).map (fun i => (i.zero, i.size, i.bytes)) = some (some (.int .u64 0), 1, 8))
theorem inf213 : InfoIs Tryz.prog 213 (.slice none 0 0) 1 24 := (by kernel_rfl : (Tryz.prog.info? 213).map (fun i => (i.zero, i.size, i.bytes)) = some (some (.slice none 0 0), 1, 24))
theorem inf215 : InfoIs Tryz.prog 215 (.slice none 0 0) 1 24 := (by kernel_rfl : (Tryz.prog.info? 215).map (fun i => (i.zero, i.size, i.bytes)) = some (some (.slice none 0 0), 1, 24))
theorem inf216 : InfoIs Tryz.prog 216 (.slice none 0 0) 1 24 := (by kernel_rfl : (Tryz.prog.info? 216).map (fun i => (i.zero, i.size, i.bytes)) = some (some (.slice none 0 0), 1, 24))
theorem pl219 : Places Tryz.prog 219 [(0, 1), (1, 1)] := ⟨_, Tryz.underlying219, by kernel_rfl⟩
theorem inf219 : InfoIs Tryz.prog 219 (.agg #[.int .u64 0, .int .u64 0]) 2 16 := (by kernel_rfl : (Tryz.prog.info? 219).map (fun i => (i.zero, i.size, i.bytes)) = some (some (.agg #[.int .u64 0, .int .u64 0]), 2, 16))
theorem pl220 : Places Tryz.prog 220 [(0, 1), (1, 1)] := ⟨_, Tryz.underlying220, by kernel_rfl⟩
theorem inf220 : InfoIs Tryz.prog 220 (.agg #[.int .u64 0, .int .u64 0]) 2 16 := (by kernel_rfl : (Tryz.prog.info? 220).map (fun i => (i.zero, i.size, i.bytes)) = some (some (.agg #[.int .u64 0, .int .u64 0]), 2, 16))
theorem pl223 : Places Tryz.prog 223 [(0, 1), (1, 1)] := ⟨_, Tryz.underlying223, by kernel_rfl⟩
theorem inf223 : InfoIs Tryz.prog 223 (.agg #[.int .i64 0, .string ⟨#[]⟩]) 2 24 := (by kernel_rfl : (Tryz.prog.info? 223).map (fun i => (i.zero, i.size, i.bytes)) = some (some (.agg #[.int .i64 0, .string ⟨#[]⟩]), 2, 24))
theorem pl224 : Places Tryz.prog 224 [(0, 1), (1, 1)] := ⟨_, Tryz.underlying224, by kernel_rfl⟩
theorem inf224 : InfoIs Tryz.prog 224 (.agg #[.int .i64 0, .string ⟨#[]⟩]) 2 24 := (by kernel_rfl : (Tryz.prog.info? 224).map (fun i => (i.zero, i.size, i.bytes)) = some (some (.agg #[.int .i64 0, .string ⟨#[]⟩]), 2, 24))
theorem inf225 : InfoIs Tryz.prog 225 (.slice none 0 0) 1 24 := (by kernel_rfl : (Tryz.prog.info? 225).map (fun i => (i.zero, i.size, i.bytes)) = some (some (.slice none 0 0), 1, 24))
theorem pl230 : Places Tryz.prog 230 [(0, 1), (1, 1), (2, 1), (3, 1)] := ⟨_, Tryz.underlying230, by kernel_rfl⟩
theorem inf230 : InfoIs Tryz.prog 230 (.agg #[.pointer none, .pointer none, .pointer none, .string ⟨#[]⟩]) 4 40 := (by kernel_rfl : (Tryz.prog.info? 230).map (fun i => (i.zero, i.size, i.bytes)) = some (some (.agg #[.pointer none, .pointer none, .pointer none, .string ⟨#[]⟩]), 4, 40))
theorem pl231 : Places Tryz.prog 231 [(0, 1), (1, 1), (2, 1), (3, 1)] := ⟨_, Tryz.underlying231, by kernel_rfl⟩
theorem inf231 : InfoIs Tryz.prog 231 (.agg #[.pointer none, .pointer none, .pointer none, .string ⟨#[]⟩]) 4 40 := (by kernel_rfl : (Tryz.prog.info? 231).map (fun i => (i.zero, i.size, i.bytes)) = some (some (.agg #[.pointer none, .pointer none, .pointer none, .string ⟨#[]⟩]), 4, 40))
theorem pl233 : Places Tryz.prog 233 [(0, 0)] := ⟨_, Tryz.underlying233, by kernel_rfl⟩
theorem pl234 : Places Tryz.prog 234 [(0, 0)] := ⟨_, Tryz.underlying234, by kernel_rfl⟩
theorem inf236 : InfoIs Tryz.prog 236 (.int .u8 0) 1 1 := (by kernel_rfl : (Tryz.prog.info? 236).map (fun i => (i.zero, i.size, i.bytes)) = some (some (.int .u8 0), 1, 1))
theorem inf237 : InfoIs Tryz.prog 237 (.int .u8 0) 1 1 := (by kernel_rfl : (Tryz.prog.info? 237).map (fun i => (i.zero, i.size, i.bytes)) = some (some (.int .u8 0), 1, 1))
theorem inf239 : InfoIs Tryz.prog 239 (.int .i32 0) 1 4 := (by kernel_rfl : (Tryz.prog.info? 239).map (fun i => (i.zero, i.size, i.bytes)) = some (some (.int .i32 0), 1, 4))
theorem inf240 : InfoIs Tryz.prog 240 (.int .i32 0) 1 4 := (by kernel_rfl : (Tryz.prog.info? 240).map (fun i => (i.zero, i.size, i.bytes)) = some (some (.int .i32 0), 1, 4))
theorem pl241 : Places Tryz.prog 241 [(0, 1), (1, 1), (2, 1), (3, 1), (4, 1), (5, 1), (6, 1), (7, 1), (8, 1), (9, 1), (10, 1)] := ⟨_, Tryz.underlying241, by kernel_rfl⟩
theorem inf241 : InfoIs Tryz.prog 241 (.agg #[.int .u64 0, .int .u64 0, .int .u32 0, .int .u8 0, .int .u8 0, .int .u8 0, .int .u8 0, .nilFunc, .pointer none, .int .i32 0, .int .i32 0]) 11 48 := (by kernel_rfl : (Tryz.prog.info? 241).map (fun i => (i.zero, i.size, i.bytes)) = some (some (.agg #[.int .u64 0, .int .u64 0, .int .u32 0, .int .u8 0, .int .u8 0, .int .u8 0, .int .u8 0, .nilFunc, .pointer none, .int .i32 0, .int .i32 0]), 11, 48))
theorem pl242 : Places Tryz.prog 242 [(0, 1), (1, 1), (2, 1), (3, 1), (4, 1), (5, 1), (6, 1), (7, 1), (8, 1), (9, 1), (10, 1)] := ⟨_, Tryz.underlying242, by kernel_rfl⟩
theorem inf242 : InfoIs Tryz.prog 242 (.agg #[.int .u64 0, .int .u64 0, .int .u32 0, .int .u8 0, .int .u8 0, .int .u8 0, .int .u8 0, .nilFunc, .pointer none, .int .i32 0, .int .i32 0]) 11 48 := (by kernel_rfl : (Tryz.prog.info? 242).map (fun i => (i.zero, i.size, i.bytes)) = some (some (.agg #[.int .u64 0, .int .u64 0, .int .u32 0, .int .u8 0, .int .u8 0, .int .u8 0, .int .u8 0, .nilFunc, .pointer none, .int .i32 0, .int .i32 0]), 11, 48))
theorem en2 : Own_ Tryz.prog 2 := ⟨_, Tryz.func2, by kernel_rfl, by kernel_rfl⟩
theorem en3 : Own_ Tryz.prog 3 := ⟨_, Tryz.func3, by kernel_rfl, by kernel_rfl⟩
theorem en4 : Own_ Tryz.prog 4 := ⟨_, Tryz.func4, by kernel_rfl, by kernel_rfl⟩
theorem en5 : Own_ Tryz.prog 5 := ⟨_, Tryz.func5, by kernel_rfl, by kernel_rfl⟩
theorem en6 : Own_ Tryz.prog 6 := ⟨_, Tryz.func6, by kernel_rfl, by kernel_rfl⟩
theorem en7 : Own_ Tryz.prog 7 := ⟨_, Tryz.func7, by kernel_rfl, by kernel_rfl⟩
theorem en8 : Own_ Tryz.prog 8 := ⟨_, Tryz.func8, by kernel_rfl, by kernel_rfl⟩
theorem en9 : Own_ Tryz.prog 9 := ⟨_, Tryz.func9, by kernel_rfl, by kernel_rfl⟩
theorem en10 : Own_ Tryz.prog 10 := ⟨_, Tryz.func10, by kernel_rfl, by kernel_rfl⟩
theorem en11 : Own_ Tryz.prog 11 := ⟨_, Tryz.func11, by kernel_rfl, by kernel_rfl⟩
theorem en12 : Own_ Tryz.prog 12 := ⟨_, Tryz.func12, by kernel_rfl, by kernel_rfl⟩
theorem en13 : Own_ Tryz.prog 13 := ⟨_, Tryz.func13, by kernel_rfl, by kernel_rfl⟩
theorem en14 : Own_ Tryz.prog 14 := ⟨_, Tryz.func14, by kernel_rfl, by kernel_rfl⟩
theorem en15 : Own_ Tryz.prog 15 := ⟨_, Tryz.func15, by kernel_rfl, by kernel_rfl⟩
theorem en16 : Own_ Tryz.prog 16 := ⟨_, Tryz.func16, by kernel_rfl, by kernel_rfl⟩
theorem en17 : Own_ Tryz.prog 17 := ⟨_, Tryz.func17, by kernel_rfl, by kernel_rfl⟩
theorem en18 : Own_ Tryz.prog 18 := ⟨_, Tryz.func18, by kernel_rfl, by kernel_rfl⟩
theorem en19 : Own_ Tryz.prog 19 := ⟨_, Tryz.func19, by kernel_rfl, by kernel_rfl⟩
theorem en20 : Own_ Tryz.prog 20 := ⟨_, Tryz.func20, by kernel_rfl, by kernel_rfl⟩
theorem en21 : Own_ Tryz.prog 21 := ⟨_, Tryz.func21, by kernel_rfl, by kernel_rfl⟩
theorem en22 : Own_ Tryz.prog 22 := ⟨_, Tryz.func22, by kernel_rfl, by kernel_rfl⟩
theorem en23 : Own_ Tryz.prog 23 := ⟨_, Tryz.func23, by kernel_rfl, by kernel_rfl⟩
theorem en24 : Own_ Tryz.prog 24 := ⟨_, Tryz.func24, by kernel_rfl, by kernel_rfl⟩
theorem en25 : Own_ Tryz.prog 25 := ⟨_, Tryz.func25, by kernel_rfl, by kernel_rfl⟩
theorem en26 : Own_ Tryz.prog 26 := ⟨_, Tryz.func26, by kernel_rfl, by kernel_rfl⟩
theorem en27 : Own_ Tryz.prog 27 := ⟨_, Tryz.func27, by kernel_rfl, by kernel_rfl⟩
theorem en28 : Own_ Tryz.prog 28 := ⟨_, Tryz.func28, by kernel_rfl, by kernel_rfl⟩
theorem en29 : Own_ Tryz.prog 29 := ⟨_, Tryz.func29, by kernel_rfl, by kernel_rfl⟩
theorem en30 : Own_ Tryz.prog 30 := ⟨_, Tryz.func30, by kernel_rfl, by kernel_rfl⟩
theorem en31 : Own_ Tryz.prog 31 := ⟨_, Tryz.func31, by kernel_rfl, by kernel_rfl⟩
theorem en32 : Own_ Tryz.prog 32 := ⟨_, Tryz.func32, by kernel_rfl, by kernel_rfl⟩
theorem en33 : Own_ Tryz.prog 33 := ⟨_, Tryz.func33, by kernel_rfl, by kernel_rfl⟩
theorem en34 : Own_ Tryz.prog 34 := ⟨_, Tryz.func34, by kernel_rfl, by kernel_rfl⟩
theorem en35 : Own_ Tryz.prog 35 := ⟨_, Tryz.func35, by kernel_rfl, by kernel_rfl⟩
theorem en36 : Own_ Tryz.prog 36 := ⟨_, Tryz.func36, by kernel_rfl, by kernel_rfl⟩
theorem en37 : Own_ Tryz.prog 37 := ⟨_, Tryz.func37, by kernel_rfl, by kernel_rfl⟩
theorem en38 : Own_ Tryz.prog 38 := ⟨_, Tryz.func38, by kernel_rfl, by kernel_rfl⟩
theorem en39 : Own_ Tryz.prog 39 := ⟨_, Tryz.func39, by kernel_rfl, by kernel_rfl⟩
theorem en40 : Own_ Tryz.prog 40 := ⟨_, Tryz.func40, by kernel_rfl, by kernel_rfl⟩
theorem en41 : Own_ Tryz.prog 41 := ⟨_, Tryz.func41, by kernel_rfl, by kernel_rfl⟩
theorem en42 : Own_ Tryz.prog 42 := ⟨_, Tryz.func42, by kernel_rfl, by kernel_rfl⟩
theorem en43 : Own_ Tryz.prog 43 := ⟨_, Tryz.func43, by kernel_rfl, by kernel_rfl⟩
theorem en44 : Own_ Tryz.prog 44 := ⟨_, Tryz.func44, by kernel_rfl, by kernel_rfl⟩
theorem en45 : Own_ Tryz.prog 45 := ⟨_, Tryz.func45, by kernel_rfl, by kernel_rfl⟩
theorem en46 : Own_ Tryz.prog 46 := ⟨_, Tryz.func46, by kernel_rfl, by kernel_rfl⟩
theorem en47 : Own_ Tryz.prog 47 := ⟨_, Tryz.func47, by kernel_rfl, by kernel_rfl⟩
theorem en48 : Own_ Tryz.prog 48 := ⟨_, Tryz.func48, by kernel_rfl, by kernel_rfl⟩
theorem en49 : Own_ Tryz.prog 49 := ⟨_, Tryz.func49, by kernel_rfl, by kernel_rfl⟩
theorem en50 : Own_ Tryz.prog 50 := ⟨_, Tryz.func50, by kernel_rfl, by kernel_rfl⟩
theorem en51 : Own_ Tryz.prog 51 := ⟨_, Tryz.func51, by kernel_rfl, by kernel_rfl⟩
theorem en52 : Own_ Tryz.prog 52 := ⟨_, Tryz.func52, by kernel_rfl, by kernel_rfl⟩
theorem en53 : Own_ Tryz.prog 53 := ⟨_, Tryz.func53, by kernel_rfl, by kernel_rfl⟩
theorem en54 : Own_ Tryz.prog 54 := ⟨_, Tryz.func54, by kernel_rfl, by kernel_rfl⟩
theorem en55 : Own_ Tryz.prog 55 := ⟨_, Tryz.func55, by kernel_rfl, by kernel_rfl⟩
theorem en56 : Own_ Tryz.prog 56 := ⟨_, Tryz.func56, by kernel_rfl, by kernel_rfl⟩
theorem en57 : Own_ Tryz.prog 57 := ⟨_, Tryz.func57, by kernel_rfl, by kernel_rfl⟩
theorem en58 : Own_ Tryz.prog 58 := ⟨_, Tryz.func58, by kernel_rfl, by kernel_rfl⟩
theorem en61 : Own_ Tryz.prog 61 := ⟨_, Tryz.func61, by kernel_rfl, by kernel_rfl⟩
theorem en62 : Own_ Tryz.prog 62 := ⟨_, Tryz.func62, by kernel_rfl, by kernel_rfl⟩
theorem en63 : Own_ Tryz.prog 63 := ⟨_, Tryz.func63, by kernel_rfl, by kernel_rfl⟩
theorem en64 : Own_ Tryz.prog 64 := ⟨_, Tryz.func64, by kernel_rfl, by kernel_rfl⟩
theorem en65 : Own_ Tryz.prog 65 := ⟨_, Tryz.func65, by kernel_rfl, by kernel_rfl⟩
theorem en66 : Own_ Tryz.prog 66 := ⟨_, Tryz.func66, by kernel_rfl, by kernel_rfl⟩
theorem en67 : Own_ Tryz.prog 67 := ⟨_, Tryz.func67, by kernel_rfl, by kernel_rfl⟩
theorem en68 : Own_ Tryz.prog 68 := ⟨_, Tryz.func68, by kernel_rfl, by kernel_rfl⟩
theorem en69 : Own_ Tryz.prog 69 := ⟨_, Tryz.func69, by kernel_rfl, by kernel_rfl⟩
theorem en70 : Own_ Tryz.prog 70 := ⟨_, Tryz.func70, by kernel_rfl, by kernel_rfl⟩
theorem en71 : Own_ Tryz.prog 71 := ⟨_, Tryz.func71, by kernel_rfl, by kernel_rfl⟩
theorem en72 : Own_ Tryz.prog 72 := ⟨_, Tryz.func72, by kernel_rfl, by kernel_rfl⟩
theorem en73 : Own_ Tryz.prog 73 := ⟨_, Tryz.func73, by kernel_rfl, by kernel_rfl⟩
theorem en74 : Own_ Tryz.prog 74 := ⟨_, Tryz.func74, by kernel_rfl, by kernel_rfl⟩
theorem en75 : Own_ Tryz.prog 75 := ⟨_, Tryz.func75, by kernel_rfl, by kernel_rfl⟩
theorem en76 : Own_ Tryz.prog 76 := ⟨_, Tryz.func76, by kernel_rfl, by kernel_rfl⟩
theorem en78 : Own_ Tryz.prog 78 := ⟨_, Tryz.func78, by kernel_rfl, by kernel_rfl⟩
theorem en79 : Own_ Tryz.prog 79 := ⟨_, Tryz.func79, by kernel_rfl, by kernel_rfl⟩
theorem en80 : Own_ Tryz.prog 80 := ⟨_, Tryz.func80, by kernel_rfl, by kernel_rfl⟩
theorem en81 : Own_ Tryz.prog 81 := ⟨_, Tryz.func81, by kernel_rfl, by kernel_rfl⟩
theorem en82 : Own_ Tryz.prog 82 := ⟨_, Tryz.func82, by kernel_rfl, by kernel_rfl⟩
theorem en83 : Own_ Tryz.prog 83 := ⟨_, Tryz.func83, by kernel_rfl, by kernel_rfl⟩
theorem en84 : Own_ Tryz.prog 84 := ⟨_, Tryz.func84, by kernel_rfl, by kernel_rfl⟩
theorem en85 : Own_ Tryz.prog 85 := ⟨_, Tryz.func85, by kernel_rfl, by kernel_rfl⟩
theorem en86 : Own_ Tryz.prog 86 := ⟨_, Tryz.func86, by kernel_rfl, by kernel_rfl⟩
theorem en87 : Own_ Tryz.prog 87 := ⟨_, Tryz.func87, by kernel_rfl, by kernel_rfl⟩
theorem en88 : Own_ Tryz.prog 88 := ⟨_, Tryz.func88, by kernel_rfl, by kernel_rfl⟩
theorem en89 : Own_ Tryz.prog 89 := ⟨_, Tryz.func89, by kernel_rfl, by kernel_rfl⟩
theorem en90 : Own_ Tryz.prog 90 := ⟨_, Tryz.func90, by kernel_rfl, by kernel_rfl⟩
theorem en91 : Own_ Tryz.prog 91 := ⟨_, Tryz.func91, by kernel_rfl, by kernel_rfl⟩
theorem en92 : Own_ Tryz.prog 92 := ⟨_, Tryz.func92, by kernel_rfl, by kernel_rfl⟩
theorem en93 : Own_ Tryz.prog 93 := ⟨_, Tryz.func93, by kernel_rfl, by kernel_rfl⟩
theorem en94 : Own_ Tryz.prog 94 := ⟨_, Tryz.func94, by kernel_rfl, by kernel_rfl⟩
theorem en95 : Own_ Tryz.prog 95 := ⟨_, Tryz.func95, by kernel_rfl, by kernel_rfl⟩
theorem en96 : Own_ Tryz.prog 96 := ⟨_, Tryz.func96, by kernel_rfl, by kernel_rfl⟩
theorem en97 : Own_ Tryz.prog 97 := ⟨_, Tryz.func97, by kernel_rfl, by kernel_rfl⟩
theorem en98 : Own_ Tryz.prog 98 := ⟨_, Tryz.func98, by kernel_rfl, by kernel_rfl⟩
theorem en99 : Own_ Tryz.prog 99 := ⟨_, Tryz.func99, by kernel_rfl, by kernel_rfl⟩
theorem en100 : Own_ Tryz.prog 100 := ⟨_, Tryz.func100, by kernel_rfl, by kernel_rfl⟩
theorem en101 : Own_ Tryz.prog 101 := ⟨_, Tryz.func101, by kernel_rfl, by kernel_rfl⟩
theorem en102 : Own_ Tryz.prog 102 := ⟨_, Tryz.func102, by kernel_rfl, by kernel_rfl⟩
theorem en103 : Own_ Tryz.prog 103 := ⟨_, Tryz.func103, by kernel_rfl, by kernel_rfl⟩
theorem en104 : Own_ Tryz.prog 104 := ⟨_, Tryz.func104, by kernel_rfl, by kernel_rfl⟩
theorem en105 : Own_ Tryz.prog 105 := ⟨_, Tryz.func105, by kernel_rfl, by kernel_rfl⟩
theorem en106 : Own_ Tryz.prog 106 := ⟨_, Tryz.func106, by kernel_rfl, by kernel_rfl⟩
theorem en107 : Own_ Tryz.prog 107 := ⟨_, Tryz.func107, by kernel_rfl, by kernel_rfl⟩
theorem en108 : Own_ Tryz.prog 108 := ⟨_, Tryz.func108, by kernel_rfl, by kernel_rfl⟩
theorem en109 : Own_ Tryz.prog 109 := ⟨_, Tryz.func109, by kernel_rfl, by kernel_rfl⟩
theorem en110 : Own_ Tryz.prog 110 := ⟨_, Tryz.func110, by kernel_rfl, by kernel_rfl⟩
theorem en111 : Own_ Tryz.prog 111 := ⟨_, Tryz.func111, by kernel_rfl, by kernel_rfl⟩
theorem en113 : Own_ Tryz.prog 113 := ⟨_, Tryz.func113, by kernel_rfl, by kernel_rfl⟩
theorem en114 : Own_ Tryz.prog 114 := ⟨_, Tryz.func114, by kernel_rfl, by kernel_rfl⟩
theorem en115 : Own_ Tryz.prog 115 := ⟨_, Tryz.func115, by kernel_rfl, by kernel_rfl⟩
theorem en116 : Own_ Tryz.prog 116 := ⟨_, Tryz.func116, by kernel_rfl, by kernel_rfl⟩
theorem en117 : Own_ Tryz.prog 117 := ⟨_, Tryz.func117, by kernel_rfl, by kernel_rfl⟩
theorem en118 : Own_ Tryz.prog 118 := ⟨_, Tryz.func118, by kernel_rfl, by kernel_rfl⟩
theorem en119 : Own_ Tryz.prog 119 := ⟨_, Tryz.func119, by kernel_rfl, by kernel_rfl⟩
theorem en120 : Own_ Tryz.prog 120 := ⟨_, Tryz.func120, by kernel_rfl, by kernel_rfl⟩
theorem en121 : Own_ Tryz.prog 121 := ⟨_, Tryz.func121, by kernel_rfl, by kernel_rfl⟩
theorem en122 : Own_ Tryz.prog 122 := ⟨_, Tryz.func122, by kernel_rfl, by kernel_rfl⟩
theorem en123 : Own_ Tryz.prog 123 := ⟨_, Tryz.func123, by kernel_rfl, by kernel_rfl⟩
theorem en124 : Own_ Tryz.prog 124 := ⟨_, Tryz.func124, by kernel_rfl, by kernel_rfl⟩
theorem en125 : Own_ Tryz.prog 125 := ⟨_, Tryz.func125, by kernel_rfl, by kernel_rfl⟩
theorem en126 : Own_ Tryz.prog 126 := ⟨_, Tryz.func126, by kernel_rfl, by kernel_rfl⟩
theorem en127 : Own_ Tryz.prog 127 := ⟨_, Tryz.func127, by kernel_rfl, by kernel_rfl⟩
theorem en128 : Own_ Tryz.prog 128 := ⟨_, Tryz.func128, by kernel_rfl, by kernel_rfl⟩
theorem en129 : Own_ Tryz.prog 129 := ⟨_, Tryz.func129, by kernel_rfl, by kernel_rfl⟩
theorem en130 : Own_ Tryz.prog 130 := ⟨_, Tryz.func130, by kernel_rfl, by kernel_rfl⟩
theorem en132 : Own_ Tryz.prog 132 := ⟨_, Tryz.func132, by kernel_rfl, by kernel_rfl⟩
theorem en133 : Own_ Tryz.prog 133 := ⟨_, Tryz.func133, by kernel_rfl, by kernel_rfl⟩
theorem en134 : Own_ Tryz.prog 134 := ⟨_, Tryz.func134, by kernel_rfl, by kernel_rfl⟩
theorem en135 : Own_ Tryz.prog 135 := ⟨_, Tryz.func135, by kernel_rfl, by kernel_rfl⟩
theorem en137 : Own_ Tryz.prog 137 := ⟨_, Tryz.func137, by kernel_rfl, by kernel_rfl⟩
theorem en138 : Own_ Tryz.prog 138 := ⟨_, Tryz.func138, by kernel_rfl, by kernel_rfl⟩
theorem en139 : Own_ Tryz.prog 139 := ⟨_, Tryz.func139, by kernel_rfl, by kernel_rfl⟩
theorem en140 : Own_ Tryz.prog 140 := ⟨_, Tryz.func140, by kernel_rfl, by kernel_rfl⟩
theorem en141 : Own_ Tryz.prog 141 := ⟨_, Tryz.func141, by kernel_rfl, by kernel_rfl⟩
theorem en142 : Own_ Tryz.prog 142 := ⟨_, Tryz.func142, by kernel_rfl, by kernel_rfl⟩
theorem en143 : Own_ Tryz.prog 143 := ⟨_, Tryz.func143, by kernel_rfl, by kernel_rfl⟩
theorem en144 : Own_ Tryz.prog 144 := ⟨_, Tryz.func144, by kernel_rfl, by kernel_rfl⟩
theorem en145 : Own_ Tryz.prog 145 := ⟨_, Tryz.func145, by kernel_rfl, by kernel_rfl⟩
theorem en146 : Own_ Tryz.prog 146 := ⟨_, Tryz.func146, by kernel_rfl, by kernel_rfl⟩
theorem en147 : Own_ Tryz.prog 147 := ⟨_, Tryz.func147, by kernel_rfl, by kernel_rfl⟩
theorem en148 : Own_ Tryz.prog 148 := ⟨_, Tryz.func148, by kernel_rfl, by kernel_rfl⟩
theorem en149 : Own_ Tryz.prog 149 := ⟨_, Tryz.func149, by kernel_rfl, by kernel_rfl⟩
theorem en150 : Own_ Tryz.prog 150 := ⟨_, Tryz.func150, by kernel_rfl, by kernel_rfl⟩
theorem en151 : Own_ Tryz.prog 151 := ⟨_, Tryz.func151, by kernel_rfl, by kernel_rfl⟩
theorem en152 : Own_ Tryz.prog 152 := ⟨_, Tryz.func152, by kernel_rfl, by kernel_rfl⟩
theorem en153 : Own_ Tryz.prog 153 := ⟨_, Tryz.func153, by kernel_rfl, by kernel_rfl⟩
theorem en156 : Own_ Tryz.prog 156 := ⟨_, Tryz.func156, by kernel_rfl, by kernel_rfl⟩
theorem en157 : Own_ Tryz.prog 157 := ⟨_, Tryz.func157, by kernel_rfl, by kernel_rfl⟩
theorem en158 : Own_ Tryz.prog 158 := ⟨_, Tryz.func158, by kernel_rfl, by kernel_rfl⟩
theorem en159 : Own_ Tryz.prog 159 := ⟨_, Tryz.func159, by kernel_rfl, by kernel_rfl⟩
theorem en160 : Own_ Tryz.prog 160 := ⟨_, Tryz.func160, by kernel_rfl, by kernel_rfl⟩
theorem en161 : Own_ Tryz.prog 161 := ⟨_, Tryz.func161, by kernel_rfl, by kernel_rfl⟩
theorem en162 : Own_ Tryz.prog 162 := ⟨_, Tryz.func162, by kernel_rfl, by kernel_rfl⟩
theorem en163 : Own_ Tryz.prog 163 := ⟨_, Tryz.func163, by kernel_rfl, by kernel_rfl⟩
theorem en164 : Own_ Tryz.prog 164 := ⟨_, Tryz.func164, by kernel_rfl, by kernel_rfl⟩
theorem en165 : Own_ Tryz.prog 165 := ⟨_, Tryz.func165, by kernel_rfl, by kernel_rfl⟩
theorem en166 : Own_ Tryz.prog 166 := ⟨_, Tryz.func166, by kernel_rfl, by kernel_rfl⟩
theorem en167 : Own_ Tryz.prog 167 := ⟨_, Tryz.func167, by kernel_rfl, by kernel_rfl⟩
theorem en168 : Own_ Tryz.prog 168 := ⟨_, Tryz.func168, by kernel_rfl, by kernel_rfl⟩
theorem en169 : Own_ Tryz.prog 169 := ⟨_, Tryz.func169, by kernel_rfl, by kernel_rfl⟩
theorem en171 : Own_ Tryz.prog 171 := ⟨_, Tryz.func171, by kernel_rfl, by kernel_rfl⟩
theorem en172 : Own_ Tryz.prog 172 := ⟨_, Tryz.func172, by kernel_rfl, by kernel_rfl⟩
theorem en173 : Own_ Tryz.prog 173 := ⟨_, Tryz.func173, by kernel_rfl, by kernel_rfl⟩
theorem en174 : Own_ Tryz.prog 174 := ⟨_, Tryz.func174, by kernel_rfl, by kernel_rfl⟩
theorem en175 : Own_ Tryz.prog 175 := ⟨_, Tryz.func175, by kernel_rfl, by kernel_rfl⟩
theorem en176 : Own_ Tryz.prog 176 := ⟨_, Tryz.func176, by kernel_rfl, by kernel_rfl⟩
theorem en177 : Own_ Tryz.prog 177 := ⟨_, Tryz.func177, by kernel_rfl, by kernel_rfl⟩
theorem en178 : Own_ Tryz.prog 178 := ⟨_, Tryz.func178, by kernel_rfl, by kernel_rfl⟩
theorem en179 : Own_ Tryz.prog 179 := ⟨_, Tryz.func179, by kernel_rfl, by kernel_rfl⟩
theorem en180 : Own_ Tryz.prog 180 := ⟨_, Tryz.func180, by kernel_rfl, by kernel_rfl⟩
theorem en181 : Own_ Tryz.prog 181 := ⟨_, Tryz.func181, by kernel_rfl, by kernel_rfl⟩
theorem en183 : Own_ Tryz.prog 183 := ⟨_, Tryz.func183, by kernel_rfl, by kernel_rfl⟩
theorem en184 : Own_ Tryz.prog 184 := ⟨_, Tryz.func184, by kernel_rfl, by kernel_rfl⟩
theorem en185 : Own_ Tryz.prog 185 := ⟨_, Tryz.func185, by kernel_rfl, by kernel_rfl⟩
theorem en186 : Own_ Tryz.prog 186 := ⟨_, Tryz.func186, by kernel_rfl, by kernel_rfl⟩
theorem en187 : Own_ Tryz.prog 187 := ⟨_, Tryz.func187, by kernel_rfl, by kernel_rfl⟩
theorem en189 : Own_ Tryz.prog 189 := ⟨_, Tryz.func189, by kernel_rfl, by kernel_rfl⟩
theorem en190 : Own_ Tryz.prog 190 := ⟨_, Tryz.func190, by kernel_rfl, by kernel_rfl⟩
theorem en191 : Own_ Tryz.prog 191 := ⟨_, Tryz.func191, by kernel_rfl, by kernel_rfl⟩
theorem en192 : Own_ Tryz.prog 192 := ⟨_, Tryz.func192, by kernel_rfl, by kernel_rfl⟩
theorem en193 : Own_ Tryz.prog 193 := ⟨_, Tryz.func193, by kernel_rfl, by kernel_rfl⟩
theorem en194 : Own_ Tryz.prog 194 := ⟨_, Tryz.func194, by kernel_rfl, by kernel_rfl⟩
theorem en195 : Own_ Tryz.prog 195 := ⟨_, Tryz.func195, by kernel_rfl, by kernel_rfl⟩
theorem en196 : Own_ Tryz.prog 196 := ⟨_, Tryz.func196, by kernel_rfl, by kernel_rfl⟩
theorem en197 : Own_ Tryz.prog 197 := ⟨_, Tryz.func197, by kernel_rfl, by kernel_rfl⟩
theorem en198 : Own_ Tryz.prog 198 := ⟨_, Tryz.func198, by kernel_rfl, by kernel_rfl⟩
theorem en199 : Own_ Tryz.prog 199 := ⟨_, Tryz.func199, by kernel_rfl, by kernel_rfl⟩
theorem en200 : Own_ Tryz.prog 200 := ⟨_, Tryz.func200, by kernel_rfl, by kernel_rfl⟩
theorem en201 : Own_ Tryz.prog 201 := ⟨_, Tryz.func201, by kernel_rfl, by kernel_rfl⟩
theorem en202 : Own_ Tryz.prog 202 := ⟨_, Tryz.func202, by kernel_rfl, by kernel_rfl⟩
theorem en203 : Own_ Tryz.prog 203 := ⟨_, Tryz.func203, by kernel_rfl, by kernel_rfl⟩
theorem en204 : Own_ Tryz.prog 204 := ⟨_, Tryz.func204, by kernel_rfl, by kernel_rfl⟩
theorem en205 : Own_ Tryz.prog 205 := ⟨_, Tryz.func205, by kernel_rfl, by kernel_rfl⟩
theorem en206 : Own_ Tryz.prog 206 := ⟨_, Tryz.func206, by kernel_rfl, by kernel_rfl⟩
theorem en207 : Own_ Tryz.prog 207 := ⟨_, Tryz.func207, by kernel_rfl, by kernel_rfl⟩
theorem en208 : Own_ Tryz.prog 208 := ⟨_, Tryz.func208, by kernel_rfl, by kernel_rfl⟩
theorem en209 : Own_ Tryz.prog 209 := ⟨_, Tryz.func209, by kernel_rfl, by kernel_rfl⟩
theorem en210 : Own_ Tryz.prog 210 := ⟨_, Tryz.func210, by kernel_rfl, by kernel_rfl⟩
theorem en211 : Own_ Tryz.prog 211 := ⟨_, Tryz.func211, by kernel_rfl, by kernel_rfl⟩
theorem en212 : Own_ Tryz.prog 212 := ⟨_, Tryz.func212, by kernel_rfl, by kernel_rfl⟩
theorem en213 : Own_ Tryz.prog 213 := ⟨_, Tryz.func213, by kernel_rfl, by kernel_rfl⟩
theorem en214 : Own_ Tryz.prog 214 := ⟨_, Tryz.func214, by kernel_rfl, by kernel_rfl⟩
theorem en215 : Own_ Tryz.prog 215 := ⟨_, Tryz.func215, by kernel_rfl, by kernel_rfl⟩
theorem en216 : Own_ Tryz.prog 216 := ⟨_, Tryz.func216, by kernel_rfl, by kernel_rfl⟩
theorem en217 : Own_ Tryz.prog 217 := ⟨_, Tryz.func217, by kernel_rfl, by kernel_rfl⟩
theorem en218 : Own_ Tryz.prog 218 := ⟨_, Tryz.func218, by kernel_rfl, by kernel_rfl⟩
theorem en219 : Own_ Tryz.prog 219 := ⟨_, Tryz.func219, by kernel_rfl, by kernel_rfl⟩
theorem en220 : Own_ Tryz.prog 220 := ⟨_, Tryz.func220, by kernel_rfl, by kernel_rfl⟩
theorem en221 : Own_ Tryz.prog 221 := ⟨_, Tryz.func221, by kernel_rfl, by kernel_rfl⟩
theorem en222 : Own_ Tryz.prog 222 := ⟨_, Tryz.func222, by kernel_rfl, by kernel_rfl⟩
theorem en223 : Own_ Tryz.prog 223 := ⟨_, Tryz.func223, by kernel_rfl, by kernel_rfl⟩
theorem en224 : Own_ Tryz.prog 224 := ⟨_, Tryz.func224, by kernel_rfl, by kernel_rfl⟩
theorem en225 : Own_ Tryz.prog 225 := ⟨_, Tryz.func225, by kernel_rfl, by kernel_rfl⟩
theorem en226 : Own_ Tryz.prog 226 := ⟨_, Tryz.func226, by kernel_rfl, by kernel_rfl⟩
theorem en264 : Own_ Tryz.prog 264 := ⟨_, Tryz.func264, by kernel_rfl, by kernel_rfl⟩
theorem mixed : Tryz.prog.follows .mixedOrders = true := by kernel_rfl
end Go.Proofs.YtljndllhmdpjlaaGreatDoor
