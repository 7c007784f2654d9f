/- The sizes and noughts of the types; the functions that have bodies. Closed facts. -/
import Derived.Test.YteggjfmcpodepaaDoorK3
import Derived.Test.YteggjfmcpodepaaDoorProg
import Derived.KernelRfl
namespace Go.Proofs.YteggjfmcpodepaaDoor
theorem sz1 : SizeIs Tryd.prog 1 1 := (by kernel_rfl : (Tryd.prog.info? 1).map (·.size) = some 1)
theorem zr1 : ZeroIs Tryd.prog 1 (.nilFunc) := (by kernel_rfl : (Tryd.prog.info? 1).map (·.zero) = some (some (.nilFunc)))
theorem sz2 : SizeIs Tryd.prog 2 1 := (by kernel_rfl : (Tryd.prog.info? 2).map (·.size) = some 1)
theorem zr2 : ZeroIs Tryd.prog 2 (.int .i64 0) := (by kernel_rfl : (Tryd.prog.info? 2).map (·.zero) = some (some (.int .i64 0)))
theorem sz3 : SizeIs Tryd.prog 3 1 := (by kernel_rfl : (Tryd.prog.info? 3).map (·.size) = some 1)
theorem zr3 : ZeroIs Tryd.prog 3 (.int .i64 0) := (by kernel_rfl : (Tryd.prog.info? 3).map (·.zero) = some (some (.int .i64 0)))
theorem sz4 : SizeIs Tryd.prog 4 1 := (by kernel_rfl : (Tryd.prog.info? 4).map (·.size) = some 1)
theorem zr4 : ZeroIs Tryd.prog 4 (.bool false) := (by kernel_rfl : (Tryd.prog.info? 4).map (·.zero) = some (some (.bool false)))
theorem sz5 : SizeIs Tryd.prog 5 1 := (by kernel_rfl : (Tryd.prog.info? 5).map (·.size) = some 1)
theorem zr5 : ZeroIs Tryd.prog 5 (.int .u8 0) := (by kernel_rfl : (Tryd.prog.info? 5).map (·.zero) = some (some (.int .u8 0)))
theorem sz6 : SizeIs Tryd.prog 6 1 := (by kernel_rfl : (Tryd.prog.info? 6).map (·.size) = some 1)
theorem zr6 : ZeroIs Tryd.prog 6 (.int .u8 0) := (by kernel_rfl : (Tryd.prog.info? 6).map (·.zero) = some (some (.int .u8 0)))
theorem sz7 : SizeIs Tryd.prog 7 4 := (by kernel_rfl : (Tryd.prog.info? 7).map (·.size) = some 4)
theorem zr7 : ZeroIs Tryd.prog 7 (.agg #[.int .i64 0, .int .i64 0, .bool false, .int .u8 0]) := (by kernel_rfl : (Tryd.prog.info? 7).map (·.zero) = some (some (.agg #[.int .i64 0, .int .i64 0, .bool false, .int .u8 0])))
theorem sz8 : SizeIs Tryd.prog 8 4 := (by kernel_rfl : (Tryd.prog.info? 8).map (·.size) = some 4)
theorem zr8 : ZeroIs Tryd.prog 8 (.agg #[.int .i64 0, .int .i64 0, .bool false, .int .u8 0]) := (by kernel_rfl : (Tryd.prog.info? 8).map (·.zero) = some (some (.agg #[.int .i64 0, .int .i64 0, .bool false, .int .u8 0])))
theorem sz9 : SizeIs Tryd.prog 9 1 := (by kernel_rfl : (Tryd.prog.info? 9).map (·.size) = some 1)
theorem zr9 : ZeroIs Tryd.prog 9 (.string ⟨#[]⟩) := (by kernel_rfl : (Tryd.prog.info? 9).map (·.zero) = some (some (.string ⟨#[]⟩)))
theorem sz10 : SizeIs Tryd.prog 10 1 := (by kernel_rfl : (Tryd.prog.info? 10).map (·.size) = some 1)
theorem zr10 : ZeroIs Tryd.prog 10 (.string ⟨#[]⟩) := (by kernel_rfl : (Tryd.prog.info? 10).map (·.zero) = some (some (.string ⟨#[]⟩)))
theorem sz11 : SizeIs Tryd.prog 11 1 := (by kernel_rfl : (Tryd.prog.info? 11).map (·.size) = some 1)
theorem zr11 : ZeroIs Tryd.prog 11 (.string ⟨#[]⟩) := (by kernel_rfl : (Tryd.prog.info? 11).map (·.zero) = some (some (.string ⟨#[]⟩)))
theorem sz12 : SizeIs Tryd.prog 12 1 := (by kernel_rfl : (Tryd.prog.info? 12).map (·.size) = some 1)
theorem zr12 : ZeroIs Tryd.prog 12 (.int .u64 0) := (by kernel_rfl : (Tryd.prog.info? 12).map (·.zero) = some (some (.int .u64 0)))
theorem sz13 : SizeIs Tryd.prog 13 2 := (by kernel_rfl : (Tryd.prog.info? 13).map (·.size) = some 2)
theorem zr13 : ZeroIs Tryd.prog 13 (.agg #[.string ⟨#[]⟩, .int .u64 0]) := (by kernel_rfl : (Tryd.prog.info? 13).map (·.zero) = some (some (.agg #[.string ⟨#[]⟩, .int .u64 0])))
theorem sz14 : SizeIs Tryd.prog 14 2 := (by kernel_rfl : (Tryd.prog.info? 14).map (·.size) = some 2)
theorem zr14 : ZeroIs Tryd.prog 14 (.agg #[.string ⟨#[]⟩, .int .u64 0]) := (by kernel_rfl : (Tryd.prog.info? 14).map (·.zero) = some (some (.agg #[.string ⟨#[]⟩, .int .u64 0])))
theorem sz15 : SizeIs Tryd.prog 15 1 := (by kernel_rfl : (Tryd.prog.info? 15).map (·.size) = some 1)
theorem zr15 : ZeroIs Tryd.prog 15 (.pointer none) := (by kernel_rfl : (Tryd.prog.info? 15).map (·.zero) = some (some (.pointer none)))
theorem sz16 : SizeIs Tryd.prog 16 1 := (by kernel_rfl : (Tryd.prog.info? 16).map (·.size) = some 1)
theorem zr16 : ZeroIs Tryd.prog 16 (.pointer none) := (by kernel_rfl : (Tryd.prog.info? 16).map (·.zero) = some (some (.pointer none)))
theorem sz17 : SizeIs Tryd.prog 17 1 := (by kernel_rfl : (Tryd.prog.info? 17).map (·.size) = some 1)
theorem zr17 : ZeroIs Tryd.prog 17 (.pointer none) := (by kernel_rfl : (Tryd.prog.info? 17).map (·.zero) = some (some (.pointer none)))
theorem sz18 : SizeIs Tryd.prog 18 1 := (by kernel_rfl : (Tryd.prog.info? 18).map (·.size) = some 1)
theorem zr18 : ZeroIs Tryd.prog 18 (.agg #[.pointer none]) := (by kernel_rfl : (Tryd.prog.info? 18).map (·.zero) = some (some (.agg #[.pointer none])))
theorem sz19 : SizeIs Tryd.prog 19 1 := (by kernel_rfl : (Tryd.prog.info? 19).map (·.size) = some 1)
theorem zr19 : ZeroIs Tryd.prog 19 (.agg #[.pointer none]) := (by kernel_rfl : (Tryd.prog.info? 19).map (·.zero) = some (some (.agg #[.pointer none])))
theorem sz20 : SizeIs Tryd.prog 20 1 := (by kernel_rfl : (Tryd.prog.info? 20).map (·.size) = some 1)
theorem zr20 : ZeroIs Tryd.prog 20 (.nilIface) := (by kernel_rfl : (Tryd.prog.info? 20).map (·.zero) = some (some (.nilIface)))
theorem sz21 : SizeIs Tryd.prog 21 1 := (by kernel_rfl : (Tryd.prog.info? 21).map (·.size) = some 1)
theorem zr21 : ZeroIs Tryd.prog 21 (.int .i32 0) := (by kernel_rfl : (Tryd.prog.info? 21).map (·.zero) = some (some (.int .i32 0)))
theorem sz22 : SizeIs Tryd.prog 22 1 := (by kernel_rfl : (Tryd.prog.info? 22).map (·.size) = some 1)
theorem zr22 : ZeroIs Tryd.prog 22 (.slice none 0 0) := (by kernel_rfl : (Tryd.prog.info? 22).map (·.zero) = some (some (.slice none 0 0)))
theorem sz23 : SizeIs Tryd.prog 23 2 := (by kernel_rfl : (Tryd.prog.info? 23).map (·.size) = some 2)
theorem zr23 : ZeroIs Tryd.prog 23 (.agg #[.bool false, .slice none 0 0]) := (by kernel_rfl : (Tryd.prog.info? 23).map (·.zero) = some (some (.agg #[.bool false, .slice none 0 0])))
theorem sz24 : SizeIs Tryd.prog 24 2 := (by kernel_rfl : (Tryd.prog.info? 24).map (·.size) = some 2)
theorem zr24 : ZeroIs Tryd.prog 24 (.agg #[.bool false, .slice none 0 0]) := (by kernel_rfl : (Tryd.prog.info? 24).map (·.zero) = some (some (.agg #[.bool false, .slice none 0 0])))
theorem sz25 : SizeIs Tryd.prog 25 1 := (by kernel_rfl : (Tryd.prog.info? 25).map (·.size) = some 1)
theorem zr25 : ZeroIs Tryd.prog 25 (.nilFunc) := (by kernel_rfl : (Tryd.prog.info? 25).map (·.zero) = some (some (.nilFunc)))
theorem sz26 : SizeIs Tryd.prog 26 1 := (by kernel_rfl : (Tryd.prog.info? 26).map (·.size) = some 1)
theorem zr26 : ZeroIs Tryd.prog 26 (.int .i64 0) := (by kernel_rfl : (Tryd.prog.info? 26).map (·.zero) = some (some (.int .i64 0)))
theorem sz28 : SizeIs Tryd.prog 28 1 := (by kernel_rfl : (Tryd.prog.info? 28).map (·.size) = some 1)
theorem zr28 : ZeroIs Tryd.prog 28 (.nilFunc) := (by kernel_rfl : (Tryd.prog.info? 28).map (·.zero) = some (some (.nilFunc)))
theorem sz29 : SizeIs Tryd.prog 29 1 := (by kernel_rfl : (Tryd.prog.info? 29).map (·.size) = some 1)
theorem zr29 : ZeroIs Tryd.prog 29 (.nilFunc) := (by kernel_rfl : (Tryd.prog.info? 29).map (·.zero) = some (some (.nilFunc)))
theorem sz30 : SizeIs Tryd.prog 30 1 := (by kernel_rfl : (Tryd.prog.info? 30).map (·.size) = some 1)
theorem zr30 : ZeroIs Tryd.prog 30 (.nilFunc) := (by kernel_rfl : (Tryd.prog.info? 30).map (·.zero) = some (some (.nilFunc)))
theorem sz31 : SizeIs Tryd.prog 31 1 := (by kernel_rfl : (Tryd.prog.info? 31).map (·.size) = some 1)
theorem zr31 : ZeroIs Tryd.prog 31 (.slice none 0 0) := (by kernel_rfl : (Tryd.prog.info? 31).map (·.zero) = some (some (.slice none 0 0)))
theorem sz32 : SizeIs Tryd.prog 32 2 := (by kernel_rfl : (Tryd.prog.info? 32).map (·.size) = some 2)
theorem zr32 : ZeroIs Tryd.prog 32 (.agg #[.bool false, .slice none 0 0]) := (by kernel_rfl : (Tryd.prog.info? 32).map (·.zero) = some (some (.agg #[.bool false, .slice none 0 0])))
theorem sz33 : SizeIs Tryd.prog 33 2 := (by kernel_rfl : (Tryd.prog.info? 33).map (·.size) = some 2)
theorem zr33 : ZeroIs Tryd.prog 33 (.agg #[.bool false, .slice none 0 0]) := (by kernel_rfl : (Tryd.prog.info? 33).map (·.zero) = some (some (.agg #[.bool false, .slice none 0 0])))
theorem sz35 : SizeIs Tryd.prog 35 1 := (by kernel_rfl : (Tryd.prog.info? 35).map (·.size) = some 1)
theorem zr35 : ZeroIs Tryd.prog 35 (.nilFunc) := (by kernel_rfl : (Tryd.prog.info? 35).map (·.zero) = some (some (.nilFunc)))
theorem sz36 : SizeIs Tryd.prog 36 1 := (by kernel_rfl : (Tryd.prog.info? 36).map (·.size) = some 1)
theorem zr36 : ZeroIs Tryd.prog 36 (.nilFunc) := (by kernel_rfl : (Tryd.prog.info? 36).map (·.zero) = some (some (.nilFunc)))
theorem sz37 : SizeIs Tryd.prog 37 1 := (by kernel_rfl : (Tryd.prog.info? 37).map (·.size) = some 1)
theorem zr37 : ZeroIs Tryd.prog 37 (.nilFunc) := (by kernel_rfl : (Tryd.prog.info? 37).map (·.zero) = some (some (.nilFunc)))
theorem sz38 : SizeIs Tryd.prog 38 1 := (by kernel_rfl : (Tryd.prog.info? 38).map (·.size) = some 1)
theorem zr38 : ZeroIs Tryd.prog 38 (.nilFunc) := (by kernel_rfl : (Tryd.prog.info? 38).map (·.zero) = some (some (.nilFunc)))
theorem sz39 : SizeIs Tryd.prog 39 1 := (by kernel_rfl : (Tryd.prog.info? 39).map (·.size) = some 1)
theorem zr39 : ZeroIs Tryd.prog 39 (.nilFunc) := (by kernel_rfl : (Tryd.prog.info? 39).map (·.zero) = some (some (.nilFunc)))
theorem sz40 : SizeIs Tryd.prog 40 1 := (by kernel_rfl : (Tryd.prog.info? 40).map (·.size) = some 1)
theorem zr40 : ZeroIs Tryd.prog 40 (.nilFunc) := (by kernel_rfl : (Tryd.prog.info? 40).map (·.zero) = some (some (.nilFunc)))
theorem sz41 : SizeIs Tryd.prog 41 1 := (by kernel_rfl : (Tryd.prog.info? 41).map (·.size) = some 1)
theorem zr41 : ZeroIs Tryd.prog 41 (.nilFunc) := (by kernel_rfl : (Tryd.prog.info? 41).map (·.zero) = some (some (.nilFunc)))
theorem sz43 : SizeIs Tryd.prog 43 1 := (by kernel_rfl : (Tryd.prog.info? 43).map (·.size) = some 1)
theorem zr43 : ZeroIs Tryd.prog 43 (.nilFunc) := (by kernel_rfl : (Tryd.prog.info? 43).map (·.zero) = some (some (.nilFunc)))
theorem sz45 : SizeIs Tryd.prog 45 1 := (by kernel_rfl : (Tryd.prog.info? 45).map (·.size) = some 1)
theorem zr45 : ZeroIs Tryd.prog 45 (.nilFunc) := (by kernel_rfl : (Tryd.prog.info? 45).map (·.zero) = some (some (.nilFunc)))
theorem sz46 : SizeIs Tryd.prog 46 1 := (by kernel_rfl : (Tryd.prog.info? 46).map (·.size) = some 1)
theorem zr46 : ZeroIs Tryd.prog 46 (.nilFunc) := (by kernel_rfl : (Tryd.prog.info? 46).map (·.zero) = some (some (.nilFunc)))
theorem sz48 : SizeIs Tryd.prog 48 1 := (by kernel_rfl : (Tryd.prog.info? 48).map (·.size) = some 1)
theorem zr48 : ZeroIs Tryd.prog 48 (.nilFunc) := (by kernel_rfl : (Tryd.prog.info? 48).map (·.zero) = some (some (.nilFunc)))
theorem sz49 : SizeIs Tryd.prog 49 1 := (by kernel_rfl : (Tryd.prog.info? 49).map (·.size) = some 1)
theorem zr49 : ZeroIs Tryd.prog 49 (.nilFunc) := (by kernel_rfl : (Tryd.prog.info? 49).map (·.zero) = some (some (.nilFunc)))
theorem sz50 : SizeIs Tryd.prog 50 1 := (by kernel_rfl : (Tryd.prog.info? 50).map (·.size) = some 1)
theorem zr50 : ZeroIs Tryd.prog 50 (.nilFunc) := (by kernel_rfl : (Tryd.prog.info? 50).map (·.zero) = some (some (.nilFunc)))
theorem sz51 : SizeIs Tryd.prog 51 1 := (by kernel_rfl : (Tryd.prog.info? 51).map (·.size) = some 1)
theorem zr51 : ZeroIs Tryd.prog 51 (.nilFunc) := (by kernel_rfl : (Tryd.prog.info? 51).map (·.zero) = some (some (.nilFunc)))
theorem sz52 : SizeIs Tryd.prog 52 1 := (by kernel_rfl : (Tryd.prog.info? 52).map (·.size) = some 1)
theorem zr52 : ZeroIs Tryd.prog 52 (.nilFunc) := (by kernel_rfl : (Tryd.prog.info? 52).map (·.zero) = some (some (.nilFunc)))
theorem sz53 : SizeIs Tryd.prog 53 1 := (by kernel_rfl : (Tryd.prog.info? 53).map (·.size) = some 1)
theorem zr53 : ZeroIs Tryd.prog 53 (.nilFunc) := (by kernel_rfl : (Tryd.prog.info? 53).map (·.zero) = some (some (.nilFunc)))
theorem sz54 : SizeIs Tryd.prog 54 1 := (by kernel_rfl : (Tryd.prog.info? 54).map (·.size) = some 1)
theorem zr54 : ZeroIs Tryd.prog 54 (.nilFunc) := (by kernel_rfl : (Tryd.prog.info? 54).map (·.zero) = some (some (.nilFunc)))
theorem sz56 : SizeIs Tryd.prog 56 1 := (by kernel_rfl : (Tryd.prog.info? 56).map (·.size) = some 1)
theorem zr56 : ZeroIs Tryd.prog 56 (.nilFunc) := (by kernel_rfl : (Tryd.prog.info? 56).map (·.zero) = some (some (.nilFunc)))
theorem sz57 : SizeIs Tryd.prog 57 1 := (by kernel_rfl : (Tryd.prog.info? 57).map (·.size) = some 1)
theorem zr57 : ZeroIs Tryd.prog 57 (.nilFunc) := (by kernel_rfl : (Tryd.prog.info? 57).map (·.zero) = some (some (.nilFunc)))
theorem sz58 : SizeIs Tryd.prog 58 1 := (by kernel_rfl : (Tryd.prog.info? 58).map (·.size) = some 1)
theorem zr58 : ZeroIs Tryd.prog 58 (.nilFunc) := (by kernel_rfl : (Tryd.prog.info? 58).map (·.zero) = some (some (.nilFunc)))
theorem sz59 : SizeIs Tryd.prog 59 1 := (by kernel_rfl : (Tryd.prog.info? 59).map (·.size) = some 1)
theorem zr59 : ZeroIs Tryd.prog 59 (.nilFunc) := (by kernel_rfl : (Tryd.prog.info? 59).map (·.zero) = some (some (.nilFunc)))
theorem sz60 : SizeIs Tryd.prog 60 1 := (by kernel_rfl : (Tryd.prog.info? 60).map (·.size) = some 1)
theorem zr60 : ZeroIs Tryd.prog 60 (.slice none 0 0) := (by kernel_rfl : (Tryd.prog.info? 60).map (·.zero) = some (some (.slice none 0 0)))
theorem sz61 : SizeIs Tryd.prog 61 1 := (by kernel_rfl : (Tryd.prog.info? 61).map (·.size) = some 1)
theorem zr61 : ZeroIs Tryd.prog 61 (.slice none 0 0) := (by kernel_rfl : (Tryd.prog.info? 61).map (·.zero) = some (some (.slice none 0 0)))
theorem sz62 : SizeIs Tryd.prog 62 1 := (by kernel_rfl : (Tryd.prog.info? 62).map (·.size) = some 1)
theorem zr62 : ZeroIs Tryd.prog 62 (.nilFunc) := (by kernel_rfl : (Tryd.prog.info? 62).map (·.zero) = some (some (.nilFunc)))
theorem sz63 : SizeIs Tryd.prog 63 1 := (by kernel_rfl : (Tryd.prog.info? 63).map (·.size) = some 1)
theorem zr63 : ZeroIs Tryd.prog 63 (.int .u64 0) := (by kernel_rfl : (Tryd.prog.info? 63).map (·.zero) = some (some (.int .u64 0)))
theorem sz64 : SizeIs Tryd.prog 64 1 := (by kernel_rfl : (Tryd.prog.info? 64).map (·.size) = some 1)
theorem zr64 : ZeroIs Tryd.prog 64 (.nilFunc) := (by kernel_rfl : (Tryd.prog.info? 64).map (·.zero) = some (some (.nilFunc)))
theorem sz65 : SizeIs Tryd.prog 65 1 := (by kernel_rfl : (Tryd.prog.info? 65).map (·.size) = some 1)
theorem zr65 : ZeroIs Tryd.prog 65 (.nilFunc) := (by kernel_rfl : (Tryd.prog.info? 65).map (·.zero) = some (some (.nilFunc)))
theorem sz66 : SizeIs Tryd.prog 66 1 := (by kernel_rfl : (Tryd.prog.info? 66).map (·.size) = some 1)
theorem zr66 : ZeroIs Tryd.prog 66 (.nilFunc) := (by kernel_rfl : (Tryd.prog.info? 66).map (·.zero) = some (some (.nilFunc)))
theorem sz67 : SizeIs Tryd.prog 67 1 := (by kernel_rfl : (Tryd.prog.info? 67).map (·.size) = some 1)
theorem zr67 : ZeroIs Tryd.prog 67 (.nilFunc) := (by kernel_rfl : (Tryd.prog.info? 67).map (·.zero) = some (some (.nilFunc)))
theorem sz68 : SizeIs Tryd.prog 68 1 := (by kernel_rfl : (Tryd.prog.info? 68).map (·.size) = some 1)
theorem zr68 : ZeroIs Tryd.prog 68 (.nilFunc) := (by kernel_rfl : (Tryd.prog.info? 68).map (·.zero) = some (some (.nilFunc)))
theorem sz69 : SizeIs Tryd.prog 69 1 := (by kernel_rfl : (Tryd.prog.info? 69).map (·.size) = some 1)
theorem zr69 : ZeroIs Tryd.prog 69 (.nilFunc) := (by kernel_rfl : (Tryd.prog.info? 69).map (·.zero) = some (some (.nilFunc)))
theorem sz71 : SizeIs Tryd.prog 71 1 := (by kernel_rfl : (Tryd.prog.info? 71).map (·.size) = some 1)
theorem zr71 : ZeroIs Tryd.prog 71 (.nilFunc) := (by kernel_rfl : (Tryd.prog.info? 71).map (·.zero) = some (some (.nilFunc)))
theorem sz72 : SizeIs Tryd.prog 72 1 := (by kernel_rfl : (Tryd.prog.info? 72).map (·.size) = some 1)
theorem zr72 : ZeroIs Tryd.prog 72 (.nilFunc) := (by kernel_rfl : (Tryd.prog.info? 72).map (·.zero) = some (some (.nilFunc)))
theorem sz73 : SizeIs Tryd.prog 73 1 := (by kernel_rfl : (Tryd.prog.info? 73).map (·.size) = some 1)
theorem zr73 : ZeroIs Tryd.prog 73 (.nilFunc) := (by kernel_rfl : (Tryd.prog.info? 73).map (·.zero) = some (some (.nilFunc)))
theorem sz75 : SizeIs Tryd.prog 75 1 := (by kernel_rfl : (Tryd.prog.info? 75).map (·.size) = some 1)
theorem zr75 : ZeroIs Tryd.prog 75 (.nilFunc) := (by kernel_rfl : (Tryd.prog.info? 75).map (·.zero) = some (some (.nilFunc)))
theorem sz76 : SizeIs Tryd.prog 76 1 := (by kernel_rfl : (Tryd.prog.info? 76).map (·.size) = some 1)
theorem zr76 : ZeroIs Tryd.prog 76 (.nilFunc) := (by kernel_rfl : (Tryd.prog.info? 76).map (·.zero) = some (some (.nilFunc)))
theorem sz77 : SizeIs Tryd.prog 77 1 := (by kernel_rfl : (Tryd.prog.info? 77).map (·.size) = some 1)
theorem zr77 : ZeroIs Tryd.prog 77 (.nilFunc) := (by kernel_rfl : (Tryd.prog.info? 77).map (·.zero) = some (some (.nilFunc)))
theorem sz78 : SizeIs Tryd.prog 78 1 := (by kernel_rfl : (Tryd.prog.info? 78).map (·.size) = some 1)
theorem zr78 : ZeroIs Tryd.prog 78 (.nilFunc) := (by kernel_rfl : (Tryd.prog.info? 78).map (·.zero) = some (some (.nilFunc)))
theorem sz79 : SizeIs Tryd.prog 79 1 := (by kernel_rfl : (Tryd.prog.info? 79).map (·.size) = some 1)
theorem zr79 : ZeroIs Tryd.prog 79 (.nilFunc) := (by kernel_rfl : (Tryd.prog.info? 79).map (·.zero) = some (some (.nilFunc)))
theorem sz80 : SizeIs Tryd.prog 80 1 := (by kernel_rfl : (Tryd.prog.info? 80).map (·.size) = some 1)
theorem zr80 : ZeroIs Tryd.prog 80 (.nilFunc) := (by kernel_rfl : (Tryd.prog.info? 80).map (·.zero) = some (some (.nilFunc)))
theorem sz81 : SizeIs Tryd.prog 81 1 := (by kernel_rfl : (Tryd.prog.info? 81).map (·.size) = some 1)
theorem zr81 : ZeroIs Tryd.prog 81 (.nilFunc) := (by kernel_rfl : (Tryd.prog.info? 81).map (·.zero) = some (some (.nilFunc)))
theorem sz83 : SizeIs Tryd.prog 83 1 := (by kernel_rfl : (Tryd.prog.info? 83).map (·.size) = some 1)
theorem zr83 : ZeroIs Tryd.prog 83 (.nilFunc) := (by kernel_rfl : (Tryd.prog.info? 83).map (·.zero) = some (some (.nilFunc)))
theorem sz84 : SizeIs Tryd.prog 84 1 := (by kernel_rfl : (Tryd.prog.info? 84).map (·.size) = some 1)
theorem zr84 : ZeroIs Tryd.prog 84 (.nilFunc) := (by kernel_rfl : (Tryd.prog.info? 84).map (·.zero) = some (some (.nilFunc)))
theorem sz85 : SizeIs Tryd.prog 85 1 := (by kernel_rfl : (Tryd.prog.info? 85).map (·.size) = some 1)
theorem zr85 : ZeroIs Tryd.prog 85 (.slice none 0 0) := (by kernel_rfl : (Tryd.prog.info? 85).map (·.zero) = some (some (.slice none 0 0)))
theorem sz86 : SizeIs Tryd.prog 86 1 := (by kernel_rfl : (Tryd.prog.info? 86).map (·.size) = some 1)
theorem zr86 : ZeroIs Tryd.prog 86 (.nilIface) := (by kernel_rfl : (Tryd.prog.info? 86).map (·.zero) = some (some (.nilIface)))
theorem sz87 : SizeIs Tryd.prog 87 1 := (by kernel_rfl : (Tryd.prog.info? 87).map (·.size) = some 1)
theorem zr87 : ZeroIs Tryd.prog 87 (.nilIface) := (by kernel_rfl : (Tryd.prog.info? 87).map (·.zero) = some (some (.nilIface)))
theorem sz89 : SizeIs Tryd.prog 89 1 := (by kernel_rfl : (Tryd.prog.info? 89).map (·.size) = some 1)
theorem zr89 : ZeroIs Tryd.prog 89 (.nilFunc) := (by kernel_rfl : (Tryd.prog.info? 89).map (·.zero) = some (some (.nilFunc)))
theorem sz90 : SizeIs Tryd.prog 90 1 := (by kernel_rfl : (Tryd.prog.info? 90).map (·.size) = some 1)
theorem zr90 : ZeroIs Tryd.prog 90 (.nilFunc) := (by kernel_rfl : (Tryd.prog.info? 90).map (·.zero) = some (some (.nilFunc)))
theorem sz92 : SizeIs Tryd.prog 92 1 := (by kernel_rfl : (Tryd.prog.info? 92).map (·.size) = some 1)
theorem zr92 : ZeroIs Tryd.prog 92 (.nilFunc) := (by kernel_rfl : (Tryd.prog.info? 92).map (·.zero) = some (some (.nilFunc)))
theorem sz93 : SizeIs Tryd.prog 93 1 := (by kernel_rfl : (Tryd.prog.info? 93).map (·.size) = some 1)
theorem zr93 : ZeroIs Tryd.prog 93 (.nilFunc) := (by kernel_rfl : (Tryd.prog.info? 93).map (·.zero) = some (some (.nilFunc)))
theorem sz94 : SizeIs Tryd.prog 94 1 := (by kernel_rfl : (Tryd.prog.info? 94).map (·.size) = some 1)
theorem zr94 : ZeroIs Tryd.prog 94 (.nilFunc) := (by kernel_rfl : (Tryd.prog.info? 94).map (·.zero) = some (some (.nilFunc)))
theorem sz95 : SizeIs Tryd.prog 95 1 := (by kernel_rfl : (Tryd.prog.info? 95).map (·.size) = some 1)
theorem zr95 : ZeroIs Tryd.prog 95 (.int .u64 0) := (by kernel_rfl : (Tryd.prog.info? 95).map (·.zero) = some (some (.int .u64 0)))
theorem sz96 : SizeIs Tryd.prog 96 1 := (by kernel_rfl : (Tryd.prog.info? 96).map (·.size) = some 1)
theorem zr96 : ZeroIs Tryd.prog 96 (.nilFunc) := (by kernel_rfl : (Tryd.prog.info? 96).map (·.zero) = some (some (.nilFunc)))
theorem sz97 : SizeIs Tryd.prog 97 1 := (by kernel_rfl : (Tryd.prog.info? 97).map (·.size) = some 1)
theorem zr97 : ZeroIs Tryd.prog 97 (.nilFunc) := (by kernel_rfl : (Tryd.prog.info? 97).map (·.zero) = some (some (.nilFunc)))
theorem sz98 : SizeIs Tryd.prog 98 1 := (by kernel_rfl : (Tryd.prog.info? 98).map (·.size) = some 1)
theorem zr98 : ZeroIs Tryd.prog 98 (.int .i64 0) := (by kernel_rfl : (Tryd.prog.info? 98).map (·.zero) = some (some (.int .i64 0)))
theorem sz99 : SizeIs Tryd.prog 99 1 := (by kernel_rfl : (Tryd.prog.info? 99).map (·.size) = some 1)
theorem zr99 : ZeroIs Tryd.prog 99 (.nilFunc) := (by kernel_rfl : (Tryd.prog.info? 99).map (·.zero) = some (some (.nilFunc)))
theorem sz100 : SizeIs Tryd.prog 100 1 := (by kernel_rfl : (Tryd.prog.info? 100).map (·.size) = some 1)
theorem zr100 : ZeroIs Tryd.prog 100 (.nilFunc) := (by kernel_rfl : (Tryd.prog.info? 100).map (·.zero) = some (some (.nilFunc)))
theorem sz101 : SizeIs Tryd.prog 101 1 := (by kernel_rfl : (Tryd.prog.info? 101).map (·.size) = some 1)
theorem zr101 : ZeroIs Tryd.prog 101 (.pointer none) := (by kernel_rfl : (Tryd.prog.info? 101).map (·.zero) = some (some (.pointer none)))
theorem sz102 : SizeIs Tryd.prog 102 1 := (by kernel_rfl : (Tryd.prog.info? 102).map (·.size) = some 1)
theorem zr102 : ZeroIs Tryd.prog 102 (.nilFunc) := (by kernel_rfl : (Tryd.prog.info? 102).map (·.zero) = some (some (.nilFunc)))
theorem sz103 : SizeIs Tryd.prog 103 1 := (by kernel_rfl : (Tryd.prog.info? 103).map (·.size) = some 1)
theorem zr103 : ZeroIs Tryd.prog 103 (.nilFunc) := (by kernel_rfl : (Tryd.prog.info? 103).map (·.zero) = some (some (.nilFunc)))
theorem sz104 : SizeIs Tryd.prog 104 1 := (by kernel_rfl : (Tryd.prog.info? 104).map (·.size) = some 1)
theorem zr104 : ZeroIs Tryd.prog 104 (.nilFunc) := (by kernel_rfl : (Tryd.prog.info? 104).map (·.zero) = some (some (.nilFunc)))
theorem sz105 : SizeIs Tryd.prog 105 24 := (by kernel_rfl : (Tryd.prog.info? 105).map (·.size) = some 24)
theorem zr105 : ZeroIs Tryd.prog 105 (.agg #[.int .u8 0, .int .u8 0, .int .u8 0, .int .u8 0, .int .u8 0, .int .u8 0, .int .u8 0, .int .u8 0, .int .u8 0, .int .u8 0, .int .u8 0, .int .u8 0, .int .u8 0, .int .u8 0, .int .u8 0, .int .u8 0, .int .u8 0, .int .u8 0, .int .u8 0, .int .u8 0, .int .u8 0, .int .u8 0, .int .u8 0, .int .u8 0]) := (by kernel_rfl : (Tryd.prog.info? 105).map (·.zero) = some (some (.agg #[.int .u8 0, .int .u8 0, .int .u8 0, .int .u8 0, .int .u8 0, .int .u8 0, .int .u8 0, .int .u8 0, .int .u8 0, .int .u8 0, .int .u8 0, .int .u8 0, .int .u8 0, .int .u8 0, .int .u8 0, .int .u8 0, .int .u8 0, .int .u8 0, .int .u8 0, .int .u8 0, .int .u8 0, .int .u8 0, .int .u8 0, .int .u8 0])))
theorem sz106 : SizeIs Tryd.prog 106 1 := (by kernel_rfl : (Tryd.prog.info? 106).map (·.size) = some 1)
theorem zr106 : ZeroIs Tryd.prog 106 (.nilFunc) := (by kernel_rfl : (Tryd.prog.info? 106).map (·.zero) = some (some (.nilFunc)))
theorem sz108 : SizeIs Tryd.prog 108 1 := (by kernel_rfl : (Tryd.prog.info? 108).map (·.size) = some 1)
theorem zr108 : ZeroIs Tryd.prog 108 (.nilFunc) := (by kernel_rfl : (Tryd.prog.info? 108).map (·.zero) = some (some (.nilFunc)))
theorem sz109 : SizeIs Tryd.prog 109 1 := (by kernel_rfl : (Tryd.prog.info? 109).map (·.size) = some 1)
theorem zr109 : ZeroIs Tryd.prog 109 (.nilFunc) := (by kernel_rfl : (Tryd.prog.info? 109).map (·.zero) = some (some (.nilFunc)))
theorem sz110 : SizeIs Tryd.prog 110 3 := (by kernel_rfl : (Tryd.prog.info? 110).map (·.size) = some 3)
theorem zr110 : ZeroIs Tryd.prog 110 (.agg #[.string ⟨#[]⟩, .string ⟨#[]⟩, .nilIface]) := (by kernel_rfl : (Tryd.prog.info? 110).map (·.zero) = some (some (.agg #[.string ⟨#[]⟩, .string ⟨#[]⟩, .nilIface])))
theorem sz111 : SizeIs Tryd.prog 111 3 := (by kernel_rfl : (Tryd.prog.info? 111).map (·.size) = some 3)
theorem zr111 : ZeroIs Tryd.prog 111 (.agg #[.string ⟨#[]⟩, .string ⟨#[]⟩, .nilIface]) := (by kernel_rfl : (Tryd.prog.info? 111).map (·.zero) = some (some (.agg #[.string ⟨#[]⟩, .string ⟨#[]⟩, .nilIface])))
theorem sz112 : SizeIs Tryd.prog 112 1 := (by kernel_rfl : (Tryd.prog.info? 112).map (·.size) = some 1)
theorem zr112 : ZeroIs Tryd.prog 112 (.nilFunc) := (by kernel_rfl : (Tryd.prog.info? 112).map (·.zero) = some (some (.nilFunc)))
theorem sz113 : SizeIs Tryd.prog 113 1 := (by kernel_rfl : (Tryd.prog.info? 113).map (·.size) = some 1)
theorem zr113 : ZeroIs Tryd.prog 113 (.nilFunc) := (by kernel_rfl : (Tryd.prog.info? 113).map (·.zero) = some (some (.nilFunc)))
theorem sz114 : SizeIs Tryd.prog 114 1 := (by kernel_rfl : (Tryd.prog.info? 114).map (·.size) = some 1)
theorem zr114 : ZeroIs Tryd.prog 114 (.nilFunc) := (by kernel_rfl : (Tryd.prog.info? 114).map (·.zero) = some (some (.nilFunc)))
theorem sz115 : SizeIs Tryd.prog 115 20 := (by kernel_rfl : (Tryd.prog.info? 115).map (·.size) = some 20)
theorem zr115 : ZeroIs Tryd.prog 115 (.agg #[.int .u64 0, .int .u64 0, .int .u64 0, .int .u64 0, .int .u64 0, .int .u64 0, .int .u64 0, .int .u64 0, .int .u64 0, .int .u64 0, .int .u64 0, .int .u64 0, .int .u64 0, .int .u64 0, .int .u64 0, .int .u64 0, .int .u64 0, .int .u64 0, .int .u64 0, .int .u64 0]) := (by kernel_rfl : (Tryd.prog.info? 115).map (·.zero) = some (some (.agg #[.int .u64 0, .int .u64 0, .int .u64 0, .int .u64 0, .int .u64 0, .int .u64 0, .int .u64 0, .int .u64 0, .int .u64 0, .int .u64 0, .int .u64 0, .int .u64 0, .int .u64 0, .int .u64 0, .int .u64 0, .int .u64 0, .int .u64 0, .int .u64 0, .int .u64 0, .int .u64 0])))
theorem sz116 : SizeIs Tryd.prog 116 1 := (by kernel_rfl : (Tryd.prog.info? 116).map (·.size) = some 1)
theorem zr116 : ZeroIs Tryd.prog 116 (.int .u32 0) := (by kernel_rfl : (Tryd.prog.info? 116).map (·.zero) = some (some (.int .u32 0)))
theorem sz117 : SizeIs Tryd.prog 117 65 := (by kernel_rfl : (Tryd.prog.info? 117).map (·.size) = some 65)
theorem sz118 : SizeIs Tryd.prog 118 1 := (by kernel_rfl : (Tryd.prog.info? 118).map (·.size) = some 1)
theorem zr118 : ZeroIs Tryd.prog 118 (.nilFunc) := (by kernel_rfl : (Tryd.prog.info? 118).map (·.zero) = some (some (.nilFunc)))
theorem sz119 : SizeIs Tryd.prog 119 1 := (by kernel_rfl : (Tryd.prog.info? 119).map (·.size) = some 1)
theorem zr119 : ZeroIs Tryd.prog 119 (.nilFunc) := (by kernel_rfl : (Tryd.prog.info? 119).map (·.zero) = some (some (.nilFunc)))
theorem sz120 : SizeIs Tryd.prog 120 1 := (by kernel_rfl : (Tryd.prog.info? 120).map (·.size) = some 1)
theorem zr120 : ZeroIs Tryd.prog 120 (.pointer none) := (by kernel_rfl : (Tryd.prog.info? 120).map (·.zero) = some (some (.pointer none)))
theorem sz121 : SizeIs Tryd.prog 121 1 := (by kernel_rfl : (Tryd.prog.info? 121).map (·.size) = some 1)
theorem zr121 : ZeroIs Tryd.prog 121 (.pointer none) := (by kernel_rfl : (Tryd.prog.info? 121).map (·.zero) = some (some (.pointer none)))
theorem sz122 : SizeIs Tryd.prog 122 1 := (by kernel_rfl : (Tryd.prog.info? 122).map (·.size) = some 1)
theorem zr122 : ZeroIs Tryd.prog 122 (.agg #[.string ⟨#[]⟩]) := (by kernel_rfl : (Tryd.prog.info? 122).map (·.zero) = some (some (.agg #[.string ⟨#[]⟩])))
theorem sz123 : SizeIs Tryd.prog 123 1 := (by kernel_rfl : (Tryd.prog.info? 123).map (·.size) = some 1)
theorem zr123 : ZeroIs Tryd.prog 123 (.agg #[.string ⟨#[]⟩]) := (by kernel_rfl : (Tryd.prog.info? 123).map (·.zero) = some (some (.agg #[.string ⟨#[]⟩])))
theorem sz124 : SizeIs Tryd.prog 124 1 := (by kernel_rfl : (Tryd.prog.info? 124).map (·.size) = some 1)
theorem zr124 : ZeroIs Tryd.prog 124 (.nilFunc) := (by kernel_rfl : (Tryd.prog.info? 124).map (·.zero) = some (some (.nilFunc)))
theorem sz125 : SizeIs Tryd.prog 125 1 := (by kernel_rfl : (Tryd.prog.info? 125).map (·.size) = some 1)
theorem zr125 : ZeroIs Tryd.prog 125 (.nilFunc) := (by kernel_rfl : (Tryd.prog.info? 125).map (·.zero) = some (some (.nilFunc)))
theorem sz126 : SizeIs Tryd.prog 126 32 := (by kernel_rfl : (Tryd.prog.info? 126).map (·.size) = some 32)
theorem zr126 : ZeroIs Tryd.prog 126 (.agg #[.int .u8 0, .int .u8 0, .int .u8 0, .int .u8 0, .int .u8 0, .int .u8 0, .int .u8 0, .int .u8 0, .int .u8 0, .int .u8 0, .int .u8 0, .int .u8 0, .int .u8 0, .int .u8 0, .int .u8 0, .int .u8 0, .int .u8 0, .int .u8 0, .int .u8 0, .int .u8 0, .int .u8 0, .int .u8 0, .int .u8 0, .int .u8 0, .int .u8 0, .int .u8 0, .int .u8 0, .int .u8 0, .int .u8 0, .int .u8 0, .int .u8 0, .int .u8 0]) := (by kernel_rfl : (Tryd.prog.info? 126).map (·.zero) = some (some (.agg #[.int .u8 0, .int .u8 0, .int .u8 0, .int .u8 0, .int .u8 0, .int .u8 0, .int .u8 0, .int .u8 0, .int .u8 0, .int .u8 0, .int .u8 0, .int .u8 0, .int .u8 0, .int .u8 0, .int .u8 0, .int .u8 0, .int .u8 0, .int .u8 0, .int .u8 0, .int .u8 0, .int .u8 0, .int .u8 0, .int .u8 0, .int .u8 0, .int .u8 0, .int .u8 0, .int .u8 0, .int .u8 0, .int .u8 0, .int .u8 0, .int .u8 0, .int .u8 0])))
theorem sz127 : SizeIs Tryd.prog 127 64 := (by kernel_rfl : (Tryd.prog.info? 127).map (·.size) = some 64)
theorem zr127 : ZeroIs Tryd.prog 127 (.agg #[.int .u8 0, .int .u8 0, .int .u8 0, .int .u8 0, .int .u8 0, .int .u8 0, .int .u8 0, .int .u8 0, .int .u8 0, .int .u8 0, .int .u8 0, .int .u8 0, .int .u8 0, .int .u8 0, .int .u8 0, .int .u8 0, .int .u8 0, .int .u8 0, .int .u8 0, .int .u8 0, .int .u8 0, .int .u8 0, .int .u8 0, .int .u8 0, .int .u8 0, .int .u8 0, .int .u8 0, .int .u8 0, .int .u8 0, .int .u8 0, .int .u8 0, .int .u8 0, .int .u8 0, .int .u8 0, .int .u8 0, .int .u8 0, .int .u8 0, .int .u8 0, .int .u8 0, .int .u8 0, .int .u8 0, .int .u8 0, .int .u8 0, .int .u8 0, .int .u8 0, .int .u8 0, .int .u8 0, .int .u8 0, .int .u8 0, .int .u8 0, .int .u8 0, .int .u8 0, .int .u8 0, .int .u8 0, .int .u8 0, .int .u8 0, .int .u8 0, .int .u8 0, .int .u8 0, .int .u8 0, .int .u8 0, .int .u8 0, .int .u8 0, .int .u8 0]) := (by kernel_rfl : (Tryd.prog.info? 127).map (·.zero) = some (some (.agg #[.int .u8 0, .int .u8 0, .int .u8 0, .int .u8 0, .int .u8 0, .int .u8 0, .int .u8 0, .int .u8 0, .int .u8 0, .int .u8 0, .int .u8 0, .int .u8 0, .int .u8 0, .int .u8 0, .int .u8 0, .int .u8 0, .int .u8 0, .int .u8 0, .int .u8 0, .int .u8 0, .int .u8 0, .int .u8 0, .int .u8 0, .int .u8 0, .int .u8 0, .int .u8 0, .int .u8 0, .int .u8 0, .int .u8 0, .int .u8 0, .int .u8 0, .int .u8 0, .int .u8 0, .int .u8 0, .int .u8 0, .int .u8 0, .int .u8 0, .int .u8 0, .int .u8 0, .int .u8 0, .int .u8 0, .int .u8 0, .int .u8 0, .int .u8 0, .int .u8 0, .int .u8 0, .int .u8 0, .int .u8 0, .int .u8 0, .int .u8 0, .int .u8 0, .int .u8 0, .int .u8 0, .int .u8 0, .int .u8 0, .int .u8 0, .int .u8 0, .int .u8 0, .int .u8 0, .int .u8 0, .int .u8 0, .int .u8 0, .int .u8 0, .int .u8 0])))
theorem sz128 : SizeIs Tryd.prog 128 1 := (by kernel_rfl : (Tryd.prog.info? 128).map (·.size) = some 1)
theorem zr128 : ZeroIs Tryd.prog 128 (.nilFunc) := (by kernel_rfl : (Tryd.prog.info? 128).map (·.zero) = some (some (.nilFunc)))
theorem sz129 : SizeIs Tryd.prog 129 4 := (by kernel_rfl : (Tryd.prog.info? 129).map (·.size) = some 4)
theorem zr129 : ZeroIs Tryd.prog 129 (.agg #[.pointer none, .pointer none, .pointer none, .string ⟨#[]⟩]) := (by kernel_rfl : (Tryd.prog.info? 129).map (·.zero) = some (some (.agg #[.pointer none, .pointer none, .pointer none, .string ⟨#[]⟩])))
theorem sz130 : SizeIs Tryd.prog 130 4 := (by kernel_rfl : (Tryd.prog.info? 130).map (·.size) = some 4)
theorem zr130 : ZeroIs Tryd.prog 130 (.agg #[.pointer none, .pointer none, .pointer none, .string ⟨#[]⟩]) := (by kernel_rfl : (Tryd.prog.info? 130).map (·.zero) = some (some (.agg #[.pointer none, .pointer none, .pointer none, .string ⟨#[]⟩])))
theorem sz131 : SizeIs Tryd.prog 131 0 := (by kernel_rfl : (Tryd.prog.info? 131).map (·.size) = some 0)
theorem zr131 : ZeroIs Tryd.prog 131 (.agg #[]) := (by kernel_rfl : (Tryd.prog.info? 131).map (·.zero) = some (some (.agg #[])))
theorem sz132 : SizeIs Tryd.prog 132 0 := (by kernel_rfl : (Tryd.prog.info? 132).map (·.size) = some 0)
theorem zr132 : ZeroIs Tryd.prog 132 (.agg #[]) := (by kernel_rfl : (Tryd.prog.info? 132).map (·.zero) = some (some (.agg #[])))
theorem sz133 : SizeIs Tryd.prog 133 0 := (by kernel_rfl : (Tryd.prog.info? 133).map (·.size) = some 0)
theorem zr133 : ZeroIs Tryd.prog 133 (.agg #[]) := (by kernel_rfl : (Tryd.prog.info? 133).map (·.zero) = some (some (.agg #[])))
theorem sz134 : SizeIs Tryd.prog 134 1 := (by kernel_rfl : (Tryd.prog.info? 134).map (·.size) = some 1)
theorem zr134 : ZeroIs Tryd.prog 134 (.nilFunc) := (by kernel_rfl : (Tryd.prog.info? 134).map (·.zero) = some (some (.nilFunc)))
theorem sz135 : SizeIs Tryd.prog 135 1 := (by kernel_rfl : (Tryd.prog.info? 135).map (·.size) = some 1)
theorem zr135 : ZeroIs Tryd.prog 135 (.int .u8 0) := (by kernel_rfl : (Tryd.prog.info? 135).map (·.zero) = some (some (.int .u8 0)))
theorem sz136 : SizeIs Tryd.prog 136 1 := (by kernel_rfl : (Tryd.prog.info? 136).map (·.size) = some 1)
theorem zr136 : ZeroIs Tryd.prog 136 (.int .u8 0) := (by kernel_rfl : (Tryd.prog.info? 136).map (·.zero) = some (some (.int .u8 0)))
theorem sz137 : SizeIs Tryd.prog 137 1 := (by kernel_rfl : (Tryd.prog.info? 137).map (·.size) = some 1)
theorem zr137 : ZeroIs Tryd.prog 137 (.nilFunc) := (by kernel_rfl : (Tryd.prog.info? 137).map (·.zero) = some (some (.nilFunc)))
theorem sz138 : SizeIs Tryd.prog 138 1 := (by kernel_rfl : (Tryd.prog.info? 138).map (·.size) = some 1)
theorem zr138 : ZeroIs Tryd.prog 138 (.int .i32 0) := (by kernel_rfl : (Tryd.prog.info? 138).map (·.zero) = some (some (.int .i32 0)))
theorem sz139 : SizeIs Tryd.prog 139 1 := (by kernel_rfl : (Tryd.prog.info? 139).map (·.size) = some 1)
theorem zr139 : ZeroIs Tryd.prog 139 (.int .i32 0) := (by kernel_rfl : (Tryd.prog.info? 139).map (·.zero) = some (some (.int .i32 0)))
theorem sz140 : SizeIs Tryd.prog 140 11 := (by kernel_rfl : (Tryd.prog.info? 140).map (·.size) = some 11)
theorem zr140 : ZeroIs Tryd.prog 140 (.agg #[.int .u64 0, .int .u64 0, .int .u32 0, .int .u8 0, .int .u8 0, .int .u8 0, .int .u8 0, .nilFunc, .pointer none, .int .i32 0, .int .i32 0]) := (by kernel_rfl : (Tryd.prog.info? 140).map (·.zero) = some (some (.agg #[.int .u64 0, .int .u64 0, .int .u32 0, .int .u8 0, .int .u8 0, .int .u8 0, .int .u8 0, .nilFunc, .pointer none, .int .i32 0, .int .i32 0])))
theorem sz141 : SizeIs Tryd.prog 141 11 := (by kernel_rfl : (Tryd.prog.info? 141).map (·.size) = some 11)
theorem zr141 : ZeroIs Tryd.prog 141 (.agg #[.int .u64 0, .int .u64 0, .int .u32 0, .int .u8 0, .int .u8 0, .int .u8 0, .int .u8 0, .nilFunc, .pointer none, .int .i32 0, .int .i32 0]) := (by kernel_rfl : (Tryd.prog.info? 141).map (·.zero) = some (some (.agg #[.int .u64 0, .int .u64 0, .int .u32 0, .int .u8 0, .int .u8 0, .int .u8 0, .int .u8 0, .nilFunc, .pointer none, .int .i32 0, .int .i32 0])))
theorem sz142 : SizeIs Tryd.prog 142 1 := (by kernel_rfl : (Tryd.prog.info? 142).map (·.size) = some 1)
theorem zr142 : ZeroIs Tryd.prog 142 (.pointer none) := (by kernel_rfl : (Tryd.prog.info? 142).map (·.zero) = some (some (.pointer none)))
theorem inf2 : InfoIs Tryd.prog 2 (.int .i64 0) 1 8 := (by kernel_rfl : (Tryd.prog.info? 2).map (fun i => (i.zero, i.size, i.bytes)) = some (some (.int .i64 0), 1, 8))
theorem inf3 : InfoIs Tryd.prog 3 (.int .i64 0) 1 8 := (by kernel_rfl : (Tryd.prog.info? 3).map (fun i => (i.zero, i.size, i.bytes)) = some (some (.int .i64 0), 1, 8))
theorem inf4 : InfoIs Tryd.prog 4 (.bool false) 1 1 := (by kernel_rfl : (Tryd.prog.info? 4).map (fun i => (i.zero, i.size, i.bytes)) = some (some (.bool false), 1, 1))
theorem inf5 : InfoIs Tryd.prog 5 (.int .u8 0) 1 1 := (by kernel_rfl : (Tryd.prog.info? 5).map (fun i => (i.zero, i.size, i.bytes)) = some (some (.int .u8 0), 1, 1))
theorem inf6 : InfoIs Tryd.prog 6 (.int .u8 0) 1 1 := (by kernel_rfl : (Tryd.prog.info? 6).map (fun i => (i.zero, i.size, i.bytes)) = some (some (.int .u8 0), 1, 1))
theorem pl7 : Places Tryd.prog 7 [(0, 1), (1, 1), (2, 1), (3, 1)] := ⟨_, Tryd.underlying7, by kernel_rfl⟩
theorem inf7 : InfoIs Tryd.prog 7 (.agg #[.int .i64 0, .int .i64 0, .bool false, .int .u8 0]) 4 24 := (by kernel_rfl : (Tryd.prog.info? 7).map (fun i => (i.zero, i.size, i.bytes)) = some (some (.agg #[.int .i64 0, .int .i64 0, .bool false, .int .u8 0]), 4, 24))
theorem pl8 : Places Tryd.prog 8 [(0, 1), (1, 1), (2, 1), (3, 1)] := ⟨_, Tryd.underlying8, by kernel_rfl⟩
theorem inf8 : InfoIs Tryd.prog 8 (.agg #[.int .i64 0, .int .i64 0, .bool false, .int .u8 0]) 4 24 := (by kernel_rfl : (Tryd.prog.info? 8).map (fun i => (i.zero, i.size, i.bytes)) = some (some (.agg #[.int .i64 0, .int .i64 0, .bool false, .int .u8 0]), 4, 24))
theorem inf9 : InfoIs Tryd.prog 9 (.string ⟨#[]⟩) 1 16 := (by kernel_rfl : (Tryd.prog.info? 9).map (fun i => (i.zero, i.size, i.bytes)) = some (some (.string ⟨#[]⟩), 1, 16))
theorem inf10 : InfoIs Tryd.prog 10 (.string ⟨#[]⟩) 1 16 := (by kernel_rfl : (Tryd.prog.info? 10).map (fun i => (i.zero, i.size, i.bytes)) = some (some (.string ⟨#[]⟩), 1, 16))
theorem inf11 : InfoIs Tryd.prog 11 (.string ⟨#[]⟩) 1 16 := (by kernel_rfl : (Tryd.prog.info? 11).map (fun i => (i.zero, i.size, i.bytes)) = some (some (.string ⟨#[]⟩), 1, 16))
theorem inf12 : InfoIs Tryd.prog 12 (.int .u64 0) 1 8 := (by kernel_rfl : (Tryd.prog.info? 12).map (fun i => (i.zero, i.size, i.bytes)) = some (some (.int .u64 0), 1, 8))
theorem pl13 : Places Tryd.prog 13 [(0, 1), (1, 1)] := ⟨_, Tryd.underlying13, by kernel_rfl⟩
theorem inf13 : InfoIs Tryd.prog 13 (.agg #[.string ⟨#[]⟩, .int .u64 0]) 2 24 := (by kernel_rfl : (Tryd.prog.info? 13).map (fun i => (i.zero, i.size, i.bytes)) = some (some (.agg #[.string ⟨#[]⟩, .int .u64 0]), 2, 24))
theorem pl14 : Places Tryd.prog 14 [(0, 1), (1, 1)] := ⟨_, Tryd.underlying14, by kernel_rfl⟩
theorem inf14 : InfoIs Tryd.prog 14 (.agg #[.string ⟨#[]⟩, .int .u64 0]) 2 24 := (by kernel_rfl : (Tryd.prog.info? 14).map (fun i => (i.zero, i.size, i.bytes)) = some (some (.agg #[.string ⟨#[]⟩, .int .u64 0]), 2, 24))
theorem inf15 : InfoIs Tryd.prog 15 (.pointer none) 1 8 := (by kernel_rfl : (Tryd.prog.info? 15).map (fun i => (i.zero, i.size, i.bytes)) = some (some (.pointer none), 1, 8))
theorem inf16 : InfoIs Tryd.prog 16 (.pointer none) 1 8 := (by kernel_rfl : (Tryd.prog.info? 16).map (fun i => (i.zero, i.size, i.bytes)) = some (some (.pointer none), 1, 8))
theorem inf17 : InfoIs Tryd.prog 17 (.pointer none) 1 8 := (by kernel_rfl : (Tryd.prog.info? 17).map (fun i => (i.zero, i.size, i.bytes)) = some (some (.pointer none), 1, 8))
theorem pl18 : Places Tryd.prog 18 [(0, 1)] := ⟨_, Tryd.underlying18, by kernel_rfl⟩
theorem inf18 : InfoIs Tryd.prog 18 (.agg #[.pointer none]) 1 8 := (by kernel_rfl : (Tryd.prog.info? 18).map (fun i => (i.zero, i.size, i.bytes)) = some (some (.agg #[.pointer none]), 1, 8))
theorem pl19 : Places Tryd.prog 19 [(0, 1)] := ⟨_, Tryd.underlying19, by kernel_rfl⟩
theorem inf19 : InfoIs Tryd.prog 19 (.agg #[.pointer none]) 1 8 := (by kernel_rfl : (Tryd.prog.info? 19).map (fun i => (i.zero, i.size, i.bytes)) = some (some (.agg #[.pointer none]), 1, 8))
theorem inf20 : InfoIs Tryd.prog 20 (.nilIface) 1 16 := (by kernel_rfl : (Tryd.prog.info? 20).map (fun i => (i.zero, i.size, i.bytes)) = some (some (.nilIface), 1, 16))
theorem inf21 : InfoIs Tryd.prog 21 (.int .i32 0) 1 4 := (by kernel_rfl : (Tryd.prog.info? 21).map (fun i => (i.zero, i.size, i.bytes)) = some (some (.int .i32 0), 1, 4))
theorem inf22 : InfoIs Tryd.prog 22 (.slice none 0 0) 1 24 := (by kernel_rfl : (Tryd.prog.info? 22).map (fun i => (i.zero, i.size, i.bytes)) = some (some (.slice none 0 0), 1, 24))
theorem pl23 : Places Tryd.prog 23 [(0, 1), (1, 1)] := ⟨_, Tryd.underlying23, by kernel_rfl⟩
theorem inf23 : InfoIs Tryd.prog 23 (.agg #[.bool false, .slice none 0 0]) 2 32 := (by kernel_rfl : (Tryd.prog.info? 23).map (fun i => (i.zero, i.size, i.bytes)) = some (some (.agg #[.bool false, .slice none 0 0]), 2, 32))
theorem pl24 : Places Tryd.prog 24 [(0, 1), (1, 1)] := ⟨_, Tryd.underlying24, by kernel_rfl⟩
theorem inf24 : InfoIs Tryd.prog 24 (.agg #[.bool false, .slice none 0 0]) 2 32 := (by kernel_rfl : (Tryd.prog.info? 24).map (fun i => (i.zero, i.size, i.bytes)) = some (some (.agg #[.bool false, .slice none 0 0]), 2, 32))
theorem inf26 : InfoIs Tryd.prog 26 (.int .i64 0) 1 8 := (by kernel_rfl : (Tryd.prog.info? 26).map (fun i => (i.zero, i.size, i.bytes)) = some (some (.int .i64 0), 1, 8))
theorem inf31 : InfoIs Tryd.prog 31 (.slice none 0 0) 1 24 := (by kernel_rfl : (Tryd.prog.info? 31).map (fun i => (i.zero, i.size, i.bytes)) = some (some (.slice none 0 0), 1, 24))
theorem pl32 : Places Tryd.prog 32 [(0, 1), (1, 1)] := ⟨_, Tryd.underlying32, by kernel_rfl⟩
theorem inf32 : InfoIs Tryd.prog 32 (.agg #[.bool false, .slice none 0 0]) 2 32 := (by kernel_rfl : (Tryd.prog.info? 32).map (fun i => (i.zero, i.size, i.bytes)) = some (some (.agg #[.bool false, .slice none 0 0]), 2, 32))
theorem pl33 : Places Tryd.prog 33 [(0, 1), (1, 1)] := ⟨_, Tryd.underlying33, by kernel_rfl⟩
theorem inf33 : InfoIs Tryd.prog 33 (.agg #[.bool false, .slice none 0 0]) 2 32 := (by kernel_rfl : (Tryd.prog.info? 33).map (fun i => (i.zero, i.size, i.bytes)) = some (some (.agg #[.bool false, .slice none 0 0]), 2, 32))
theorem inf60 : InfoIs Tryd.prog 60 (.slice none 0 0) 1 24 := (by kernel_rfl : (Tryd.prog.info? 60).map (fun i => (i.zero, i.size, i.bytes)) = some (some (.slice none 0 0), 1, 24))
theorem inf61 : InfoIs Tryd.prog 61 (.slice none 0 0) 1 24 := (by kernel_rfl : (Tryd.prog.info? 61).map (fun i => (i.zero, i.size, i.bytes)) = some (some (.slice none 0 0), 1, 24))
theorem inf63 : InfoIs Tryd.prog 63 (.int .u64 0) 1 8 := (by kernel_rfl : (Tryd.prog.info? 63).map (fun i => (i.zero, i.size, i.bytes)) = some (some (.int .u64 0), 1, 8))
theorem inf85 : InfoIs Tryd.prog 85 (.slice none 0 0) 1 24 := (by kernel_rfl : (Tryd.prog.info? 85).map (fun i => (i.zero, i.size, i.bytes)) = some (some (.slice none 0 0), 1, 24))
theorem inf86 : InfoIs Tryd.prog 86 (.nilIface) 1 16 := (by kernel_rfl : (Tryd.prog.info? 86).map (fun i => (i.zero, i.size, i.bytes)) = some (some (.nilIface), 1, 16))
theorem inf87 : InfoIs Tryd.prog 87 (.nilIface) 1 16 := (by kernel_rfl : (Tryd.prog.info? 87).map (fun i => (i.zero, i.size, i.bytes)) = some (some (.nilIface), 1, 16))
theorem inf95 : InfoIs Tryd.prog 95 (.int .u64 0) 1 8 := (by kernel_rfl : (Tryd.prog.info? 95).map (fun i => (i.zero, i.size, i.bytes)) = some (some (.int .u64 0), 1, 8))
theorem inf98 : InfoIs Tryd.prog 98 (.int .i64 0) 1 8 := (by kernel_rfl : (Tryd.prog.info? 98).map (fun i => (i.zero, i.size, i.bytes)) = some (some (.int .i64 0), 1, 8))
theorem inf101 : InfoIs Tryd.prog 101 (.pointer none) 1 8 := (by kernel_rfl : (Tryd.prog.info? 101).map (fun i => (i.zero, i.size, i.bytes)) = some (some (.pointer none), 1, 8))
theorem pl110 : Places Tryd.prog 110 [(0, 1), (1, 1), (2, 1)] := ⟨_, Tryd.underlying110, by kernel_rfl⟩
theorem inf110 : InfoIs Tryd.prog 110 (.agg #[.string ⟨#[]⟩, .string ⟨#[]⟩, .nilIface]) 3 48 := (by kernel_rfl : (Tryd.prog.info? 110).map (fun i => (i.zero, i.size, i.bytes)) = some (some (.agg #[.string ⟨#[]⟩, .string ⟨#[]⟩, .nilIface]), 3, 48))
theorem pl111 : Places Tryd.prog 111 [(0, 1), (1, 1), (2, 1)] := ⟨_, Tryd.underlying111, by kernel_rfl⟩
theorem inf111 : InfoIs Tryd.prog 111 (.agg #[.string ⟨#[]⟩, .string ⟨#[]⟩, .nilIface]) 3 48 := (by kernel_rfl : (Tryd.prog.info? 111).map (fun i => (i.zero, i.size, i.bytes)) = some (some (.agg #[.string ⟨#[]⟩, .string ⟨#[]⟩, .nilIface]), 3, 48))
theorem inf116 : InfoIs Tryd.prog 116 (.int .u32 0) 1 4 := (by kernel_rfl : (Tryd.prog.info? 116).map (fun i => (i.zero, i.size, i.bytes)) = some (some (.int .u32 0), 1, 4))
theorem inf120 : InfoIs Tryd.prog 120 (.pointer none) 1 8 := (by kernel_rfl : (Tryd.prog.info? 120).map (fun i => (i.zero, i.size, i.bytes)) = some (some (.pointer none), 1, 8))
theorem inf121 : InfoIs Tryd.prog 121 (.pointer none) 1 8 := (by kernel_rfl : (Tryd.prog.info? 121).map (fun i => (i.zero, i.size, i.bytes)) = some (some (.pointer none), 1, 8))
theorem pl122 : Places Tryd.prog 122 [(0, 1)] := ⟨_, Tryd.underlying122, by kernel_rfl⟩
theorem inf122 : InfoIs Tryd.prog 122 (.agg #[.string ⟨#[]⟩]) 1 16 := (by kernel_rfl : (Tryd.prog.info? 122).map (fun i => (i.zero, i.size, i.bytes)) = some (some (.agg #[.string ⟨#[]⟩]), 1, 16))
theorem pl123 : Places Tryd.prog 123 [(0, 1)] := ⟨_, Tryd.underlying123, by kernel_rfl⟩
theorem inf123 : InfoIs Tryd.prog 123 (.agg #[.string ⟨#[]⟩]) 1 16 := (by kernel_rfl : (Tryd.prog.info? 123).map (fun i => (i.zero, i.size, i.bytes)) = some (some (.agg #[.string ⟨#[]⟩]), 1, 16))
theorem pl129 : Places Tryd.prog 129 [(0, 1), (1, 1), (2, 1), (3, 1)] := ⟨_, Tryd.underlying129, by kernel_rfl⟩
theorem inf129 : InfoIs Tryd.prog 129 (.agg #[.pointer none, .pointer none, .pointer none, .string ⟨#[]⟩]) 4 40 := (by kernel_rfl : (Tryd.prog.info? 129).map (fun i => (i.zero, i.size, i.bytes)) = some (some (.agg #[.pointer none, .pointer none, .pointer none, .string ⟨#[]⟩]), 4, 40))
theorem pl130 : Places Tryd.prog 130 [(0, 1), (1, 1), (2, 1), (3, 1)] := ⟨_, Tryd.underlying130, by kernel_rfl⟩
theorem inf130 : InfoIs Tryd.prog 130 (.agg #[.pointer none, .pointer none, .pointer none, .string ⟨#[]⟩]) 4 40 := (by kernel_rfl : (Tryd.prog.info? 130).map (fun i => (i.zero, i.size, i.bytes)) = some (some (.agg #[.pointer none, .pointer none, .pointer none, .string ⟨#[]⟩]), 4, 40))
theorem pl132 : Places Tryd.prog 132 [(0, 0)] := ⟨_, Tryd.underlying132, by kernel_rfl⟩
theorem pl133 : Places Tryd.prog 133 [(0, 0)] := ⟨_, Tryd.underlying133, by kernel_rfl⟩
theorem inf135 : InfoIs Tryd.prog 135 (.int .u8 0) 1 1 := (by kernel_rfl : (Tryd.prog.info? 135).map (fun i => (i.zero, i.size, i.bytes)) = some (some (.int .u8 0), 1, 1))
theorem inf136 : InfoIs Tryd.prog 136 (.int .u8 0) 1 1 := (by kernel_rfl : (Tryd.prog.info? 136).map (fun i => (i.zero, i.size, i.bytes)) = some (some (.int .u8 0), 1, 1))
theorem inf138 : InfoIs Tryd.prog 138 (.int .i32 0) 1 4 := (by kernel_rfl : (Tryd.prog.info? 138).map (fun i => (i.zero, i.size, i.bytes)) = some (some (.int .i32 0), 1, 4))
theorem inf139 : InfoIs Tryd.prog 139 (.int .i32 0) 1 4 := (by kernel_rfl : (Tryd.prog.info? 139).map (fun i => (i.zero, i.size, i.bytes)) = some (some (.int .i32 0), 1, 4))
theorem pl140 : Places Tryd.prog 140 [(0, 1), (1, 1), (2, 1), (3, 1), (4, 1), (5, 1), (6, 1), (7, 1), (8, 1), (9, 1), (10, 1)] := ⟨_, Tryd.underlying140, by kernel_rfl⟩
theorem inf140 : InfoIs Tryd.prog 140 (.agg #[.int .u64 0, .int .u64 0, .int .u32 0, .int .u8 0, .int .u8 0, .int .u8 0, .int .u8 0, .nilFunc, .pointer none, .int .i32 0, .int .i32 0]) 11 48 := (by kernel_rfl : (Tryd.prog.info? 140).map (fun i => (i.zero, i.size, i.bytes)) = some (some (.agg #[.int .u64 0, .int .u64 0, .int .u32 0, .int .u8 0, .int .u8 0, .int .u8 0, .int .u8 0, .nilFunc, .pointer none, .int .i32 0, .int .i32 0]), 11, 48))
theorem pl141 : Places Tryd.prog 141 [(0, 1), (1, 1), (2, 1), (3, 1), (4, 1), (5, 1), (6, 1), (7, 1), (8, 1), (9, 1), (10, 1)] := ⟨_, Tryd.underlying141, by kernel_rfl⟩
theorem inf141 : InfoIs Tryd.prog 141 (.agg #[.int .u64 0, .int .u64 0, .int .u32 0, .int .u8 0, .int .u8 0, .int .u8 0, .int .u8 0, .nilFunc, .pointer none, .int .i32 0, .int .i32 0]) 11 48 := (by kernel_rfl : (Tryd.prog.info? 141).map (fun i => (i.zero, i.size, i.bytes)) = some (some (.agg #[.int .u64 0, .int .u64 0, .int .u32 0, .int .u8 0, .int .u8 0, .int .u8 0, .int .u8 0, .nilFunc, .pointer none, .int .i32 0, .int .i32 0]), 11, 48))
theorem en2 : Own_ Tryd.prog 2 := ⟨_, Tryd.func2, by kernel_rfl, by kernel_rfl⟩
theorem en3 : Own_ Tryd.prog 3 := ⟨_, Tryd.func3, by kernel_rfl, by kernel_rfl⟩
theorem en4 : Own_ Tryd.prog 4 := ⟨_, Tryd.func4, by kernel_rfl, by kernel_rfl⟩
theorem en5 : Own_ Tryd.prog 5 := ⟨_, Tryd.func5, by kernel_rfl, by kernel_rfl⟩
theorem en6 : Own_ Tryd.prog 6 := ⟨_, Tryd.func6, by kernel_rfl, by kernel_rfl⟩
theorem en7 : Own_ Tryd.prog 7 := ⟨_, Tryd.func7, by kernel_rfl, by kernel_rfl⟩
theorem en8 : Own_ Tryd.prog 8 := ⟨_, Tryd.func8, by kernel_rfl, by kernel_rfl⟩
theorem en9 : Own_ Tryd.prog 9 := ⟨_, Tryd.func9, by kernel_rfl, by kernel_rfl⟩
theorem en10 : Own_ Tryd.prog 10 := ⟨_, Tryd.func10, by kernel_rfl, by kernel_rfl⟩
theorem en11 : Own_ Tryd.prog 11 := ⟨_, Tryd.func11, by kernel_rfl, by kernel_rfl⟩
theorem en12 : Own_ Tryd.prog 12 := ⟨_, Tryd.func12, by kernel_rfl, by kernel_rfl⟩
theorem en13 : Own_ Tryd.prog 13 := ⟨_, Tryd.func13, by kernel_rfl, by kernel_rfl⟩
theorem en14 : Own_ Tryd.prog 14 := ⟨_, Tryd.func14, by kernel_rfl, by kernel_rfl⟩
theorem en15 : Own_ Tryd.prog 15 := ⟨_, Tryd.func15, by kernel_rfl, by kernel_rfl⟩
theorem en16 : Own_ Tryd.prog 16 := ⟨_, Tryd.func16, by kernel_rfl, by kernel_rfl⟩
theorem en17 : Own_ Tryd.prog 17 := ⟨_, Tryd.func17, by kernel_rfl, by kernel_rfl⟩
theorem en18 : Own_ Tryd.prog 18 := ⟨_, Tryd.func18, by kernel_rfl, by kernel_rfl⟩
theorem en19 : Own_ Tryd.prog 19 := ⟨_, Tryd.func19, by kernel_rfl, by kernel_rfl⟩
theorem en20 : Own_ Tryd.prog 20 := ⟨_, Tryd.func20, by kernel_rfl, by kernel_rfl⟩
theorem en21 : Own_ Tryd.prog 21 := ⟨_, Tryd.func21, by kernel_rfl, by kernel_rfl⟩
theorem en22 : Own_ Tryd.prog 22 := ⟨_, Tryd.func22, by kernel_rfl, by kernel_rfl⟩
theorem en23 : Own_ Tryd.prog 23 := ⟨_, Tryd.func23, by kernel_rfl, by kernel_rfl⟩
theorem en24 : Own_ Tryd.prog 24 := ⟨_, Tryd.func24, by kernel_rfl, by kernel_rfl⟩
theorem en25 : Own_ Tryd.prog 25 := ⟨_, Tryd.func25, by kernel_rfl, by kernel_rfl⟩
theorem en26 : Own_ Tryd.prog 26 := ⟨_, Tryd.func26, by kernel_rfl, by kernel_rfl⟩
theorem en27 : Own_ Tryd.prog 27 := ⟨_, Tryd.func27, by kernel_rfl, by kernel_rfl⟩
theorem en28 : Own_ Tryd.prog 28 := ⟨_, Tryd.func28, by kernel_rfl, by kernel_rfl⟩
theorem en29 : Own_ Tryd.prog 29 := ⟨_, Tryd.func29, by kernel_rfl, by kernel_rfl⟩
theorem en30 : Own_ Tryd.prog 30 := ⟨_, Tryd.func30, by kernel_rfl, by kernel_rfl⟩
theorem en31 : Own_ Tryd.prog 31 := ⟨_, Tryd.func31, by kernel_rfl, by kernel_rfl⟩
theorem en32 : Own_ Tryd.prog 32 := ⟨_, Tryd.func32, by kernel_rfl, by kernel_rfl⟩
theorem en33 : Own_ Tryd.prog 33 := ⟨_, Tryd.func33, by kernel_rfl, by kernel_rfl⟩
theorem en34 : Own_ Tryd.prog 34 := ⟨_, Tryd.func34, by kernel_rfl, by kernel_rfl⟩
theorem en35 : Own_ Tryd.prog 35 := ⟨_, Tryd.func35, by kernel_rfl, by kernel_rfl⟩
theorem en36 : Own_ Tryd.prog 36 := ⟨_, Tryd.func36, by kernel_rfl, by kernel_rfl⟩
theorem en37 : Own_ Tryd.prog 37 := ⟨_, Tryd.func37, by kernel_rfl, by kernel_rfl⟩
theorem en38 : Own_ Tryd.prog 38 := ⟨_, Tryd.func38, by kernel_rfl, by kernel_rfl⟩
theorem en39 : Own_ Tryd.prog 39 := ⟨_, Tryd.func39, by kernel_rfl, by kernel_rfl⟩
theorem en40 : Own_ Tryd.prog 40 := ⟨_, Tryd.func40, by kernel_rfl, by kernel_rfl⟩
theorem en41 : Own_ Tryd.prog 41 := ⟨_, Tryd.func41, by kernel_rfl, by kernel_rfl⟩
theorem en42 : Own_ Tryd.prog 42 := ⟨_, Tryd.func42, by kernel_rfl, by kernel_rfl⟩
theorem en43 : Own_ Tryd.prog 43 := ⟨_, Tryd.func43, by kernel_rfl, by kernel_rfl⟩
theorem en44 : Own_ Tryd.prog 44 := ⟨_, Tryd.func44, by kernel_rfl, by kernel_rfl⟩
theorem en45 : Own_ Tryd.prog 45 := ⟨_, Tryd.func45, by kernel_rfl, by kernel_rfl⟩
theorem en46 : Own_ Tryd.prog 46 := ⟨_, Tryd.func46, by kernel_rfl, by kernel_rfl⟩
theorem en47 : Own_ Tryd.prog 47 := ⟨_, Tryd.func47, by kernel_rfl, by kernel_rfl⟩
theorem en48 : Own_ Tryd.prog 48 := ⟨_, Tryd.func48, by kernel_rfl, by kernel_rfl⟩
theorem en49 : Own_ Tryd.prog 49 := ⟨_, Tryd.func49, by kernel_rfl, by kernel_rfl⟩
theorem en50 : Own_ Tryd.prog 50 := ⟨_, Tryd.func50, by kernel_rfl, by kernel_rfl⟩
theorem en51 : Own_ Tryd.prog 51 := ⟨_, Tryd.func51, by kernel_rfl, by kernel_rfl⟩
theorem en52 : Own_ Tryd.prog 52 := ⟨_, Tryd.func52, by kernel_rfl, by kernel_rfl⟩
theorem en53 : Own_ Tryd.prog 53 := ⟨_, Tryd.func53, by kernel_rfl, by kernel_rfl⟩
theorem en54 : Own_ Tryd.prog 54 := ⟨_, Tryd.func54, by kernel_rfl, by kernel_rfl⟩
theorem en55 : Own_ Tryd.prog 55 := ⟨_, Tryd.func55, by kernel_rfl, by kernel_rfl⟩
theorem en56 : Own_ Tryd.prog 56 := ⟨_, Tryd.func56, by kernel_rfl, by kernel_rfl⟩
theorem en57 : Own_ Tryd.prog 57 := ⟨_, Tryd.func57, by kernel_rfl, by kernel_rfl⟩
theorem en58 : Own_ Tryd.prog 58 := ⟨_, Tryd.func58, by kernel_rfl, by kernel_rfl⟩
theorem en59 : Own_ Tryd.prog 59 := ⟨_, Tryd.func59, by kernel_rfl, by kernel_rfl⟩
theorem en60 : Own_ Tryd.prog 60 := ⟨_, Tryd.func60, by kernel_rfl, by kernel_rfl⟩
theorem en62 : Own_ Tryd.prog 62 := ⟨_, Tryd.func62, by kernel_rfl, by kernel_rfl⟩
theorem en63 : Own_ Tryd.prog 63 := ⟨_, Tryd.func63, by kernel_rfl, by kernel_rfl⟩
theorem en64 : Own_ Tryd.prog 64 := ⟨_, Tryd.func64, by kernel_rfl, by kernel_rfl⟩
theorem en65 : Own_ Tryd.prog 65 := ⟨_, Tryd.func65, by kernel_rfl, by kernel_rfl⟩
theorem en66 : Own_ Tryd.prog 66 := ⟨_, Tryd.func66, by kernel_rfl, by kernel_rfl⟩
theorem en67 : Own_ Tryd.prog 67 := ⟨_, Tryd.func67, by kernel_rfl, by kernel_rfl⟩
theorem en68 : Own_ Tryd.prog 68 := ⟨_, Tryd.func68, by kernel_rfl, by kernel_rfl⟩
theorem en69 : Own_ Tryd.prog 69 := ⟨_, Tryd.func69, by kernel_rfl, by kernel_rfl⟩
theorem en70 : Own_ Tryd.prog 70 := ⟨_, Tryd.func70, by kernel_rfl, by kernel_rfl⟩
theorem en71 : Own_ Tryd.prog 71 := ⟨_, Tryd.func71, by kernel_rfl, by kernel_rfl⟩
theorem en72 : Own_ Tryd.prog 72 := ⟨_, Tryd.func72, by kernel_rfl, by kernel_rfl⟩
theorem en73 : Own_ Tryd.prog 73 := ⟨_, Tryd.func73, by kernel_rfl, by kernel_rfl⟩
theorem en74 : Own_ Tryd.prog 74 := ⟨_, Tryd.func74, by kernel_rfl, by kernel_rfl⟩
theorem en75 : Own_ Tryd.prog 75 := ⟨_, Tryd.func75, by kernel_rfl, by kernel_rfl⟩
theorem en76 : Own_ Tryd.prog 76 := ⟨_, Tryd.func76, by kernel_rfl, by kernel_rfl⟩
theorem en77 : Own_ Tryd.prog 77 := ⟨_, Tryd.func77, by kernel_rfl, by kernel_rfl⟩
theorem en78 : Own_ Tryd.prog 78 := ⟨_, Tryd.func78, by kernel_rfl, by kernel_rfl⟩
theorem en79 : Own_ Tryd.prog 79 := ⟨_, Tryd.func79, by kernel_rfl, by kernel_rfl⟩
theorem en80 : Own_ Tryd.prog 80 := ⟨_, Tryd.func80, by kernel_rfl, by kernel_rfl⟩
theorem en81 : Own_ Tryd.prog 81 := ⟨_, Tryd.func81, by kernel_rfl, by kernel_rfl⟩
theorem en82 : Own_ Tryd.prog 82 := ⟨_, Tryd.func82, by kernel_rfl, by kernel_rfl⟩
theorem en83 : Own_ Tryd.prog 83 := ⟨_, Tryd.func83, by kernel_rfl, by kernel_rfl⟩
theorem en84 : Own_ Tryd.prog 84 := ⟨_, Tryd.func84, by kernel_rfl, by kernel_rfl⟩
theorem en85 : Own_ Tryd.prog 85 := ⟨_, Tryd.func85, by kernel_rfl, by kernel_rfl⟩
theorem en86 : Own_ Tryd.prog 86 := ⟨_, Tryd.func86, by kernel_rfl, by kernel_rfl⟩
theorem en87 : Own_ Tryd.prog 87 := ⟨_, Tryd.func87, by kernel_rfl, by kernel_rfl⟩
theorem en88 : Own_ Tryd.prog 88 := ⟨_, Tryd.func88, by kernel_rfl, by kernel_rfl⟩
theorem en89 : Own_ Tryd.prog 89 := ⟨_, Tryd.func89, by kernel_rfl, by kernel_rfl⟩
theorem en90 : Own_ Tryd.prog 90 := ⟨_, Tryd.func90, by kernel_rfl, by kernel_rfl⟩
theorem en91 : Own_ Tryd.prog 91 := ⟨_, Tryd.func91, by kernel_rfl, by kernel_rfl⟩
theorem en92 : Own_ Tryd.prog 92 := ⟨_, Tryd.func92, by kernel_rfl, by kernel_rfl⟩
theorem en93 : Own_ Tryd.prog 93 := ⟨_, Tryd.func93, by kernel_rfl, by kernel_rfl⟩
theorem en94 : Own_ Tryd.prog 94 := ⟨_, Tryd.func94, by kernel_rfl, by kernel_rfl⟩
theorem en95 : Own_ Tryd.prog 95 := ⟨_, Tryd.func95, by kernel_rfl, by kernel_rfl⟩
theorem en122 : Own_ Tryd.prog 122 := ⟨_, Tryd.func122, by kernel_rfl, by kernel_rfl⟩
theorem mixed : Tryd.prog.follows .mixedOrders = true := by kernel_rfl
end Go.Proofs.YteggjfmcpodepaaDoor
