/- The program's tables: sizes, zero values, names. -/
import Derived.Test.YtbfmkjfpialihaaProg
import Derived.Test.YtbfmkjfpialihaaOps
import Derived.Test.YtbfmkjfpialihaaStrs
import Derived.Test.YtbfmkjfpialihaaBase
import Derived.KernelRfl
namespace Go.Proofs.Ytbfmkjfpialihaa
set_option linter.unnecessarySimpa false
set_option linter.unusedSimpArgs false
set_option linter.unusedVariables false
theorem mixed : Try.prog.follows .mixedOrders = true := by kernel_rfl
theorem sz3 : (Try.prog.info? 3).map (·.size) = some 1 := by kernel_rfl
theorem sz4 : (Try.prog.info? 4).map (·.size) = some 1 := by kernel_rfl
theorem sz5 : (Try.prog.info? 5).map (·.size) = some 1 := by kernel_rfl
theorem sz22 : (Try.prog.info? 22).map (·.size) = some 1 := by kernel_rfl
theorem sz25 : (Try.prog.info? 25).map (·.size) = some 32 := by kernel_rfl
theorem sz45 : (Try.prog.info? 45).map (·.size) = some 1 := by kernel_rfl
theorem sz46 : (Try.prog.info? 46).map (·.size) = some 64 := by kernel_rfl
theorem sz47 : (Try.prog.info? 47).map (·.size) = some 8 := by kernel_rfl
theorem sz51 : (Try.prog.info? 51).map (·.size) = some 64 := by kernel_rfl
theorem sz53 : (Try.prog.info? 53).map (·.size) = some 73 := by kernel_rfl
theorem sz55 : (Try.prog.info? 55).map (·.size) = some 8 := by kernel_rfl
theorem zr25 : (Try.prog.info? 25).map (·.zero) = some (some (.agg ((List.replicate 32 (0 : UInt8)).map B8).toArray)) := by kernel_rfl
theorem zr46 : (Try.prog.info? 46).map (·.zero) = some (some (.agg ((List.replicate 64 (0 : BitVec 32)).map W32).toArray)) := by kernel_rfl
theorem zr47 : (Try.prog.info? 47).map (·.zero) = some (some (.agg ((List.replicate 8 (0 : BitVec 32)).map W32).toArray)) := by kernel_rfl
theorem zr53 : (Try.prog.info? 53).map (·.zero) = some (some (.agg ((List.replicate 8 (0 : BitVec 32)).map W32 ++ (List.replicate 64 (0 : UInt8)).map B8 ++ [I64 0]).toArray)) := by kernel_rfl
theorem zr55 : (Try.prog.info? 55).map (·.zero) = some (some (.agg ((List.replicate 8 (0 : UInt8)).map B8).toArray)) := by kernel_rfl
theorem eg25 : Try.prog.eqGuardType Try.prog.depth 25 = false := by kernel_rfl
theorem in5 : (Try.prog.info? 5).map (fun i => (i.zero, i.size, i.bytes)) = some (some (.int .u8 0), 1, 1) := by kernel_rfl
theorem sz9 : (Try.prog.info? 9).map (·.size) = some 1 := by kernel_rfl
theorem nx43 : (Try.f43.name == "runtime.NumGoroutine") = false := by kernel_rfl
theorem bx43 : Try.f43.body.isNone = true := by kernel_rfl
theorem ex43 : Extern.findNext Try.f43 = none := by kernel_rfl
theorem fx43 : Extern.find Try.f43 = some Extern.BytealgIndexByte.indexByte := by kernel_rfl
theorem bd2 : Try.f2.body.isNone = false := by kernel_rfl
theorem nm2 : (Try.f2.name == "runtime.NumGoroutine") = false := by kernel_rfl
theorem bd3 : Try.f3.body.isNone = false := by kernel_rfl
theorem nm3 : (Try.f3.name == "runtime.NumGoroutine") = false := by kernel_rfl
theorem bd4 : Try.f4.body.isNone = false := by kernel_rfl
theorem nm4 : (Try.f4.name == "runtime.NumGoroutine") = false := by kernel_rfl
theorem bd5 : Try.f5.body.isNone = false := by kernel_rfl
theorem nm5 : (Try.f5.name == "runtime.NumGoroutine") = false := by kernel_rfl
theorem bd6 : Try.f6.body.isNone = false := by kernel_rfl
theorem nm6 : (Try.f6.name == "runtime.NumGoroutine") = false := by kernel_rfl
theorem bd7 : Try.f7.body.isNone = false := by kernel_rfl
theorem nm7 : (Try.f7.name == "runtime.NumGoroutine") = false := by kernel_rfl
theorem bd8 : Try.f8.body.isNone = false := by kernel_rfl
theorem nm8 : (Try.f8.name == "runtime.NumGoroutine") = false := by kernel_rfl
theorem bd9 : Try.f9.body.isNone = false := by kernel_rfl
theorem nm9 : (Try.f9.name == "runtime.NumGoroutine") = false := by kernel_rfl
theorem bd10 : Try.f10.body.isNone = false := by kernel_rfl
theorem nm10 : (Try.f10.name == "runtime.NumGoroutine") = false := by kernel_rfl
theorem bd11 : Try.f11.body.isNone = false := by kernel_rfl
theorem nm11 : (Try.f11.name == "runtime.NumGoroutine") = false := by kernel_rfl
theorem bd12 : Try.f12.body.isNone = false := by kernel_rfl
theorem nm12 : (Try.f12.name == "runtime.NumGoroutine") = false := by kernel_rfl
theorem bd13 : Try.f13.body.isNone = false := by kernel_rfl
theorem nm13 : (Try.f13.name == "runtime.NumGoroutine") = false := by kernel_rfl
theorem bd14 : Try.f14.body.isNone = false := by kernel_rfl
theorem nm14 : (Try.f14.name == "runtime.NumGoroutine") = false := by kernel_rfl
theorem bd15 : Try.f15.body.isNone = false := by kernel_rfl
theorem nm15 : (Try.f15.name == "runtime.NumGoroutine") = false := by kernel_rfl
theorem bd16 : Try.f16.body.isNone = false := by kernel_rfl
theorem nm16 : (Try.f16.name == "runtime.NumGoroutine") = false := by kernel_rfl
theorem bd17 : Try.f17.body.isNone = false := by kernel_rfl
theorem nm17 : (Try.f17.name == "runtime.NumGoroutine") = false := by kernel_rfl
theorem bd18 : Try.f18.body.isNone = false := by kernel_rfl
theorem nm18 : (Try.f18.name == "runtime.NumGoroutine") = false := by kernel_rfl
theorem bd19 : Try.f19.body.isNone = false := by kernel_rfl
theorem nm19 : (Try.f19.name == "runtime.NumGoroutine") = false := by kernel_rfl
theorem bd20 : Try.f20.body.isNone = false := by kernel_rfl
theorem nm20 : (Try.f20.name == "runtime.NumGoroutine") = false := by kernel_rfl
theorem bd21 : Try.f21.body.isNone = false := by kernel_rfl
theorem nm21 : (Try.f21.name == "runtime.NumGoroutine") = false := by kernel_rfl
theorem bd22 : Try.f22.body.isNone = false := by kernel_rfl
theorem nm22 : (Try.f22.name == "runtime.NumGoroutine") = false := by kernel_rfl
theorem bd23 : Try.f23.body.isNone = false := by kernel_rfl
theorem nm23 : (Try.f23.name == "runtime.NumGoroutine") = false := by kernel_rfl
theorem bd24 : Try.f24.body.isNone = false := by kernel_rfl
theorem nm24 : (Try.f24.name == "runtime.NumGoroutine") = false := by kernel_rfl
theorem bd25 : Try.f25.body.isNone = false := by kernel_rfl
theorem nm25 : (Try.f25.name == "runtime.NumGoroutine") = false := by kernel_rfl
theorem bd26 : Try.f26.body.isNone = false := by kernel_rfl
theorem nm26 : (Try.f26.name == "runtime.NumGoroutine") = false := by kernel_rfl
theorem bd27 : Try.f27.body.isNone = false := by kernel_rfl
theorem nm27 : (Try.f27.name == "runtime.NumGoroutine") = false := by kernel_rfl
theorem bd28 : Try.f28.body.isNone = false := by kernel_rfl
theorem nm28 : (Try.f28.name == "runtime.NumGoroutine") = false := by kernel_rfl
theorem bd29 : Try.f29.body.isNone = false := by kernel_rfl
theorem nm29 : (Try.f29.name == "runtime.NumGoroutine") = false := by kernel_rfl
theorem bd30 : Try.f30.body.isNone = false := by kernel_rfl
theorem nm30 : (Try.f30.name == "runtime.NumGoroutine") = false := by kernel_rfl
theorem bd31 : Try.f31.body.isNone = false := by kernel_rfl
theorem nm31 : (Try.f31.name == "runtime.NumGoroutine") = false := by kernel_rfl
theorem bd32 : Try.f32.body.isNone = false := by kernel_rfl
theorem nm32 : (Try.f32.name == "runtime.NumGoroutine") = false := by kernel_rfl
theorem bd33 : Try.f33.body.isNone = false := by kernel_rfl
theorem nm33 : (Try.f33.name == "runtime.NumGoroutine") = false := by kernel_rfl
theorem bd34 : Try.f34.body.isNone = false := by kernel_rfl
theorem nm34 : (Try.f34.name == "runtime.NumGoroutine") = false := by kernel_rfl
theorem bd35 : Try.f35.body.isNone = false := by kernel_rfl
theorem nm35 : (Try.f35.name == "runtime.NumGoroutine") = false := by kernel_rfl
theorem bd36 : Try.f36.body.isNone = false := by kernel_rfl
theorem nm36 : (Try.f36.name == "runtime.NumGoroutine") = false := by kernel_rfl
theorem bd37 : Try.f37.body.isNone = false := by kernel_rfl
theorem nm37 : (Try.f37.name == "runtime.NumGoroutine") = false := by kernel_rfl
theorem bd38 : Try.f38.body.isNone = false := by kernel_rfl
theorem nm38 : (Try.f38.name == "runtime.NumGoroutine") = false := by kernel_rfl
theorem bd39 : Try.f39.body.isNone = false := by kernel_rfl
theorem nm39 : (Try.f39.name == "runtime.NumGoroutine") = false := by kernel_rfl
theorem bd40 : Try.f40.body.isNone = false := by kernel_rfl
theorem nm40 : (Try.f40.name == "runtime.NumGoroutine") = false := by kernel_rfl
theorem bd41 : Try.f41.body.isNone = false := by kernel_rfl
theorem nm41 : (Try.f41.name == "runtime.NumGoroutine") = false := by kernel_rfl
theorem bd42 : Try.f42.body.isNone = false := by kernel_rfl
theorem nm42 : (Try.f42.name == "runtime.NumGoroutine") = false := by kernel_rfl
theorem bd44 : Try.f44.body.isNone = false := by kernel_rfl
theorem nm44 : (Try.f44.name == "runtime.NumGoroutine") = false := by kernel_rfl
end Go.Proofs.Ytbfmkjfpialihaa
