/- The program's tables: sizes, zero values, names. -/
import Derived.Test.YtjopikfkgjbcgaaDoorProg
import Derived.Test.YtjopikfkgjbcgaaDoorOps
import Derived.Test.YtjopikfkgjbcgaaDoorStrs
import Derived.Test.YtjopikfkgjbcgaaDoorBase
import Derived.KernelRfl
namespace Go.Proofs.YtjopikfkgjbcgaaDoor
set_option linter.unnecessarySimpa false
set_option linter.unusedSimpArgs false
set_option linter.unusedVariables false
theorem mixed : Tryd.prog.follows .mixedOrders = true := by kernel_rfl
theorem sz3 : (Tryd.prog.info? 3).map (·.size) = some 1 := by kernel_rfl
theorem sz4 : (Tryd.prog.info? 4).map (·.size) = some 1 := by kernel_rfl
theorem sz5 : (Tryd.prog.info? 5).map (·.size) = some 1 := by kernel_rfl
theorem sz9 : (Tryd.prog.info? 9).map (·.size) = some 1 := by kernel_rfl
theorem sz22 : (Tryd.prog.info? 22).map (·.size) = some 1 := by kernel_rfl
theorem sz37 : (Tryd.prog.info? 37).map (·.size) = some 4 := by kernel_rfl
theorem bd2 : Tryd.f2.body.isNone = false := by kernel_rfl
theorem nm2 : (Tryd.f2.name == "runtime.NumGoroutine") = false := by kernel_rfl
theorem bd3 : Tryd.f3.body.isNone = false := by kernel_rfl
theorem nm3 : (Tryd.f3.name == "runtime.NumGoroutine") = false := by kernel_rfl
theorem bd4 : Tryd.f4.body.isNone = false := by kernel_rfl
theorem nm4 : (Tryd.f4.name == "runtime.NumGoroutine") = false := by kernel_rfl
theorem bd5 : Tryd.f5.body.isNone = false := by kernel_rfl
theorem nm5 : (Tryd.f5.name == "runtime.NumGoroutine") = false := by kernel_rfl
theorem bd6 : Tryd.f6.body.isNone = false := by kernel_rfl
theorem nm6 : (Tryd.f6.name == "runtime.NumGoroutine") = false := by kernel_rfl
theorem bd7 : Tryd.f7.body.isNone = false := by kernel_rfl
theorem nm7 : (Tryd.f7.name == "runtime.NumGoroutine") = false := by kernel_rfl
theorem bd8 : Tryd.f8.body.isNone = false := by kernel_rfl
theorem nm8 : (Tryd.f8.name == "runtime.NumGoroutine") = false := by kernel_rfl
theorem bd9 : Tryd.f9.body.isNone = false := by kernel_rfl
theorem nm9 : (Tryd.f9.name == "runtime.NumGoroutine") = false := by kernel_rfl
theorem bd10 : Tryd.f10.body.isNone = false := by kernel_rfl
theorem nm10 : (Tryd.f10.name == "runtime.NumGoroutine") = false := by kernel_rfl
theorem bd11 : Tryd.f11.body.isNone = false := by kernel_rfl
theorem nm11 : (Tryd.f11.name == "runtime.NumGoroutine") = false := by kernel_rfl
theorem bd12 : Tryd.f12.body.isNone = false := by kernel_rfl
theorem nm12 : (Tryd.f12.name == "runtime.NumGoroutine") = false := by kernel_rfl
theorem bd13 : Tryd.f13.body.isNone = false := by kernel_rfl
theorem nm13 : (Tryd.f13.name == "runtime.NumGoroutine") = false := by kernel_rfl
theorem bd14 : Tryd.f14.body.isNone = false := by kernel_rfl
theorem nm14 : (Tryd.f14.name == "runtime.NumGoroutine") = false := by kernel_rfl
theorem bd15 : Tryd.f15.body.isNone = false := by kernel_rfl
theorem nm15 : (Tryd.f15.name == "runtime.NumGoroutine") = false := by kernel_rfl
theorem bd16 : Tryd.f16.body.isNone = false := by kernel_rfl
theorem nm16 : (Tryd.f16.name == "runtime.NumGoroutine") = false := by kernel_rfl
theorem bd17 : Tryd.f17.body.isNone = false := by kernel_rfl
theorem nm17 : (Tryd.f17.name == "runtime.NumGoroutine") = false := by kernel_rfl
theorem bd18 : Tryd.f18.body.isNone = false := by kernel_rfl
theorem nm18 : (Tryd.f18.name == "runtime.NumGoroutine") = false := by kernel_rfl
theorem bd19 : Tryd.f19.body.isNone = false := by kernel_rfl
theorem nm19 : (Tryd.f19.name == "runtime.NumGoroutine") = false := by kernel_rfl
theorem bd20 : Tryd.f20.body.isNone = false := by kernel_rfl
theorem nm20 : (Tryd.f20.name == "runtime.NumGoroutine") = false := by kernel_rfl
theorem bd21 : Tryd.f21.body.isNone = false := by kernel_rfl
theorem nm21 : (Tryd.f21.name == "runtime.NumGoroutine") = false := by kernel_rfl
theorem bd22 : Tryd.f22.body.isNone = false := by kernel_rfl
theorem nm22 : (Tryd.f22.name == "runtime.NumGoroutine") = false := by kernel_rfl
theorem bd23 : Tryd.f23.body.isNone = false := by kernel_rfl
theorem nm23 : (Tryd.f23.name == "runtime.NumGoroutine") = false := by kernel_rfl
theorem bd24 : Tryd.f24.body.isNone = false := by kernel_rfl
theorem nm24 : (Tryd.f24.name == "runtime.NumGoroutine") = false := by kernel_rfl
theorem bd25 : Tryd.f25.body.isNone = false := by kernel_rfl
theorem nm25 : (Tryd.f25.name == "runtime.NumGoroutine") = false := by kernel_rfl
theorem bd26 : Tryd.f26.body.isNone = false := by kernel_rfl
theorem nm26 : (Tryd.f26.name == "runtime.NumGoroutine") = false := by kernel_rfl
theorem bd27 : Tryd.f27.body.isNone = false := by kernel_rfl
theorem nm27 : (Tryd.f27.name == "runtime.NumGoroutine") = false := by kernel_rfl
theorem bd28 : Tryd.f28.body.isNone = false := by kernel_rfl
theorem nm28 : (Tryd.f28.name == "runtime.NumGoroutine") = false := by kernel_rfl
theorem bd29 : Tryd.f29.body.isNone = false := by kernel_rfl
theorem nm29 : (Tryd.f29.name == "runtime.NumGoroutine") = false := by kernel_rfl
theorem bd30 : Tryd.f30.body.isNone = false := by kernel_rfl
theorem nm30 : (Tryd.f30.name == "runtime.NumGoroutine") = false := by kernel_rfl
theorem bd31 : Tryd.f31.body.isNone = false := by kernel_rfl
theorem nm31 : (Tryd.f31.name == "runtime.NumGoroutine") = false := by kernel_rfl
theorem bd32 : Tryd.f32.body.isNone = false := by kernel_rfl
theorem nm32 : (Tryd.f32.name == "runtime.NumGoroutine") = false := by kernel_rfl
theorem bd33 : Tryd.f33.body.isNone = false := by kernel_rfl
theorem nm33 : (Tryd.f33.name == "runtime.NumGoroutine") = false := by kernel_rfl
theorem bd34 : Tryd.f34.body.isNone = false := by kernel_rfl
theorem nm34 : (Tryd.f34.name == "runtime.NumGoroutine") = false := by kernel_rfl
theorem bd35 : Tryd.f35.body.isNone = false := by kernel_rfl
theorem nm35 : (Tryd.f35.name == "runtime.NumGoroutine") = false := by kernel_rfl
theorem bd36 : Tryd.f36.body.isNone = false := by kernel_rfl
theorem nm36 : (Tryd.f36.name == "runtime.NumGoroutine") = false := by kernel_rfl
theorem bd37 : Tryd.f37.body.isNone = false := by kernel_rfl
theorem nm37 : (Tryd.f37.name == "runtime.NumGoroutine") = false := by kernel_rfl
theorem bd38 : Tryd.f38.body.isNone = false := by kernel_rfl
theorem nm38 : (Tryd.f38.name == "runtime.NumGoroutine") = false := by kernel_rfl
theorem bd39 : Tryd.f39.body.isNone = false := by kernel_rfl
theorem nm39 : (Tryd.f39.name == "runtime.NumGoroutine") = false := by kernel_rfl
theorem bd40 : Tryd.f40.body.isNone = false := by kernel_rfl
theorem nm40 : (Tryd.f40.name == "runtime.NumGoroutine") = false := by kernel_rfl
theorem bd41 : Tryd.f41.body.isNone = false := by kernel_rfl
theorem nm41 : (Tryd.f41.name == "runtime.NumGoroutine") = false := by kernel_rfl
theorem bd42 : Tryd.f42.body.isNone = false := by kernel_rfl
theorem nm42 : (Tryd.f42.name == "runtime.NumGoroutine") = false := by kernel_rfl
theorem bd43 : Tryd.f43.body.isNone = false := by kernel_rfl
theorem nm43 : (Tryd.f43.name == "runtime.NumGoroutine") = false := by kernel_rfl
theorem bd44 : Tryd.f44.body.isNone = false := by kernel_rfl
theorem nm44 : (Tryd.f44.name == "runtime.NumGoroutine") = false := by kernel_rfl
theorem bd45 : Tryd.f45.body.isNone = false := by kernel_rfl
theorem nm45 : (Tryd.f45.name == "runtime.NumGoroutine") = false := by kernel_rfl
theorem bd46 : Tryd.f46.body.isNone = false := by kernel_rfl
theorem nm46 : (Tryd.f46.name == "runtime.NumGoroutine") = false := by kernel_rfl
theorem bd47 : Tryd.f47.body.isNone = false := by kernel_rfl
theorem nm47 : (Tryd.f47.name == "runtime.NumGoroutine") = false := by kernel_rfl
theorem bd48 : Tryd.f48.body.isNone = false := by kernel_rfl
theorem nm48 : (Tryd.f48.name == "runtime.NumGoroutine") = false := by kernel_rfl
theorem bd49 : Tryd.f49.body.isNone = false := by kernel_rfl
theorem nm49 : (Tryd.f49.name == "runtime.NumGoroutine") = false := by kernel_rfl
theorem bd50 : Tryd.f50.body.isNone = false := by kernel_rfl
theorem nm50 : (Tryd.f50.name == "runtime.NumGoroutine") = false := by kernel_rfl
theorem bd51 : Tryd.f51.body.isNone = false := by kernel_rfl
theorem nm51 : (Tryd.f51.name == "runtime.NumGoroutine") = false := by kernel_rfl
theorem bd52 : Tryd.f52.body.isNone = false := by kernel_rfl
theorem nm52 : (Tryd.f52.name == "runtime.NumGoroutine") = false := by kernel_rfl
theorem bd53 : Tryd.f53.body.isNone = false := by kernel_rfl
theorem nm53 : (Tryd.f53.name == "runtime.NumGoroutine") = false := by kernel_rfl
theorem bd54 : Tryd.f54.body.isNone = false := by kernel_rfl
theorem nm54 : (Tryd.f54.name == "runtime.NumGoroutine") = false := by kernel_rfl
theorem bd55 : Tryd.f55.body.isNone = false := by kernel_rfl
theorem nm55 : (Tryd.f55.name == "runtime.NumGoroutine") = false := by kernel_rfl
theorem bd56 : Tryd.f56.body.isNone = false := by kernel_rfl
theorem nm56 : (Tryd.f56.name == "runtime.NumGoroutine") = false := by kernel_rfl
theorem bd57 : Tryd.f57.body.isNone = false := by kernel_rfl
theorem nm57 : (Tryd.f57.name == "runtime.NumGoroutine") = false := by kernel_rfl
theorem bd58 : Tryd.f58.body.isNone = false := by kernel_rfl
theorem nm58 : (Tryd.f58.name == "runtime.NumGoroutine") = false := by kernel_rfl
theorem bd59 : Tryd.f59.body.isNone = false := by kernel_rfl
theorem nm59 : (Tryd.f59.name == "runtime.NumGoroutine") = false := by kernel_rfl
theorem bd60 : Tryd.f60.body.isNone = false := by kernel_rfl
theorem nm60 : (Tryd.f60.name == "runtime.NumGoroutine") = false := by kernel_rfl
theorem bd61 : Tryd.f61.body.isNone = false := by kernel_rfl
theorem nm61 : (Tryd.f61.name == "runtime.NumGoroutine") = false := by kernel_rfl
theorem bd62 : Tryd.f62.body.isNone = false := by kernel_rfl
theorem nm62 : (Tryd.f62.name == "runtime.NumGoroutine") = false := by kernel_rfl
theorem bd63 : Tryd.f63.body.isNone = false := by kernel_rfl
theorem nm63 : (Tryd.f63.name == "runtime.NumGoroutine") = false := by kernel_rfl
theorem bd64 : Tryd.f64.body.isNone = false := by kernel_rfl
theorem nm64 : (Tryd.f64.name == "runtime.NumGoroutine") = false := by kernel_rfl
theorem bd65 : Tryd.f65.body.isNone = false := by kernel_rfl
theorem nm65 : (Tryd.f65.name == "runtime.NumGoroutine") = false := by kernel_rfl
theorem bd66 : Tryd.f66.body.isNone = false := by kernel_rfl
theorem nm66 : (Tryd.f66.name == "runtime.NumGoroutine") = false := by kernel_rfl
theorem bd67 : Tryd.f67.body.isNone = false := by kernel_rfl
theorem nm67 : (Tryd.f67.name == "runtime.NumGoroutine") = false := by kernel_rfl
theorem bd68 : Tryd.f68.body.isNone = false := by kernel_rfl
theorem nm68 : (Tryd.f68.name == "runtime.NumGoroutine") = false := by kernel_rfl
theorem bd69 : Tryd.f69.body.isNone = false := by kernel_rfl
theorem nm69 : (Tryd.f69.name == "runtime.NumGoroutine") = false := by kernel_rfl
theorem bd70 : Tryd.f70.body.isNone = false := by kernel_rfl
theorem nm70 : (Tryd.f70.name == "runtime.NumGoroutine") = false := by kernel_rfl
theorem bd71 : Tryd.f71.body.isNone = false := by kernel_rfl
theorem nm71 : (Tryd.f71.name == "runtime.NumGoroutine") = false := by kernel_rfl
theorem bd72 : Tryd.f72.body.isNone = false := by kernel_rfl
theorem nm72 : (Tryd.f72.name == "runtime.NumGoroutine") = false := by kernel_rfl
theorem bd73 : Tryd.f73.body.isNone = false := by kernel_rfl
theorem nm73 : (Tryd.f73.name == "runtime.NumGoroutine") = false := by kernel_rfl
theorem bd74 : Tryd.f74.body.isNone = false := by kernel_rfl
theorem nm74 : (Tryd.f74.name == "runtime.NumGoroutine") = false := by kernel_rfl
theorem bd75 : Tryd.f75.body.isNone = false := by kernel_rfl
theorem nm75 : (Tryd.f75.name == "runtime.NumGoroutine") = false := by kernel_rfl
theorem bd76 : Tryd.f76.body.isNone = false := by kernel_rfl
theorem nm76 : (Tryd.f76.name == "runtime.NumGoroutine") = false := by kernel_rfl
theorem bd77 : Tryd.f77.body.isNone = false := by kernel_rfl
theorem nm77 : (Tryd.f77.name == "runtime.NumGoroutine") = false := by kernel_rfl
theorem bd78 : Tryd.f78.body.isNone = false := by kernel_rfl
theorem nm78 : (Tryd.f78.name == "runtime.NumGoroutine") = false := by kernel_rfl
theorem bd79 : Tryd.f79.body.isNone = false := by kernel_rfl
theorem nm79 : (Tryd.f79.name == "runtime.NumGoroutine") = false := by kernel_rfl
theorem bd80 : Tryd.f80.body.isNone = false := by kernel_rfl
theorem nm80 : (Tryd.f80.name == "runtime.NumGoroutine") = false := by kernel_rfl
theorem bd83 : Tryd.f83.body.isNone = false := by kernel_rfl
theorem nm83 : (Tryd.f83.name == "runtime.NumGoroutine") = false := by kernel_rfl
theorem bd84 : Tryd.f84.body.isNone = false := by kernel_rfl
theorem nm84 : (Tryd.f84.name == "runtime.NumGoroutine") = false := by kernel_rfl
theorem bd85 : Tryd.f85.body.isNone = false := by kernel_rfl
theorem nm85 : (Tryd.f85.name == "runtime.NumGoroutine") = false := by kernel_rfl
theorem bd86 : Tryd.f86.body.isNone = false := by kernel_rfl
theorem nm86 : (Tryd.f86.name == "runtime.NumGoroutine") = false := by kernel_rfl
theorem bd87 : Tryd.f87.body.isNone = false := by kernel_rfl
theorem nm87 : (Tryd.f87.name == "runtime.NumGoroutine") = false := by kernel_rfl
theorem bd88 : Tryd.f88.body.isNone = false := by kernel_rfl
theorem nm88 : (Tryd.f88.name == "runtime.NumGoroutine") = false := by kernel_rfl
theorem bd89 : Tryd.f89.body.isNone = false := by kernel_rfl
theorem nm89 : (Tryd.f89.name == "runtime.NumGoroutine") = false := by kernel_rfl
theorem bd90 : Tryd.f90.body.isNone = false := by kernel_rfl
theorem nm90 : (Tryd.f90.name == "runtime.NumGoroutine") = false := by kernel_rfl
theorem bd91 : Tryd.f91.body.isNone = false := by kernel_rfl
theorem nm91 : (Tryd.f91.name == "runtime.NumGoroutine") = false := by kernel_rfl
theorem bd92 : Tryd.f92.body.isNone = false := by kernel_rfl
theorem nm92 : (Tryd.f92.name == "runtime.NumGoroutine") = false := by kernel_rfl
theorem bd93 : Tryd.f93.body.isNone = false := by kernel_rfl
theorem nm93 : (Tryd.f93.name == "runtime.NumGoroutine") = false := by kernel_rfl
theorem bd94 : Tryd.f94.body.isNone = false := by kernel_rfl
theorem nm94 : (Tryd.f94.name == "runtime.NumGoroutine") = false := by kernel_rfl
theorem bd95 : Tryd.f95.body.isNone = false := by kernel_rfl
theorem nm95 : (Tryd.f95.name == "runtime.NumGoroutine") = false := by kernel_rfl
theorem bd96 : Tryd.f96.body.isNone = false := by kernel_rfl
theorem nm96 : (Tryd.f96.name == "runtime.NumGoroutine") = false := by kernel_rfl
theorem bd97 : Tryd.f97.body.isNone = false := by kernel_rfl
theorem nm97 : (Tryd.f97.name == "runtime.NumGoroutine") = false := by kernel_rfl
theorem bd98 : Tryd.f98.body.isNone = false := by kernel_rfl
theorem nm98 : (Tryd.f98.name == "runtime.NumGoroutine") = false := by kernel_rfl
theorem bd99 : Tryd.f99.body.isNone = false := by kernel_rfl
theorem nm99 : (Tryd.f99.name == "runtime.NumGoroutine") = false := by kernel_rfl
theorem bd100 : Tryd.f100.body.isNone = false := by kernel_rfl
theorem nm100 : (Tryd.f100.name == "runtime.NumGoroutine") = false := by kernel_rfl
theorem bd101 : Tryd.f101.body.isNone = false := by kernel_rfl
theorem nm101 : (Tryd.f101.name == "runtime.NumGoroutine") = false := by kernel_rfl
theorem bd102 : Tryd.f102.body.isNone = false := by kernel_rfl
theorem nm102 : (Tryd.f102.name == "runtime.NumGoroutine") = false := by kernel_rfl
theorem bd104 : Tryd.f104.body.isNone = false := by kernel_rfl
theorem nm104 : (Tryd.f104.name == "runtime.NumGoroutine") = false := by kernel_rfl
theorem bd130 : Tryd.f130.body.isNone = false := by kernel_rfl
theorem nm130 : (Tryd.f130.name == "runtime.NumGoroutine") = false := by kernel_rfl
end Go.Proofs.YtjopikfkgjbcgaaDoor
