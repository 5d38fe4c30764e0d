/- The program's tables: sizes, zero values, names. -/
import Derived.Test.YtklelhfgbjpifaaProg
import Derived.Test.YtklelhfgbjpifaaOps
import Derived.Test.YtklelhfgbjpifaaStrs
import Derived.Test.YtklelhfgbjpifaaBase
import Derived.KernelRfl
import Derived.WalkSpells
namespace Go.Proofs.Ytklelhfgbjpifaa
set_option linter.unnecessarySimpa false
set_option linter.unusedSimpArgs false
set_option linter.unusedVariables false
theorem mixed : Try.prog.follows .mixedOrders = true := by kernel_rfl
theorem sz3 : (Try.prog.info? 3).map (·.size) = some 1 := by kernel_rfl
theorem sz4 : (Try.prog.info? 4).map (·.size) = some 1 := by kernel_rfl
theorem sz5 : (Try.prog.info? 5).map (·.size) = some 1 := by kernel_rfl
theorem sz29 : (Try.prog.info? 29).map (·.size) = some 1 := by kernel_rfl
theorem sz31 : (Try.prog.info? 31).map (·.size) = some 32 := by kernel_rfl
theorem sz69 : (Try.prog.info? 69).map (·.size) = some 1 := by kernel_rfl
theorem sz70 : (Try.prog.info? 70).map (·.size) = some 64 := by kernel_rfl
theorem sz71 : (Try.prog.info? 71).map (·.size) = some 8 := by kernel_rfl
theorem sz99 : (Try.prog.info? 99).map (·.size) = some 64 := by kernel_rfl
theorem sz101 : (Try.prog.info? 101).map (·.size) = some 73 := by kernel_rfl
theorem sz102 : (Try.prog.info? 102).map (·.size) = some 8 := by kernel_rfl
theorem zr31 : (Try.prog.info? 31).map (·.zero) = some (some (.agg ((List.replicate 32 (0 : UInt8)).map B8).toArray)) := by kernel_rfl
theorem zr70 : (Try.prog.info? 70).map (·.zero) = some (some (.agg ((List.replicate 64 (0 : BitVec 32)).map W32).toArray)) := by kernel_rfl
theorem zr71 : (Try.prog.info? 71).map (·.zero) = some (some (.agg ((List.replicate 8 (0 : BitVec 32)).map W32).toArray)) := by kernel_rfl
theorem zr101 : (Try.prog.info? 101).map (·.zero) = some (some (.agg ((List.replicate 8 (0 : BitVec 32)).map W32 ++ (List.replicate 64 (0 : UInt8)).map B8 ++ [I64 0]).toArray)) := by kernel_rfl
theorem zr102 : (Try.prog.info? 102).map (·.zero) = some (some (.agg ((List.replicate 8 (0 : UInt8)).map B8).toArray)) := by kernel_rfl
theorem eg31 : Try.prog.eqGuardType Try.prog.depth 31 = false := by kernel_rfl
theorem in5 : (Try.prog.info? 5).map (fun i => (i.zero, i.size, i.bytes)) = some (some (.int .u8 0), 1, 1) := by kernel_rfl
theorem sz9 : (Try.prog.info? 9).map (·.size) = some 1 := by kernel_rfl
theorem bd2 : Try.f2.body.isNone = false := by kernel_rfl
theorem nm2 : (Try.f2.name == "runtime.NumGoroutine") = false := by kernel_rfl
theorem bd3 : Try.f3.body.isNone = false := by kernel_rfl
theorem nm3 : (Try.f3.name == "runtime.NumGoroutine") = false := by kernel_rfl
theorem bd4 : Try.f4.body.isNone = false := by kernel_rfl
theorem nm4 : (Try.f4.name == "runtime.NumGoroutine") = false := by kernel_rfl
theorem bd5 : Try.f5.body.isNone = false := by kernel_rfl
theorem nm5 : (Try.f5.name == "runtime.NumGoroutine") = false := by kernel_rfl
theorem bd6 : Try.f6.body.isNone = false := by kernel_rfl
theorem nm6 : (Try.f6.name == "runtime.NumGoroutine") = false := by kernel_rfl
theorem bd7 : Try.f7.body.isNone = false := by kernel_rfl
theorem nm7 : (Try.f7.name == "runtime.NumGoroutine") = false := by kernel_rfl
theorem bd8 : Try.f8.body.isNone = false := by kernel_rfl
theorem nm8 : (Try.f8.name == "runtime.NumGoroutine") = false := by kernel_rfl
theorem bd9 : Try.f9.body.isNone = false := by kernel_rfl
theorem nm9 : (Try.f9.name == "runtime.NumGoroutine") = false := by kernel_rfl
theorem bd10 : Try.f10.body.isNone = false := by kernel_rfl
theorem nm10 : (Try.f10.name == "runtime.NumGoroutine") = false := by kernel_rfl
theorem bd11 : Try.f11.body.isNone = false := by kernel_rfl
theorem nm11 : (Try.f11.name == "runtime.NumGoroutine") = false := by kernel_rfl
theorem bd12 : Try.f12.body.isNone = false := by kernel_rfl
theorem nm12 : (Try.f12.name == "runtime.NumGoroutine") = false := by kernel_rfl
theorem bd13 : Try.f13.body.isNone = false := by kernel_rfl
theorem nm13 : (Try.f13.name == "runtime.NumGoroutine") = false := by kernel_rfl
theorem bd14 : Try.f14.body.isNone = false := by kernel_rfl
theorem nm14 : (Try.f14.name == "runtime.NumGoroutine") = false := by kernel_rfl
theorem bd15 : Try.f15.body.isNone = false := by kernel_rfl
theorem nm15 : (Try.f15.name == "runtime.NumGoroutine") = false := by kernel_rfl
theorem bd16 : Try.f16.body.isNone = false := by kernel_rfl
theorem nm16 : (Try.f16.name == "runtime.NumGoroutine") = false := by kernel_rfl
theorem bd17 : Try.f17.body.isNone = false := by kernel_rfl
theorem nm17 : (Try.f17.name == "runtime.NumGoroutine") = false := by kernel_rfl
theorem bd18 : Try.f18.body.isNone = false := by kernel_rfl
theorem nm18 : (Try.f18.name == "runtime.NumGoroutine") = false := by kernel_rfl
theorem bd19 : Try.f19.body.isNone = false := by kernel_rfl
theorem nm19 : (Try.f19.name == "runtime.NumGoroutine") = false := by kernel_rfl
theorem bd20 : Try.f20.body.isNone = false := by kernel_rfl
theorem nm20 : (Try.f20.name == "runtime.NumGoroutine") = false := by kernel_rfl
theorem bd21 : Try.f21.body.isNone = false := by kernel_rfl
theorem nm21 : (Try.f21.name == "runtime.NumGoroutine") = false := by kernel_rfl
theorem bd22 : Try.f22.body.isNone = false := by kernel_rfl
theorem nm22 : (Try.f22.name == "runtime.NumGoroutine") = false := by kernel_rfl
theorem bd23 : Try.f23.body.isNone = false := by kernel_rfl
theorem nm23 : (Try.f23.name == "runtime.NumGoroutine") = false := by kernel_rfl
theorem bd24 : Try.f24.body.isNone = false := by kernel_rfl
theorem nm24 : (Try.f24.name == "runtime.NumGoroutine") = false := by kernel_rfl
theorem bd25 : Try.f25.body.isNone = false := by kernel_rfl
theorem nm25 : (Try.f25.name == "runtime.NumGoroutine") = false := by kernel_rfl
theorem bd26 : Try.f26.body.isNone = false := by kernel_rfl
theorem nm26 : (Try.f26.name == "runtime.NumGoroutine") = false := by kernel_rfl
theorem bd27 : Try.f27.body.isNone = false := by kernel_rfl
theorem nm27 : (Try.f27.name == "runtime.NumGoroutine") = false := by kernel_rfl
theorem bd28 : Try.f28.body.isNone = false := by kernel_rfl
theorem nm28 : (Try.f28.name == "runtime.NumGoroutine") = false := by kernel_rfl
theorem bd29 : Try.f29.body.isNone = false := by kernel_rfl
theorem nm29 : (Try.f29.name == "runtime.NumGoroutine") = false := by kernel_rfl
theorem bd30 : Try.f30.body.isNone = false := by kernel_rfl
theorem nm30 : (Try.f30.name == "runtime.NumGoroutine") = false := by kernel_rfl
theorem bd31 : Try.f31.body.isNone = false := by kernel_rfl
theorem nm31 : (Try.f31.name == "runtime.NumGoroutine") = false := by kernel_rfl
theorem bd32 : Try.f32.body.isNone = false := by kernel_rfl
theorem nm32 : (Try.f32.name == "runtime.NumGoroutine") = false := by kernel_rfl
theorem bd33 : Try.f33.body.isNone = false := by kernel_rfl
theorem nm33 : (Try.f33.name == "runtime.NumGoroutine") = false := by kernel_rfl
theorem bd34 : Try.f34.body.isNone = false := by kernel_rfl
theorem nm34 : (Try.f34.name == "runtime.NumGoroutine") = false := by kernel_rfl
theorem bd35 : Try.f35.body.isNone = false := by kernel_rfl
theorem nm35 : (Try.f35.name == "runtime.NumGoroutine") = false := by kernel_rfl
theorem bd36 : Try.f36.body.isNone = false := by kernel_rfl
theorem nm36 : (Try.f36.name == "runtime.NumGoroutine") = false := by kernel_rfl
theorem bd37 : Try.f37.body.isNone = false := by kernel_rfl
theorem nm37 : (Try.f37.name == "runtime.NumGoroutine") = false := by kernel_rfl
theorem bd38 : Try.f38.body.isNone = false := by kernel_rfl
theorem nm38 : (Try.f38.name == "runtime.NumGoroutine") = false := by kernel_rfl
theorem bd39 : Try.f39.body.isNone = false := by kernel_rfl
theorem nm39 : (Try.f39.name == "runtime.NumGoroutine") = false := by kernel_rfl
theorem bd40 : Try.f40.body.isNone = false := by kernel_rfl
theorem nm40 : (Try.f40.name == "runtime.NumGoroutine") = false := by kernel_rfl
theorem bd41 : Try.f41.body.isNone = false := by kernel_rfl
theorem nm41 : (Try.f41.name == "runtime.NumGoroutine") = false := by kernel_rfl
theorem bd42 : Try.f42.body.isNone = false := by kernel_rfl
theorem nm42 : (Try.f42.name == "runtime.NumGoroutine") = false := by kernel_rfl
theorem bd43 : Try.f43.body.isNone = false := by kernel_rfl
theorem nm43 : (Try.f43.name == "runtime.NumGoroutine") = false := by kernel_rfl
theorem bd44 : Try.f44.body.isNone = false := by kernel_rfl
theorem nm44 : (Try.f44.name == "runtime.NumGoroutine") = false := by kernel_rfl
theorem bd45 : Try.f45.body.isNone = false := by kernel_rfl
theorem nm45 : (Try.f45.name == "runtime.NumGoroutine") = false := by kernel_rfl
theorem bd46 : Try.f46.body.isNone = false := by kernel_rfl
theorem nm46 : (Try.f46.name == "runtime.NumGoroutine") = false := by kernel_rfl
theorem bd47 : Try.f47.body.isNone = false := by kernel_rfl
theorem nm47 : (Try.f47.name == "runtime.NumGoroutine") = false := by kernel_rfl
theorem bd48 : Try.f48.body.isNone = false := by kernel_rfl
theorem nm48 : (Try.f48.name == "runtime.NumGoroutine") = false := by kernel_rfl
theorem bd49 : Try.f49.body.isNone = false := by kernel_rfl
theorem nm49 : (Try.f49.name == "runtime.NumGoroutine") = false := by kernel_rfl
theorem bd50 : Try.f50.body.isNone = false := by kernel_rfl
theorem nm50 : (Try.f50.name == "runtime.NumGoroutine") = false := by kernel_rfl
theorem bd51 : Try.f51.body.isNone = false := by kernel_rfl
theorem nm51 : (Try.f51.name == "runtime.NumGoroutine") = false := by kernel_rfl
theorem bd52 : Try.f52.body.isNone = false := by kernel_rfl
theorem nm52 : (Try.f52.name == "runtime.NumGoroutine") = false := by kernel_rfl
theorem bd53 : Try.f53.body.isNone = false := by kernel_rfl
theorem nm53 : (Try.f53.name == "runtime.NumGoroutine") = false := by kernel_rfl
theorem bd54 : Try.f54.body.isNone = false := by kernel_rfl
theorem nm54 : (Try.f54.name == "runtime.NumGoroutine") = false := by kernel_rfl
theorem bd55 : Try.f55.body.isNone = false := by kernel_rfl
theorem nm55 : (Try.f55.name == "runtime.NumGoroutine") = false := by kernel_rfl
theorem bd56 : Try.f56.body.isNone = false := by kernel_rfl
theorem nm56 : (Try.f56.name == "runtime.NumGoroutine") = false := by kernel_rfl
theorem bd57 : Try.f57.body.isNone = false := by kernel_rfl
theorem nm57 : (Try.f57.name == "runtime.NumGoroutine") = false := by kernel_rfl
theorem bd58 : Try.f58.body.isNone = false := by kernel_rfl
theorem nm58 : (Try.f58.name == "runtime.NumGoroutine") = false := by kernel_rfl
theorem bd59 : Try.f59.body.isNone = false := by kernel_rfl
theorem nm59 : (Try.f59.name == "runtime.NumGoroutine") = false := by kernel_rfl
theorem bd60 : Try.f60.body.isNone = false := by kernel_rfl
theorem nm60 : (Try.f60.name == "runtime.NumGoroutine") = false := by kernel_rfl
theorem bd61 : Try.f61.body.isNone = false := by kernel_rfl
theorem nm61 : (Try.f61.name == "runtime.NumGoroutine") = false := by kernel_rfl
theorem bd62 : Try.f62.body.isNone = false := by kernel_rfl
theorem nm62 : (Try.f62.name == "runtime.NumGoroutine") = false := by kernel_rfl
theorem bd63 : Try.f63.body.isNone = false := by kernel_rfl
theorem nm63 : (Try.f63.name == "runtime.NumGoroutine") = false := by kernel_rfl
theorem bd64 : Try.f64.body.isNone = false := by kernel_rfl
theorem nm64 : (Try.f64.name == "runtime.NumGoroutine") = false := by kernel_rfl
theorem bd65 : Try.f65.body.isNone = false := by kernel_rfl
theorem nm65 : (Try.f65.name == "runtime.NumGoroutine") = false := by kernel_rfl
theorem bd66 : Try.f66.body.isNone = false := by kernel_rfl
theorem nm66 : (Try.f66.name == "runtime.NumGoroutine") = false := by kernel_rfl
theorem bd67 : Try.f67.body.isNone = false := by kernel_rfl
theorem nm67 : (Try.f67.name == "runtime.NumGoroutine") = false := by kernel_rfl
theorem bd69 : Try.f69.body.isNone = false := by kernel_rfl
theorem nm69 : (Try.f69.name == "runtime.NumGoroutine") = false := by kernel_rfl
theorem bd70 : Try.f70.body.isNone = false := by kernel_rfl
theorem nm70 : (Try.f70.name == "runtime.NumGoroutine") = false := by kernel_rfl
theorem bd71 : Try.f71.body.isNone = false := by kernel_rfl
theorem nm71 : (Try.f71.name == "runtime.NumGoroutine") = false := by kernel_rfl
theorem bd72 : Try.f72.body.isNone = false := by kernel_rfl
theorem nm72 : (Try.f72.name == "runtime.NumGoroutine") = false := by kernel_rfl
theorem bd73 : Try.f73.body.isNone = false := by kernel_rfl
theorem nm73 : (Try.f73.name == "runtime.NumGoroutine") = false := by kernel_rfl
theorem bd74 : Try.f74.body.isNone = false := by kernel_rfl
theorem nm74 : (Try.f74.name == "runtime.NumGoroutine") = false := by kernel_rfl
theorem bd75 : Try.f75.body.isNone = false := by kernel_rfl
theorem nm75 : (Try.f75.name == "runtime.NumGoroutine") = false := by kernel_rfl
theorem bd76 : Try.f76.body.isNone = false := by kernel_rfl
theorem nm76 : (Try.f76.name == "runtime.NumGoroutine") = false := by kernel_rfl
theorem bd77 : Try.f77.body.isNone = false := by kernel_rfl
theorem nm77 : (Try.f77.name == "runtime.NumGoroutine") = false := by kernel_rfl
theorem bd78 : Try.f78.body.isNone = false := by kernel_rfl
theorem nm78 : (Try.f78.name == "runtime.NumGoroutine") = false := by kernel_rfl
theorem bd79 : Try.f79.body.isNone = false := by kernel_rfl
theorem nm79 : (Try.f79.name == "runtime.NumGoroutine") = false := by kernel_rfl
theorem bd80 : Try.f80.body.isNone = false := by kernel_rfl
theorem nm80 : (Try.f80.name == "runtime.NumGoroutine") = false := by kernel_rfl
theorem bd81 : Try.f81.body.isNone = false := by kernel_rfl
theorem nm81 : (Try.f81.name == "runtime.NumGoroutine") = false := by kernel_rfl
theorem bd82 : Try.f82.body.isNone = false := by kernel_rfl
theorem nm82 : (Try.f82.name == "runtime.NumGoroutine") = false := by kernel_rfl
theorem bd83 : Try.f83.body.isNone = false := by kernel_rfl
theorem nm83 : (Try.f83.name == "runtime.NumGoroutine") = false := by kernel_rfl
theorem bd84 : Try.f84.body.isNone = false := by kernel_rfl
theorem nm84 : (Try.f84.name == "runtime.NumGoroutine") = false := by kernel_rfl
theorem bd85 : Try.f85.body.isNone = false := by kernel_rfl
theorem nm85 : (Try.f85.name == "runtime.NumGoroutine") = false := by kernel_rfl
theorem bd86 : Try.f86.body.isNone = false := by kernel_rfl
theorem nm86 : (Try.f86.name == "runtime.NumGoroutine") = false := by kernel_rfl
theorem bd87 : Try.f87.body.isNone = false := by kernel_rfl
theorem nm87 : (Try.f87.name == "runtime.NumGoroutine") = false := by kernel_rfl
theorem bd88 : Try.f88.body.isNone = false := by kernel_rfl
theorem nm88 : (Try.f88.name == "runtime.NumGoroutine") = false := by kernel_rfl
theorem bd89 : Try.f89.body.isNone = false := by kernel_rfl
theorem nm89 : (Try.f89.name == "runtime.NumGoroutine") = false := by kernel_rfl
theorem bd90 : Try.f90.body.isNone = false := by kernel_rfl
theorem nm90 : (Try.f90.name == "runtime.NumGoroutine") = false := by kernel_rfl
theorem bd91 : Try.f91.body.isNone = false := by kernel_rfl
theorem nm91 : (Try.f91.name == "runtime.NumGoroutine") = false := by kernel_rfl
theorem bd92 : Try.f92.body.isNone = false := by kernel_rfl
theorem nm92 : (Try.f92.name == "runtime.NumGoroutine") = false := by kernel_rfl
end Go.Proofs.Ytklelhfgbjpifaa
/-! Walks of the small functions on words: bits.RotateLeft32, onionskinref01.turn, sha.round. -/
namespace Go.Proofs.Ytklelhfgbjpifaa
set_option linter.unnecessarySimpa false
set_option linter.unusedSimpArgs false
set_option linter.unusedVariables false
open Go.RowKit
theorem ret_u32 {k : IntKind} {a b : Int} (h : a = b) : Ending.returned (.int k a) = .returned (.int k b) := by rw [h]
theorem and31 (n : Int) (hn : -32 < n) (hn' : n < 0) : bits BinOp.and IntKind.u64 (IntKind.u64.wrap n) 31 = n + 32 := by
  have : n = -31 ∨ n = -30 ∨ n = -29 ∨ n = -28 ∨ n = -27 ∨ n = -26 ∨ n = -25 ∨ n = -24 ∨ n = -23 ∨ n = -22 ∨ n = -21 ∨ n = -20 ∨ n = -19 ∨ n = -18 ∨ n = -17 ∨ n = -16 ∨ n = -15 ∨ n = -14 ∨ n = -13 ∨ n = -12 ∨ n = -11 ∨ n = -10 ∨ n = -9 ∨ n = -8 ∨ n = -7 ∨ n = -6 ∨ n = -5 ∨ n = -4 ∨ n = -3 ∨ n = -2 ∨ n = -1 := by omega
  rcases this with rfl | rfl | rfl | rfl | rfl | rfl | rfl | rfl | rfl | rfl | rfl | rfl | rfl | rfl | rfl | rfl | rfl | rfl | rfl | rfl | rfl | rfl | rfl | rfl | rfl | rfl | rfl | rfl | rfl | rfl | rfl <;> decide +kernel
theorem shl32 (x : BitVec 32) (n : Nat) : ((x.toNat : Int) * 2 ^ n) % 4294967296 = ((x <<< n).toNat : Int) := by
  rw [BitVec.toNat_shiftLeft, Nat.shiftLeft_eq]
  simp
theorem shr32 (x : BitVec 32) (n : Nat) : ((x.toNat : Int) / 2 ^ n) = ((x >>> n).toNat : Int) := by
  rw [BitVec.toNat_ushiftRight, Nat.shiftRight_eq_div_pow]
  simp
/-- A word turned to the right. -/
def rotr (k : Nat) (x : BitVec 32) : BitVec 32 := x <<< (32 - k) ||| x >>> k
/-- bits.RotateLeft32 at a count below 0. -/
theorem rot_any (x : BitVec 32) (n : Int) (w : World) (hn : -32 < n) (hn' : n < 0) :
    Calls Try.prog 86 #[W32 x, I64 n] w fun e w' => e = .returned (W32 (rotr (-n).toNat x)) ∧ w = w' := by
  have hx : (0 : Int) ≤ x.toNat := by omega
  have hx' : (x.toNat : Int) < 4294967296 := by omega
  have hs := and31 n hn hn'
  have hs1 : 0 ≤ n + 32 := by omega
  have hs2 : n + 32 < 32 := by omega
  go_enter Try.func86, Try.ntmps86
  go_wp2
  go_ret
  refine ⟨ret_u32 ?_, rfl⟩
  show bits BinOp.or IntKind.u32 (↑x.toNat * 2 ^ (n + 32).toNat % 4294967296) (↑x.toNat / 2 ^ (32 - (n + 32)).toNat) = _
  rw [shl32, shr32, bits_or32, show (32 - (n + 32)).toNat = (-n).toNat by omega, show (n + 32).toNat = 32 - (-n).toNat by omega]
  rfl
theorem rot_ch (k : Nat) (h0 : 0 < k) (h1 : k < 32) (x : BitVec 32) (h : Heap) : CH Try.prog 86 #[W32 x, I64 (-(k : Int))] h fun v h' => v = W32 (rotr k x) ∧ h' = h := by
  refine CH.of_same (fun w _ => rot_any x (-(k : Int)) w (by omega) (by omega)) ⟨?_, rfl⟩
  rw [show (- -(k : Int)).toNat = k by omega]
/-- onionskinref01.turn. -/
theorem turn_any (x : BitVec 32) (n : Int) (w : World) (hn : 0 < n) (hn' : n < 32) :
    Calls Try.prog 49 #[W32 x, .int .u64 n] w fun e w' => e = .returned (W32 (rotr n.toNat x)) ∧ w = w' := by
  have hx : (0 : Int) ≤ x.toNat := by omega
  have hx' : (x.toNat : Int) < 4294967296 := by omega
  go_enter Try.func49, Try.ntmps49
  go_wp2
  go_ret
  refine ⟨ret_u32 ?_, rfl⟩
  show bits BinOp.or IntKind.u32 (↑x.toNat / 2 ^ n.toNat) (↑x.toNat * 2 ^ (32 - n).toNat % 4294967296) = _
  rw [shl32, shr32, bits_or32, show (32 - n).toNat = 32 - n.toNat by omega, BitVec.or_comm]
  rfl
theorem turn_w (k : Nat) (h0 : 0 < k) (h1 : k < 32) (x : BitVec 32) (w : World) :
    Calls Try.prog 49 #[W32 x, .int .u64 (k : Int)] w fun e w' => e = .returned (W32 (rotr k x)) ∧ w = w' := turn_any x k w (by omega) (by omega)
/-- sha's constants. -/
def kt : List (BitVec 32) := [0x428a2f98, 0x71374491, 0xb5c0fbcf, 0xe9b5dba5, 0x3956c25b, 0x59f111f1, 0x923f82a4, 0xab1c5ed5,
  0xd807aa98, 0x12835b01, 0x243185be, 0x550c7dc3, 0x72be5d74, 0x80deb1fe, 0x9bdc06a7, 0xc19bf174,
  0xe49b69c1, 0xefbe4786, 0x0fc19dc6, 0x240ca1cc, 0x2de92c6f, 0x4a7484aa, 0x5cb0a9dc, 0x76f988da,
  0x983e5152, 0xa831c66d, 0xb00327c8, 0xbf597fc7, 0xc6e00bf3, 0xd5a79147, 0x06ca6351, 0x14292967,
  0x27b70a85, 0x2e1b2138, 0x4d2c6dfc, 0x53380d13, 0x650a7354, 0x766a0abb, 0x81c2c92e, 0x92722c85,
  0xa2bfe8a1, 0xa81a664b, 0xc24b8b70, 0xc76c51a3, 0xd192e819, 0xd6990624, 0xf40e3585, 0x106aa070,
  0x19a4c116, 0x1e376c08, 0x2748774c, 0x34b0bcb5, 0x391c0cb3, 0x4ed8aa4a, 0x5b9cca4f, 0x682e6ff3,
  0x748f82ee, 0x78a5636f, 0x84c87814, 0x8cc70208, 0x90befffa, 0xa4506ceb, 0xbef9a3f7, 0xc67178f2]
set_option maxRecDepth 10000 in
/-- sha.round. -/
theorem round_ch (h : Heap) : CH Try.prog 85 #[] h fun v h' => v = .agg (kt.map W32).toArray ∧ Ext h h' := by
  refine CH.of_body Try.func85 rfl rfl rfl ?_
  intro f hf
  -- region 0
  repeat refine HW.seq ?_
  refine HW.region ?_
  refine HL.one (HO.alloc zr70 ?_)
  intro h1 w1
  intro u0 e0
  refine HL.nil ?_
  -- region 1
  repeat refine HW.seq ?_
  refine HW.region ?_
  refine HL.still (Runs.build (v := .agg (kt.map W32).toArray) (fun w => by kernel_rfl)) ?_
  intro u1 e1
  refine HL.zero (HO.storeAll sz70 e0 e1 (one_map W32 (fun _ => rfl) _) w1.new rfl rfl ?_)
  intro h2 w2
  refine HL.nil ?_
  refine HW.ret ?_
  exact RT.cell rfl e0 w2.new Try.underlying70 rfl sz70 rfl ⟨rfl, (w1.ext).wr w2 (Nat.le_refl _)⟩
end Go.Proofs.Ytklelhfgbjpifaa
/-! sha.schedule: a block's words, and those that follow from them. -/
namespace Go.Proofs.Ytklelhfgbjpifaa
set_option linter.unnecessarySimpa false
set_option linter.unusedSimpArgs false
set_option linter.unusedVariables false
open Go.RowKit
/-- Words out of bytes, byte by byte. -/
def schA (bs : List UInt8) : Nat → List (BitVec 32)
  | 0 => List.replicate 64 0
  | k + 1 => (schA bs k).set (k / 4) ((schA bs k).getD (k / 4) 0 <<< 8 ||| BitVec.ofNat 32 (bs.getD k 0).toNat)
def sg0 (a : BitVec 32) : BitVec 32 := rotr 7 a ^^^ rotr 18 a ^^^ a >>> 3
def sg1 (z : BitVec 32) : BitVec 32 := rotr 17 z ^^^ rotr 19 z ^^^ z >>> 10
/-- The words behind the sixteenth, one by one. -/
def schB (l : List (BitVec 32)) : Nat → List (BitVec 32)
  | 0 => l
  | j + 1 => (schB l j).set (16 + j) (sg1 ((schB l j).getD (16 + j - 2) 0) + (schB l j).getD (16 + j - 7) 0 + sg0 ((schB l j).getD (16 + j - 15) 0) + (schB l j).getD (16 + j - 16) 0)
def sched (bs : List UInt8) : List (BitVec 32) := schB (schA bs 64) 48
theorem schA_len (bs : List UInt8) (k : Nat) : (schA bs k).length = 64 := by
  induction k with
  | zero => simp [schA]
  | succ k ih => simp [schA, ih]
theorem schB_len (l : List (BitVec 32)) (j : Nat) : (schB l j).length = l.length := by
  induction j with
  | zero => rfl
  | succ k ih => simp [schB, ih]
theorem sched_len (bs : List UInt8) : (sched bs).length = 64 := by rw [sched, schB_len, schA_len]
set_option maxRecDepth 10000 in
theorem sched_ch (h : Heap) (bs : List UInt8) (hbs : bs.length = 64) : CH Try.prog 84 #[.agg (bs.map B8).toArray] h fun v h' => v = .agg ((sched bs).map W32).toArray ∧ Ext h h' := by
  refine CH.of_body Try.func84 rfl rfl rfl ?_
  intro f hf
  have p0 : f 0 = .agg (bs.map B8).toArray := by rw [hf]; exact fr0_at rfl
  -- region 0
  repeat refine HW.seq ?_
  refine HW.region ?_
  refine HL.one (HO.box p0 ?_)
  intro h1 w1
  intro u1 e1
  refine HL.one (HO.alloc zr70 ?_)
  intro h2 w2
  intro u2 e2
  refine HL.nil ?_
  -- region 1
  repeat refine HW.seq ?_
  refine HW.region ?_
  refine HL.one (HO.alloc zr70 ?_)
  intro h3 w3
  intro u3 e3
  refine HL.nil ?_
  have s1 := w1.size
  have s2 := w2.size
  have s3 := w3.size
  -- region 2
  repeat refine HW.seq ?_
  refine HW.region ?_
  refine HL.still (Runs.loadAgg Try.underlying99 rfl sz99 e1 (by simp [hbs]) (load_blk (w3.keep (w2.keep w1.new)))) ?_
  intro u11 e11
  refine HL.still (Runs.move rfl) ?_
  intro u12 e12
  refine HL.nil ?_
  repeat refine HW.seq ?_
  refine HW.block ?_
  refine HW.loop (fun n f h' => ∃ k : Nat, n = 64 - k ∧ k ≤ 64 ∧ f 12 = I64 k ∧ f 11 = .agg (bs.map B8).toArray ∧ f 2 = .pointer (some ⟨h1.size, 0, none⟩) ∧ f 3 = .pointer (some ⟨h2.size, 0, none⟩) ∧
    h'[h2.size]? = some (.cells ((schA bs k).map W32).toArray 70 (0, 0)) ∧ h'[h1.size]? = some (.cells ((List.replicate 64 (0 : BitVec 32)).map W32).toArray 70 (0, 0)) ∧ Bel h.size h h') 64
    ⟨0, rfl, Nat.zero_le _, e12, e11, e2, e3, w3.new, w3.keep w2.new, ((w1.ext).ext w2.ext (Nat.le_refl _)).ext w3.ext (Nat.le_refl _)⟩ ?_
  rintro n f h' ⟨k, hn, hk, f12, f11, f2, f3, hb3, hb2, hB⟩
  have hl := schA_len bs k
  by_cases hlt : k < 64
  · skip
    -- region 3
    repeat refine HW.seq ?_
    refine HW.region ?_
    refine HL.still (Runs.lss f12 rfl rfl) ?_
    intro u13 e13
    refine HL.nil ?_
    repeat refine HW.seq ?_
    refine HW.yes ?_ ?_
    exact e13.trans (congrArg Value.bool (decide_eq_true (by omega)))
    refine HW.skip ?_
    repeat refine HW.seq ?_
    refine HW.block ?_
    -- region 4
    repeat refine HW.seq ?_
    refine HW.region ?_
    refine HL.still (Runs.move f12) ?_
    intro u14 e14
    refine HL.still (Runs.ixAgg Try.underlying99 Try.underlying5 rfl sz5 f11 f12 (by omega) (by omega) (toArray_map B8 bs k 0 (by omega))) ?_
    intro u15 e15
    refine HL.still (Runs.assign e14) ?_
    intro u4 e4
    refine HL.still (Runs.assign e15) ?_
    intro u5 e5
    refine HL.nil ?_
    -- region 5
    repeat refine HW.seq ?_
    refine HW.region ?_
    refine HL.still (Runs.move e4) ?_
    intro u16 e16
    refine HL.still (Runs.quo e16 rfl (by decide) (quo64 (by omega) (by decide))) ?_
    intro u17 e17
    refine HL.still (Runs.move e4) ?_
    intro u18 e18
    refine HL.still (Runs.quo e18 rfl (by decide) (quo64 (by omega) (by decide))) ?_
    intro u19 e19
    refine HL.still (Runs.ixArr (o' := k / 4) Try.underlying70 sz69 f3 e19 (by omega) (by omega) (by omega)) ?_
    intro u20 e20
    refine HL.still (Runs.load Try.underlying69 rfl e20 (cellH_map (j := k / 4) 0 hb3 (by omega))) ?_
    intro u21 e21
    refine HL.still (Runs.shl e21 rfl (by decide) (shl32c _ 8 (by decide))) ?_
    intro u22 e22
    refine HL.still (Runs.move e5) ?_
    intro u23 e23
    refine HL.still (Runs.conv Try.underlying5 Try.underlying69 e23 (conv_u8_u32 _)) ?_
    intro u24 e24
    refine HL.still (Runs.or e22 e24 (bits_or32 _ _)) ?_
    intro u25 e25
    refine HL.still (Runs.ixArr (o' := k / 4) Try.underlying70 sz69 f3 e17 (by omega) (by omega) (by omega)) ?_
    intro u26 e26
    refine HL.zero (HO.store (s := 1) sz69 e26 e25 rfl hb3 (by simp; omega) rfl ?_)
    intro h4 w4
    refine HL.nil ?_
    have hb3' := w4.new
    rw [← List.map_set] at hb3'
    -- region 6
    repeat refine HW.seq ?_
    refine HW.region ?_
    refine HL.still (Runs.add f12 rfl (i64w (by omega))) ?_
    intro u27 e27
    refine HL.still (Runs.move e27) ?_
    intro u12 e12
    refine HL.nil ?_
    exact ⟨64 - (k + 1), by omega, k + 1, rfl, by omega, e12, f11, f2, f3, hb3', w4.keep hb2 (by omega), hB.wr w4 (by omega)⟩
  · have hk64 : k = 64 := by omega
    subst hk64
    -- region 3
    repeat refine HW.seq ?_
    refine HW.region ?_
    refine HL.still (Runs.lss f12 rfl rfl) ?_
    intro u13 e13
    refine HL.nil ?_
    repeat refine HW.seq ?_
    refine HW.no ?_ ?_
    exact e13.trans (congrArg Value.bool (decide_eq_false (by omega)))
    refine HW.exitHere ?_
    -- region 7
    repeat refine HW.seq ?_
    refine HW.region ?_
    refine HL.still (Runs.assign rfl) ?_
    intro u6 e6
    refine HL.nil ?_
    repeat refine HW.seq ?_
    refine HW.block ?_
    refine HW.loop (fun n f h' => ∃ j : Nat, n = 48 - j ∧ j ≤ 48 ∧ f 6 = I64 ((16 + j : Nat) : Int) ∧ f 2 = .pointer (some ⟨h1.size, 0, none⟩) ∧ f 3 = .pointer (some ⟨h2.size, 0, none⟩) ∧
      h'[h2.size]? = some (.cells ((schB (schA bs 64) j).map W32).toArray 70 (0, 0)) ∧ h'[h1.size]? = some (.cells ((List.replicate 64 (0 : BitVec 32)).map W32).toArray 70 (0, 0)) ∧ Bel h.size h h') 48
      ⟨0, rfl, Nat.zero_le _, e6, f2, f3, hb3, hb2, hB⟩ ?_
    clear hb3 hb2 hB
    rintro n f h' ⟨j, hn, hj, f6, f2, f3, hb3, hb2, hB⟩
    have hl2 : (schB (schA bs 64) j).length = 64 := by rw [schB_len, schA_len]
    by_cases hlt : j < 48
    · skip
      -- region 8
      repeat refine HW.seq ?_
      refine HW.region ?_
      refine HL.still (Runs.move f6) ?_
      intro u28 e28
      refine HL.still (Runs.lss e28 rfl rfl) ?_
      intro u29 e29
      refine HL.nil ?_
      repeat refine HW.seq ?_
      refine HW.yes ?_ ?_
      exact e29.trans (congrArg Value.bool (decide_eq_true (by omega)))
      refine HW.skip ?_
      repeat refine HW.seq ?_
      refine HW.block ?_
      -- region 10
      repeat refine HW.seq ?_
      refine HW.draw mixed (by kernel_rfl) ?_
      refine HS.still (Runs.move f6) ?_
      intro u32 e32
      refine HS.still (Runs.sub e32 rfl (i64w (by omega))) ?_
      intro u33 e33
      refine HS.still (Runs.ixArr (o' := 16 + j - 15) Try.underlying70 sz69 f3 e33 (by omega) (by omega) (by omega)) ?_
      intro u34 e34
      refine HS.still (Runs.load Try.underlying69 rfl e34 (cellH_map (j := 16 + j - 15) 0 hb3 (by omega))) ?_
      intro u35 e35
      refine HS.still (Runs.move f6) ?_
      intro u36 e36
      refine HS.still (Runs.sub e36 rfl (i64w (by omega))) ?_
      intro u37 e37
      refine HS.still (Runs.ixArr (o' := 16 + j - 2) Try.underlying70 sz69 f3 e37 (by omega) (by omega) (by omega)) ?_
      intro u38 e38
      refine HS.still (Runs.load Try.underlying69 rfl e38 (cellH_map (j := 16 + j - 2) 0 hb3 (by omega))) ?_
      intro u39 e39
      refine HS.still (Runs.assign e35) ?_
      intro u7 e7
      refine HS.still (Runs.assign e39) ?_
      intro u8 e8
      refine HS.nil ?_
      -- region 11
      repeat refine HW.seq ?_
      refine HW.region ?_
      refine HL.still (Runs.move e7) ?_
      intro u40 e40
      refine HL.one (HO.call Try.func86 bd86 nm86 (args2 e40 rfl) rfl ((rot_ch 7 (by decide) (by decide) _ _).mono ?_))
      rintro _ _ ⟨rfl, rfl⟩
      intro u41 e41
      refine HL.still (Runs.move e7) ?_
      intro u42 e42
      refine HL.one (HO.call Try.func86 bd86 nm86 (args2 e42 rfl) rfl ((rot_ch 18 (by decide) (by decide) _ _).mono ?_))
      rintro _ _ ⟨rfl, rfl⟩
      intro u43 e43
      refine HL.still (Runs.xor e41 e43 (bits_xor32 _ _)) ?_
      intro u44 e44
      refine HL.still (Runs.move e7) ?_
      intro u45 e45
      refine HL.still (Runs.shr e45 rfl (by decide) (shr32c _ 3 (by decide))) ?_
      intro u46 e46
      refine HL.still (Runs.xor e44 e46 (bits_xor32 _ _)) ?_
      intro u47 e47
      refine HL.still (Runs.assign e47) ?_
      intro u9 e9
      refine HL.nil ?_
      -- region 12
      repeat refine HW.seq ?_
      refine HW.region ?_
      refine HL.still (Runs.move e8) ?_
      intro u48 e48
      refine HL.one (HO.call Try.func86 bd86 nm86 (args2 e48 rfl) rfl ((rot_ch 17 (by decide) (by decide) _ _).mono ?_))
      rintro _ _ ⟨rfl, rfl⟩
      intro u49 e49
      refine HL.still (Runs.move e8) ?_
      intro u50 e50
      refine HL.one (HO.call Try.func86 bd86 nm86 (args2 e50 rfl) rfl ((rot_ch 19 (by decide) (by decide) _ _).mono ?_))
      rintro _ _ ⟨rfl, rfl⟩
      intro u51 e51
      refine HL.still (Runs.xor e49 e51 (bits_xor32 _ _)) ?_
      intro u52 e52
      refine HL.still (Runs.move e8) ?_
      intro u53 e53
      refine HL.still (Runs.shr e53 rfl (by decide) (shr32c _ 10 (by decide))) ?_
      intro u54 e54
      refine HL.still (Runs.xor e52 e54 (bits_xor32 _ _)) ?_
      intro u55 e55
      refine HL.still (Runs.assign e55) ?_
      intro u10 e10
      refine HL.nil ?_
      -- region 13
      repeat refine HW.seq ?_
      refine HW.drawTail 15 mixed (by kernel_rfl) ?_
      refine HS.still (Runs.move f6) ?_
      intro u56 e56
      refine HS.still (Runs.move e10) ?_
      intro u57 e57
      refine HS.still (Runs.move f6) ?_
      intro u58 e58
      refine HS.still (Runs.sub e58 rfl (i64w (by omega))) ?_
      intro u59 e59
      refine HS.still (Runs.ixArr (o' := 16 + j - 7) Try.underlying70 sz69 f3 e59 (by omega) (by omega) (by omega)) ?_
      intro u60 e60
      refine HS.still (Runs.load Try.underlying69 rfl e60 (cellH_map (j := 16 + j - 7) 0 hb3 (by omega))) ?_
      intro u61 e61
      refine HS.still (Runs.add e57 e61 (add32w _ _)) ?_
      intro u62 e62
      refine HS.still (Runs.move e9) ?_
      intro u63 e63
      refine HS.still (Runs.add e62 e63 (add32w _ _)) ?_
      intro u64 e64
      refine HS.still (Runs.move f6) ?_
      intro u65 e65
      refine HS.still (Runs.sub e65 rfl (i64w (by omega))) ?_
      intro u66 e66
      refine HS.still (Runs.ixArr (o' := 16 + j - 16) Try.underlying70 sz69 f3 e66 (by omega) (by omega) (by omega)) ?_
      intro u67 e67
      refine HS.still (Runs.load Try.underlying69 rfl e67 (cellH_map (j := 16 + j - 16) 0 hb3 (by omega))) ?_
      intro u68 e68
      refine HS.still (Runs.add e64 e68 (add32w _ _)) ?_
      intro u69 e69
      refine HS.still (Runs.ixArr (o' := 16 + j) Try.underlying70 sz69 f3 e56 (by omega) (by omega) (by omega)) ?_
      intro u70 e70
      refine HS.nil ?_
      refine HL.zero (HO.store (s := 1) sz69 e70 e69 rfl hb3 (by simp; omega) rfl ?_)
      intro h4 w4
      refine HL.nil ?_
      have hb3' := w4.new
      rw [← List.map_set] at hb3'
      -- region 9
      repeat refine HW.seq ?_
      refine HW.region ?_
      refine HL.still (Runs.move f6) ?_
      intro u30 e30
      refine HL.still (Runs.add e30 rfl (i64w (by omega))) ?_
      intro u31 e31
      refine HL.still (Runs.assign e31) ?_
      intro u6 e6
      refine HL.nil ?_
      exact ⟨48 - (j + 1), by omega, j + 1, rfl, by omega, e6, f2, f3, hb3', w4.keep hb2 (by omega), hB.wr w4 (by omega)⟩
    · have hj48 : j = 48 := by omega
      subst hj48
      -- region 8
      repeat refine HW.seq ?_
      refine HW.region ?_
      refine HL.still (Runs.move f6) ?_
      intro u28 e28
      refine HL.still (Runs.lss e28 rfl rfl) ?_
      intro u29 e29
      refine HL.nil ?_
      repeat refine HW.seq ?_
      refine HW.no ?_ ?_
      exact e29.trans (congrArg Value.bool (decide_eq_false (by omega)))
      refine HW.exitHere ?_
      -- region 14
      repeat refine HW.seq ?_
      refine HW.region ?_
      refine HL.still (Runs.loadAgg Try.underlying70 rfl sz70 f3 (by rw [List.length_map, hl2]) (load_blk hb3)) ?_
      intro u71 e71
      refine HL.zero (HO.storeAll sz70 f2 e71 (one_map W32 (fun _ => rfl) _) hb2 (by rw [List.length_map, hl2]) rfl ?_)
      intro h5 w5
      refine HL.nil ?_
      refine HW.ret ?_
      exact RT.cell rfl f2 w5.new Try.underlying70 rfl sz70 (by rw [List.length_map, hl2]) ⟨rfl, hB.wr w5 (by omega)⟩
end Go.Proofs.Ytklelhfgbjpifaa
/-! sha.Hash.mix: a whole block taken in. -/
namespace Go.Proofs.Ytklelhfgbjpifaa
set_option linter.unnecessarySimpa false
set_option linter.unusedSimpArgs false
set_option linter.unusedVariables false
open Go.RowKit
/-- The eight words of a round. -/
structure H8 where
  a : BitVec 32
  b : BitVec 32
  c : BitVec 32
  d : BitVec 32
  e : BitVec 32
  f : BitVec 32
  g : BitVec 32
  h : BitVec 32
def H8.list (s : H8) : List (BitVec 32) := [s.a, s.b, s.c, s.d, s.e, s.f, s.g, s.h]
def H8.of (l : List (BitVec 32)) : H8 := ⟨l.getD 0 0, l.getD 1 0, l.getD 2 0, l.getD 3 0, l.getD 4 0, l.getD 5 0, l.getD 6 0, l.getD 7 0⟩
def ep1 (e : BitVec 32) : BitVec 32 := rotr 6 e ^^^ rotr 11 e ^^^ rotr 25 e
def ep0 (a : BitVec 32) : BitVec 32 := rotr 2 a ^^^ rotr 13 a ^^^ rotr 22 a
/-- A round. -/
def rnd (k w : BitVec 32) (s : H8) : H8 :=
  ⟨s.h + ep1 s.e + (s.e &&& s.f ^^^ ~~~s.e &&& s.g) + k + w + (ep0 s.a + (s.a &&& s.b ^^^ s.a &&& s.c ^^^ s.b &&& s.c)), s.a, s.b, s.c, s.d + (s.h + ep1 s.e + (s.e &&& s.f ^^^ ~~~s.e &&& s.g) + k + w), s.e, s.f, s.g⟩
def rnds (w : List (BitVec 32)) : Nat → H8 → H8
  | 0, s => s
  | t + 1, s => rnd (kt.getD t 0) (w.getD t 0) (rnds w t s)
def addTo (hs xs : List (BitVec 32)) : Nat → List (BitVec 32)
  | 0 => hs
  | k + 1 => (addTo hs xs k).set k ((addTo hs xs k).getD k 0 + xs.getD k 0)
theorem addTo_len (hs xs : List (BitVec 32)) (k : Nat) : (addTo hs xs k).length = hs.length := by
  induction k with
  | zero => rfl
  | succ k ih => simp [addTo, ih]
/-- What a block's words come to. -/
def compress (hs : List (BitVec 32)) (bs : List UInt8) : List (BitVec 32) := addTo hs (rnds (sched bs) 64 (H8.of hs)).list 8
theorem compress_len (hs : List (BitVec 32)) (bs : List UInt8) : (compress hs bs).length = hs.length := addTo_len _ _ _
/-- A hash's cells. -/
def hcells (hs : List (BitVec 32)) (rest : List UInt8) (n : Int) : List Value := hs.map W32 ++ rest.map B8 ++ [I64 n]
theorem hcell_h {h : Heap} {b : Nat} {hs : List (BitVec 32)} {rest : List UInt8} {n : Int} (hb : h[b]? = some (.cells (hcells hs rest n).toArray 101 (0, 0))) (k : Nat) (hk : k < hs.length) : cellH h b k = some (W32 (hs.getD k 0)) := by
  refine cellH_list hb ?_
  rw [hcells, List.append_assoc, List.getElem?_append_left (by simpa using hk)]
  exact getD_map W32 hs k 0 hk
theorem hcell_n {h : Heap} {b : Nat} {hs : List (BitVec 32)} {rest : List UInt8} {n : Int} (hb : h[b]? = some (.cells (hcells hs rest n).toArray 101 (0, 0))) (h8 : hs.length = 8) (h64 : rest.length = 64) : cellH h b 72 = some (I64 n) := by
  refine cellH_list hb ?_
  rw [hcells, List.getElem?_append_right (by simp [h8, h64])]
  simp [h8, h64]
theorem hcells_set_h {hs : List (BitVec 32)} {rest : List UInt8} {n : Int} (k : Nat) (hk : k < hs.length) (x : BitVec 32) : (hcells hs rest n).set k (W32 x) = hcells (hs.set k x) rest n := by
  unfold hcells
  rw [List.append_assoc, List.set_append_left _ _ (by simpa using hk), ← List.append_assoc, List.map_set]
theorem hcells_len (hs : List (BitVec 32)) (rest : List UInt8) (n : Int) : (hcells hs rest n).length = hs.length + rest.length + 1 := by simp [hcells]; omega
theorem run_build8 (x0 x1 x2 x3 x4 x5 x6 x7 : BitVec 32) (w : World) : (Instr.build 71 #[(0, W32 x0), (1, W32 x1), (2, W32 x2), (3, W32 x3), (4, W32 x4), (5, W32 x5), (6, W32 x6), (7, W32 x7)]).run Try.prog w = .ok (.agg ([x0, x1, x2, x3, x4, x5, x6, x7].map W32).toArray) w := by kernel_rfl
theorem Runs.build8 {ρ : Operand → Value} {h : Heap} {d : Option Tmp} {ty : TypeId} {pos : String} {af : Array Edge} {gd : Option (Nat × Bool)} {o0 o1 o2 o3 o4 o5 o6 o7 : Operand} {x0 x1 x2 x3 x4 x5 x6 x7 : BitVec 32}
    (e0 : ρ o0 = W32 x0) (e1 : ρ o1 = W32 x1) (e2 : ρ o2 = W32 x2) (e3 : ρ o3 = W32 x3) (e4 : ρ o4 = W32 x4) (e5 : ρ o5 = W32 x5) (e6 : ρ o6 = W32 x6) (e7 : ρ o7 = W32 x7) :
    Runs Try.prog ⟨d, .build 71 #[(0, o0), (1, o1), (2, o2), (3, o3), (4, o4), (5, o5), (6, o6), (7, o7)], ty, pos, af, gd⟩ ρ h (.agg ([x0, x1, x2, x3, x4, x5, x6, x7].map W32).toArray) :=
  Runs.build (fun w => by
    have e : (#[(0, o0), (1, o1), (2, o2), (3, o3), (4, o4), (5, o5), (6, o6), (7, o7)] : Array (Nat × Operand)).map (fun (i, x) => (i, ρ x)) = #[(0, W32 x0), (1, W32 x1), (2, W32 x2), (3, W32 x3), (4, W32 x4), (5, W32 x5), (6, W32 x6), (7, W32 x7)] := by
      simp [e0, e1, e2, e3, e4, e5, e6, e7]
    rw [e]
    exact run_build8 x0 x1 x2 x3 x4 x5 x6 x7 w)
set_option maxRecDepth 10000 in
theorem mix_ch (h : Heap) (b : Nat) (hs : List (BitVec 32)) (rest : List UInt8) (n : Int) (h8 : hs.length = 8) (h64 : rest.length = 64) (hb : h[b]? = some (.cells (hcells hs rest n).toArray 101 (0, 0))) :
    CH Try.prog 73 #[.pointer (some ⟨b, 0, none⟩)] h fun v h' => v = .tuple #[] ∧ h'[b]? = some (.cells (hcells (compress hs rest) rest n).toArray 101 (0, 0)) ∧ ExB b h h' := by
  refine CH.of_body Try.func73 rfl rfl rfl ?_
  intro f hf
  have hbl := lt_of_some hb
  have p0 : f 0 = .pointer (some ⟨b, 0, none⟩) := by rw [hf]; exact fr0_at rfl
  -- region 0
  repeat refine HW.seq ?_
  refine HW.region ?_
  refine HL.still (Runs.move p0) ?_
  intro u19 e19
  refine HL.still (Runs.nilc e19) ?_
  intro u20 e20
  refine HL.still (Runs.fld (o' := 8) Try.underlying101 rfl sz99 (by decide) e20 (by rfl)) ?_
  intro u21 e21
  refine HL.still (Runs.loadAgg Try.underlying99 rfl sz99 e21 (by simp [h64]) (load_mid (x := hs.map W32) (l := rest.map B8) (y := [I64 n]) hb (by simp [h8]))) ?_
  intro u22 e22
  refine HL.one (HO.call Try.func84 bd84 nm84 (args1 e22) rfl ((sched_ch _ rest h64).mono ?_))
  rintro _ h1 ⟨rfl, E1⟩
  intro u23 e23
  refine HL.one (HO.call Try.func85 bd85 nm85 (args0) rfl ((round_ch _).mono ?_))
  rintro _ h2 ⟨rfl, E2⟩
  intro u24 e24
  refine HL.one (HO.alloc zr70 ?_)
  intro h3 w3
  intro u2 e2
  refine HL.one (HO.alloc zr70 ?_)
  intro h4 w4
  intro u3 e3
  refine HL.zero (HO.storeAll sz70 e2 e23 (one_map W32 (fun _ => rfl) _) (w4.keep w3.new) (by simp [sched_len]) rfl ?_)
  intro h5 w5
  refine HL.zero (HO.storeAll sz70 e3 e24 (one_map W32 (fun _ => rfl) _) (w5.keep w4.new (by have := w3.size; omega)) rfl rfl ?_)
  intro h6 w6
  refine HL.nil ?_
  have s3 := w3.size
  have s4 := w4.size
  have s5 := w5.size
  have s6 := w6.size
  have E6 : Ext h h6 := ((((E1.ext E2 (Nat.le_refl _)).ext w3.ext (Nat.le_refl _)).ext w4.ext (Nat.le_refl _)).wr w5 (by have := E1.size; have := E2.size; omega)).wr w6 (by have := E1.size; have := E2.size; omega)
  have hb6 := E6.keepE hb
  have hw6 := w6.keep w5.new (by omega)
  have hk6 := w6.new
  have hl := sched_len rest
  -- region 1
  repeat refine HW.seq ?_
  refine HW.draw mixed (by kernel_rfl) ?_
  refine HS.still (Runs.move p0) ?_
  intro u25 e25
  refine HS.still (Runs.nilc e25) ?_
  intro u26 e26
  refine HS.still (Runs.fld (o' := 0) Try.underlying101 rfl sz71 (by decide) e26 (by rfl)) ?_
  intro u27 e27
  refine HS.still (Runs.ixArr (o' := 0) Try.underlying71 sz69 e27 rfl (by decide) (by decide) (by rfl)) ?_
  intro u28 e28
  refine HS.still (Runs.load Try.underlying69 rfl e28 (hcell_h hb6 0 (by omega))) ?_
  intro u29 e29
  refine HS.still (Runs.move p0) ?_
  intro u30 e30
  refine HS.still (Runs.nilc e30) ?_
  intro u31 e31
  refine HS.still (Runs.fld (o' := 0) Try.underlying101 rfl sz71 (by decide) e31 (by rfl)) ?_
  intro u32 e32
  refine HS.still (Runs.ixArr (o' := 1) Try.underlying71 sz69 e32 rfl (by decide) (by decide) (by rfl)) ?_
  intro u33 e33
  refine HS.still (Runs.load Try.underlying69 rfl e33 (hcell_h hb6 1 (by omega))) ?_
  intro u34 e34
  refine HS.still (Runs.move p0) ?_
  intro u35 e35
  refine HS.still (Runs.nilc e35) ?_
  intro u36 e36
  refine HS.still (Runs.fld (o' := 0) Try.underlying101 rfl sz71 (by decide) e36 (by rfl)) ?_
  intro u37 e37
  refine HS.still (Runs.ixArr (o' := 2) Try.underlying71 sz69 e37 rfl (by decide) (by decide) (by rfl)) ?_
  intro u38 e38
  refine HS.still (Runs.load Try.underlying69 rfl e38 (hcell_h hb6 2 (by omega))) ?_
  intro u39 e39
  refine HS.still (Runs.move p0) ?_
  intro u40 e40
  refine HS.still (Runs.nilc e40) ?_
  intro u41 e41
  refine HS.still (Runs.fld (o' := 0) Try.underlying101 rfl sz71 (by decide) e41 (by rfl)) ?_
  intro u42 e42
  refine HS.still (Runs.ixArr (o' := 3) Try.underlying71 sz69 e42 rfl (by decide) (by decide) (by rfl)) ?_
  intro u43 e43
  refine HS.still (Runs.load Try.underlying69 rfl e43 (hcell_h hb6 3 (by omega))) ?_
  intro u44 e44
  refine HS.still (Runs.move p0) ?_
  intro u45 e45
  refine HS.still (Runs.nilc e45) ?_
  intro u46 e46
  refine HS.still (Runs.fld (o' := 0) Try.underlying101 rfl sz71 (by decide) e46 (by rfl)) ?_
  intro u47 e47
  refine HS.still (Runs.ixArr (o' := 4) Try.underlying71 sz69 e47 rfl (by decide) (by decide) (by rfl)) ?_
  intro u48 e48
  refine HS.still (Runs.load Try.underlying69 rfl e48 (hcell_h hb6 4 (by omega))) ?_
  intro u49 e49
  refine HS.still (Runs.move p0) ?_
  intro u50 e50
  refine HS.still (Runs.nilc e50) ?_
  intro u51 e51
  refine HS.still (Runs.fld (o' := 0) Try.underlying101 rfl sz71 (by decide) e51 (by rfl)) ?_
  intro u52 e52
  refine HS.still (Runs.ixArr (o' := 5) Try.underlying71 sz69 e52 rfl (by decide) (by decide) (by rfl)) ?_
  intro u53 e53
  refine HS.still (Runs.load Try.underlying69 rfl e53 (hcell_h hb6 5 (by omega))) ?_
  intro u54 e54
  refine HS.still (Runs.move p0) ?_
  intro u55 e55
  refine HS.still (Runs.nilc e55) ?_
  intro u56 e56
  refine HS.still (Runs.fld (o' := 0) Try.underlying101 rfl sz71 (by decide) e56 (by rfl)) ?_
  intro u57 e57
  refine HS.still (Runs.ixArr (o' := 6) Try.underlying71 sz69 e57 rfl (by decide) (by decide) (by rfl)) ?_
  intro u58 e58
  refine HS.still (Runs.load Try.underlying69 rfl e58 (hcell_h hb6 6 (by omega))) ?_
  intro u59 e59
  refine HS.still (Runs.move p0) ?_
  intro u60 e60
  refine HS.still (Runs.nilc e60) ?_
  intro u61 e61
  refine HS.still (Runs.fld (o' := 0) Try.underlying101 rfl sz71 (by decide) e61 (by rfl)) ?_
  intro u62 e62
  refine HS.still (Runs.ixArr (o' := 7) Try.underlying71 sz69 e62 rfl (by decide) (by decide) (by rfl)) ?_
  intro u63 e63
  refine HS.still (Runs.load Try.underlying69 rfl e63 (hcell_h hb6 7 (by omega))) ?_
  intro u64 e64
  refine HS.still (Runs.assign e29) ?_
  intro u4 e4
  refine HS.still (Runs.assign e34) ?_
  intro u5 e5
  refine HS.still (Runs.assign e39) ?_
  intro u6 e6
  refine HS.still (Runs.assign e44) ?_
  intro u7 e7
  refine HS.still (Runs.assign e49) ?_
  intro u8 e8
  refine HS.still (Runs.assign e54) ?_
  intro u9 e9
  refine HS.still (Runs.assign e59) ?_
  intro u10 e10
  refine HS.still (Runs.assign e64) ?_
  intro u11 e11
  refine HS.nil ?_
  -- region 2
  repeat refine HW.seq ?_
  refine HW.region ?_
  refine HL.still (Runs.move rfl) ?_
  intro u65 e65
  refine HL.nil ?_
  repeat refine HW.seq ?_
  refine HW.block ?_
  refine HW.loop (fun m f h' => ∃ t : Nat, m = 64 - t ∧ t ≤ 64 ∧ ∃ s : H8, s = rnds (sched rest) t (H8.of hs) ∧ f 65 = I64 t ∧ f 0 = .pointer (some ⟨b, 0, none⟩) ∧ f 2 = .pointer (some ⟨h2.size, 0, none⟩) ∧ f 3 = .pointer (some ⟨h3.size, 0, none⟩) ∧
    f 4 = W32 s.a ∧ f 5 = W32 s.b ∧ f 6 = W32 s.c ∧ f 7 = W32 s.d ∧ f 8 = W32 s.e ∧ f 9 = W32 s.f ∧ f 10 = W32 s.g ∧ f 11 = W32 s.h ∧ h' = h6) 64
    ⟨0, rfl, Nat.zero_le _, _, rfl, e65, p0, e2, e3, e4, e5, e6, e7, e8, e9, e10, e11, rfl⟩ ?_
  rintro m f h' ⟨t, hm, ht, s, hS, f65, f0, f2, f3, f4, f5, f6, f7, f8, f9, f10, f11, rfl⟩
  by_cases hlt : t < 64
  · skip
    -- region 3
    repeat refine HW.seq ?_
    refine HW.region ?_
    refine HL.still (Runs.lss f65 rfl rfl) ?_
    intro u66 e66
    refine HL.nil ?_
    repeat refine HW.seq ?_
    refine HW.yes ?_ ?_
    exact e66.trans (congrArg Value.bool (decide_eq_true (by omega)))
    refine HW.skip ?_
    repeat refine HW.seq ?_
    refine HW.block ?_
    -- region 4
    repeat refine HW.seq ?_
    refine HW.region ?_
    refine HL.still (Runs.move f65) ?_
    intro u67 e67
    refine HL.still (Runs.assign e67) ?_
    intro u12 e12
    refine HL.nil ?_
    -- region 5
    repeat refine HW.seq ?_
    refine HW.region ?_
    refine HL.still (Runs.move f8) ?_
    intro u68 e68
    refine HL.one (HO.call Try.func86 bd86 nm86 (args2 e68 rfl) rfl ((rot_ch 6 (by decide) (by decide) _ _).mono ?_))
    rintro _ _ ⟨rfl, rfl⟩
    intro u69 e69
    refine HL.still (Runs.move f8) ?_
    intro u70 e70
    refine HL.one (HO.call Try.func86 bd86 nm86 (args2 e70 rfl) rfl ((rot_ch 11 (by decide) (by decide) _ _).mono ?_))
    rintro _ _ ⟨rfl, rfl⟩
    intro u71 e71
    refine HL.still (Runs.xor e69 e71 (bits_xor32 _ _)) ?_
    intro u72 e72
    refine HL.still (Runs.move f8) ?_
    intro u73 e73
    refine HL.one (HO.call Try.func86 bd86 nm86 (args2 e73 rfl) rfl ((rot_ch 25 (by decide) (by decide) _ _).mono ?_))
    rintro _ _ ⟨rfl, rfl⟩
    intro u74 e74
    refine HL.still (Runs.xor e72 e74 (bits_xor32 _ _)) ?_
    intro u75 e75
    refine HL.still (Runs.assign e75) ?_
    intro u13 e13
    refine HL.nil ?_
    -- region 6
    repeat refine HW.seq ?_
    refine HW.draw mixed (by kernel_rfl) ?_
    refine HS.still (Runs.move f11) ?_
    intro u76 e76
    refine HS.still (Runs.move e13) ?_
    intro u77 e77
    refine HS.still (Runs.add e76 e77 (add32w _ _)) ?_
    intro u78 e78
    refine HS.still (Runs.move f8) ?_
    intro u79 e79
    refine HS.still (Runs.move f9) ?_
    intro u80 e80
    refine HS.still (Runs.and e79 e80 (bits_and32 _ _)) ?_
    intro u81 e81
    refine HS.still (Runs.move f8) ?_
    intro u82 e82
    refine HS.still (Runs.compl e82 (compl32 _)) ?_
    intro u83 e83
    refine HS.still (Runs.move f10) ?_
    intro u84 e84
    refine HS.still (Runs.and e83 e84 (bits_and32 _ _)) ?_
    intro u85 e85
    refine HS.still (Runs.xor e81 e85 (bits_xor32 _ _)) ?_
    intro u86 e86
    refine HS.still (Runs.add e78 e86 (add32w _ _)) ?_
    intro u87 e87
    refine HS.still (Runs.move e12) ?_
    intro u88 e88
    refine HS.still (Runs.ixArr (o' := t) Try.underlying70 sz69 f3 e88 (by omega) (by omega) (by omega)) ?_
    intro u89 e89
    refine HS.still (Runs.load Try.underlying69 rfl e89 (cellH_map (j := t) 0 hk6 (by exact hlt))) ?_
    intro u90 e90
    refine HS.still (Runs.add e87 e90 (add32w _ _)) ?_
    intro u91 e91
    refine HS.still (Runs.move e12) ?_
    intro u92 e92
    refine HS.still (Runs.ixArr (o' := t) Try.underlying70 sz69 f2 e92 (by omega) (by omega) (by omega)) ?_
    intro u93 e93
    refine HS.still (Runs.load Try.underlying69 rfl e93 (cellH_map (j := t) 0 hw6 (by omega))) ?_
    intro u94 e94
    refine HS.still (Runs.add e91 e94 (add32w _ _)) ?_
    intro u95 e95
    refine HS.still (Runs.assign e95) ?_
    intro u14 e14
    refine HS.nil ?_
    -- region 7
    repeat refine HW.seq ?_
    refine HW.region ?_
    refine HL.still (Runs.move f4) ?_
    intro u96 e96
    refine HL.one (HO.call Try.func86 bd86 nm86 (args2 e96 rfl) rfl ((rot_ch 2 (by decide) (by decide) _ _).mono ?_))
    rintro _ _ ⟨rfl, rfl⟩
    intro u97 e97
    refine HL.still (Runs.move f4) ?_
    intro u98 e98
    refine HL.one (HO.call Try.func86 bd86 nm86 (args2 e98 rfl) rfl ((rot_ch 13 (by decide) (by decide) _ _).mono ?_))
    rintro _ _ ⟨rfl, rfl⟩
    intro u99 e99
    refine HL.still (Runs.xor e97 e99 (bits_xor32 _ _)) ?_
    intro u100 e100
    refine HL.still (Runs.move f4) ?_
    intro u101 e101
    refine HL.one (HO.call Try.func86 bd86 nm86 (args2 e101 rfl) rfl ((rot_ch 22 (by decide) (by decide) _ _).mono ?_))
    rintro _ _ ⟨rfl, rfl⟩
    intro u102 e102
    refine HL.still (Runs.xor e100 e102 (bits_xor32 _ _)) ?_
    intro u103 e103
    refine HL.still (Runs.assign e103) ?_
    intro u15 e15
    refine HL.nil ?_
    -- region 8
    repeat refine HW.seq ?_
    refine HW.region ?_
    refine HL.still (Runs.move e15) ?_
    intro u104 e104
    refine HL.still (Runs.move f4) ?_
    intro u105 e105
    refine HL.still (Runs.move f5) ?_
    intro u106 e106
    refine HL.still (Runs.and e105 e106 (bits_and32 _ _)) ?_
    intro u107 e107
    refine HL.still (Runs.move f4) ?_
    intro u108 e108
    refine HL.still (Runs.move f6) ?_
    intro u109 e109
    refine HL.still (Runs.and e108 e109 (bits_and32 _ _)) ?_
    intro u110 e110
    refine HL.still (Runs.xor e107 e110 (bits_xor32 _ _)) ?_
    intro u111 e111
    refine HL.still (Runs.move f5) ?_
    intro u112 e112
    refine HL.still (Runs.move f6) ?_
    intro u113 e113
    refine HL.still (Runs.and e112 e113 (bits_and32 _ _)) ?_
    intro u114 e114
    refine HL.still (Runs.xor e111 e114 (bits_xor32 _ _)) ?_
    intro u115 e115
    refine HL.still (Runs.add e104 e115 (add32w _ _)) ?_
    intro u116 e116
    refine HL.still (Runs.assign e116) ?_
    intro u16 e16
    refine HL.nil ?_
    -- region 9
    repeat refine HW.seq ?_
    refine HW.region ?_
    refine HL.still (Runs.move e14) ?_
    intro u117 e117
    refine HL.still (Runs.move e16) ?_
    intro u118 e118
    refine HL.still (Runs.add e117 e118 (add32w _ _)) ?_
    intro u119 e119
    refine HL.still (Runs.move f4) ?_
    intro u120 e120
    refine HL.still (Runs.move f5) ?_
    intro u121 e121
    refine HL.still (Runs.move f6) ?_
    intro u122 e122
    refine HL.still (Runs.move f7) ?_
    intro u123 e123
    refine HL.still (Runs.move e14) ?_
    intro u124 e124
    refine HL.still (Runs.add e123 e124 (add32w _ _)) ?_
    intro u125 e125
    refine HL.still (Runs.move f8) ?_
    intro u126 e126
    refine HL.still (Runs.move f9) ?_
    intro u127 e127
    refine HL.still (Runs.move f10) ?_
    intro u128 e128
    refine HL.still (Runs.assign e119) ?_
    intro u4 e4
    refine HL.still (Runs.assign e120) ?_
    intro u5 e5
    refine HL.still (Runs.assign e121) ?_
    intro u6 e6
    refine HL.still (Runs.assign e122) ?_
    intro u7 e7
    refine HL.still (Runs.assign e125) ?_
    intro u8 e8
    refine HL.still (Runs.assign e126) ?_
    intro u9 e9
    refine HL.still (Runs.assign e127) ?_
    intro u10 e10
    refine HL.still (Runs.assign e128) ?_
    intro u11 e11
    refine HL.nil ?_
    -- region 10
    repeat refine HW.seq ?_
    refine HW.region ?_
    refine HL.still (Runs.add f65 rfl (i64w (by omega))) ?_
    intro u129 e129
    refine HL.still (Runs.move e129) ?_
    intro u65 e65
    refine HL.nil ?_
    exact ⟨64 - (t + 1), by omega, t + 1, rfl, by omega, rnd (kt.getD t 0) ((sched rest).getD t 0) s, by rw [rnds, ← hS], e65, f0, f2, f3, e4, e5, e6, e7, e8, e9, e10, e11, rfl⟩
  · have h64' : t = 64 := by omega
    subst h64'
    -- region 3
    repeat refine HW.seq ?_
    refine HW.region ?_
    refine HL.still (Runs.lss f65 rfl rfl) ?_
    intro u66 e66
    refine HL.nil ?_
    repeat refine HW.seq ?_
    refine HW.no ?_ ?_
    exact e66.trans (congrArg Value.bool (decide_eq_false (by omega)))
    refine HW.exitHere ?_
    -- region 11
    repeat refine HW.seq ?_
    refine HW.region ?_
    refine HL.still (Runs.move f4) ?_
    intro u130 e130
    refine HL.still (Runs.move f5) ?_
    intro u131 e131
    refine HL.still (Runs.move f6) ?_
    intro u132 e132
    refine HL.still (Runs.move f7) ?_
    intro u133 e133
    refine HL.still (Runs.move f8) ?_
    intro u134 e134
    refine HL.still (Runs.move f9) ?_
    intro u135 e135
    refine HL.still (Runs.move f10) ?_
    intro u136 e136
    refine HL.still (Runs.move f11) ?_
    intro u137 e137
    refine HL.still (Runs.build8 e130 e131 e132 e133 e134 e135 e136 e137) ?_
    intro u138 e138
    refine HL.still (Runs.move rfl) ?_
    intro u139 e139
    refine HL.nil ?_
    repeat refine HW.seq ?_
    refine HW.block ?_
    refine HW.loop (fun m f h' => ∃ k : Nat, m = 8 - k ∧ k ≤ 8 ∧ f 139 = I64 k ∧ f 138 = .agg (s.list.map W32).toArray ∧ f 0 = .pointer (some ⟨b, 0, none⟩) ∧ h'[b]? = some (.cells (hcells (addTo hs s.list k) rest n).toArray 101 (0, 0)) ∧ ExB b h h') 8
      ⟨0, rfl, Nat.zero_le _, e139, e138, f0, hb6, ExB.of_ext E6⟩ ?_
    rintro m f h' ⟨k, hm, hk, f139, f138, f0, hb', hE⟩
    have hal : (addTo hs s.list k).length = 8 := by rw [addTo_len, h8]
    by_cases hlt : k < 8
    · skip
      -- region 12
      repeat refine HW.seq ?_
      refine HW.region ?_
      refine HL.still (Runs.lss f139 rfl rfl) ?_
      intro u140 e140
      refine HL.nil ?_
      repeat refine HW.seq ?_
      refine HW.yes ?_ ?_
      exact e140.trans (congrArg Value.bool (decide_eq_true (by omega)))
      refine HW.skip ?_
      repeat refine HW.seq ?_
      refine HW.block ?_
      -- region 13
      repeat refine HW.seq ?_
      refine HW.region ?_
      refine HL.still (Runs.move f139) ?_
      intro u141 e141
      refine HL.still (Runs.ixAgg Try.underlying71 Try.underlying69 rfl sz69 f138 f139 (by omega) (by omega) (toArray_map W32 s.list k 0 (by simpa [H8.list] using hlt))) ?_
      intro u142 e142
      refine HL.still (Runs.assign e141) ?_
      intro u17 e17
      refine HL.still (Runs.assign e142) ?_
      intro u18 e18
      refine HL.nil ?_
      -- region 14
      repeat refine HW.seq ?_
      refine HW.drawTail 11 mixed (by kernel_rfl) ?_
      refine HS.still (Runs.move f0) ?_
      intro u143 e143
      refine HS.still (Runs.move e17) ?_
      intro u144 e144
      refine HS.still (Runs.nilc e143) ?_
      intro u145 e145
      refine HS.still (Runs.fld (o' := 0) Try.underlying101 rfl sz71 (by decide) e145 (by rfl)) ?_
      intro u146 e146
      refine HS.still (Runs.ixArr (o' := k) Try.underlying71 sz69 e146 e144 (by omega) (by omega) (by omega)) ?_
      intro u147 e147
      refine HS.still (Runs.load Try.underlying69 rfl e147 (hcell_h hb' k (by omega))) ?_
      intro u148 e148
      refine HS.still (Runs.move e18) ?_
      intro u149 e149
      refine HS.still (Runs.add e148 e149 (add32w _ _)) ?_
      intro u150 e150
      refine HS.still (Runs.nilc e143) ?_
      intro u151 e151
      refine HS.still (Runs.fld (o' := 0) Try.underlying101 rfl sz71 (by decide) e151 (by rfl)) ?_
      intro u152 e152
      refine HS.still (Runs.ixArr (o' := k) Try.underlying71 sz69 e152 e144 (by omega) (by omega) (by omega)) ?_
      intro u153 e153
      refine HS.nil ?_
      refine HL.zero (HO.store (s := 1) sz69 e153 e150 rfl hb' (by rw [hcells_len]; omega) rfl ?_)
      intro h7 w7
      refine HL.nil ?_
      have hb7 := w7.new
      rw [hcells_set_h k (by omega)] at hb7
      -- region 15
      repeat refine HW.seq ?_
      refine HW.region ?_
      refine HL.still (Runs.add f139 rfl (i64w (by omega))) ?_
      intro u154 e154
      refine HL.still (Runs.move e154) ?_
      intro u139 e139
      refine HL.nil ?_
      exact ⟨8 - (k + 1), by omega, k + 1, rfl, by omega, e139, f138, f0, hb7, hE.trans (ExB.of_wr w7)⟩
    · have hk8 : k = 8 := by omega
      subst hk8
      -- region 12
      repeat refine HW.seq ?_
      refine HW.region ?_
      refine HL.still (Runs.lss f139 rfl rfl) ?_
      intro u140 e140
      refine HL.nil ?_
      repeat refine HW.seq ?_
      refine HW.no ?_ ?_
      exact e140.trans (congrArg Value.bool (decide_eq_false (by omega)))
      refine HW.exitHere ?_
      exact RT.zero rfl ⟨rfl, by rw [hS] at hb'; exact hb', hE⟩
end Go.Proofs.Ytklelhfgbjpifaa
/-! SHA-256 as a plain function on lists, and what comes in piece by piece; no program in sight. -/
namespace Go.Proofs.Ytklelhfgbjpifaa
set_option linter.unnecessarySimpa false
set_option linter.unusedSimpArgs false
set_option linter.unusedVariables false
/-- The words that a hash begins with. -/
def iv : List (BitVec 32) := [0x6a09e667, 0xbb67ae85, 0x3c6ef372, 0xa54ff53a, 0x510e527f, 0x9b05688c, 0x1f83d9ab, 0x5be0cd19]
/-- k blocks of l taken in. -/
def foldB (l : List UInt8) : Nat → List (BitVec 32)
  | 0 => iv
  | k + 1 => compress (foldB l k) ((l.drop (64 * k)).take 64)
theorem foldB_len (l : List UInt8) (k : Nat) : (foldB l k).length = 8 := by
  induction k with
  | zero => rfl
  | succ k ih => rw [foldB, compress_len, ih]
theorem foldB_append (l m : List UInt8) (k : Nat) (h : 64 * k ≤ l.length) : foldB (l ++ m) k = foldB l k := by
  induction k with
  | zero => rfl
  | succ k ih =>
    rw [foldB, foldB, ih (by omega)]
    congr 1
    rw [List.drop_append_of_le_length (by omega), List.take_append_of_le_length (by simp; omega)]
/-- What a hash holds behind bytes P. -/
structure HState (P : List UInt8) (hs : List (BitVec 32)) (rest : List UInt8) : Prop where
  words : hs = foldB P (P.length / 64)
  len : rest.length = 64
  tail : rest.take (P.length % 64) = P.drop (64 * (P.length / 64))
theorem HState.h8 {P : List UInt8} {hs : List (BitVec 32)} {rest : List UInt8} (s : HState P hs rest) : hs.length = 8 := by rw [s.words, foldB_len]
theorem HState.start : HState [] iv (List.replicate 64 0) := ⟨rfl, by simp, by simp⟩
theorem HState.few {P ks : List UInt8} {hs : List (BitVec 32)} {rest : List UInt8} (s : HState P hs rest) (hk : P.length % 64 + ks.length < 64) :
    HState (P ++ ks) hs (rest.take (P.length % 64) ++ ks ++ rest.drop (P.length % 64 + ks.length)) := by
  have hl := s.len
  have e1 : (P ++ ks).length / 64 = P.length / 64 := by simp; omega
  have e2 : (P ++ ks).length % 64 = P.length % 64 + ks.length := by simp; omega
  refine ⟨?_, by simp; omega, ?_⟩
  · rw [e1, foldB_append _ _ _ (by omega)]; exact s.words
  · rw [e1, e2, List.take_append_of_le_length (by simp; omega), List.take_of_length_le (by simp; omega), s.tail, List.drop_append_of_le_length (by omega)]
theorem HState.full {P ks : List UInt8} {hs : List (BitVec 32)} {rest : List UInt8} (s : HState P hs rest) (hk : P.length % 64 + ks.length = 64) :
    HState (P ++ ks) (compress hs (rest.take (P.length % 64) ++ ks ++ rest.drop (P.length % 64 + ks.length))) (rest.take (P.length % 64) ++ ks ++ rest.drop (P.length % 64 + ks.length)) := by
  have hl := s.len
  have e1 : (P ++ ks).length / 64 = P.length / 64 + 1 := by simp; omega
  have e2 : (P ++ ks).length % 64 = 0 := by simp; omega
  have e3 : rest.drop (P.length % 64 + ks.length) = [] := List.drop_of_length_le (by omega)
  refine ⟨?_, by simp; omega, ?_⟩
  · rw [e1, foldB, foldB_append _ _ _ (by omega), ← s.words, e3, List.append_nil, s.tail]
    congr 1
    rw [List.drop_append_of_le_length (by omega), List.take_of_length_le (by simp; omega)]
  · rw [e1, e2]
    simp
    omega
/-- A number's eight bytes, the highest first. -/
def lenBytes (m : Nat) : List UInt8 := (List.range 8).map fun i => UInt8.ofNat (m / 2 ^ (8 * (7 - i)))
/-- How many zeros a padding has. -/
def zeros (n : Nat) : Nat := (119 - n % 64) % 64
def padded (l : List UInt8) : List UInt8 := l ++ [128] ++ List.replicate (zeros l.length) 0 ++ lenBytes (l.length * 8)
/-- A digest's bytes. -/
def digBytes (hs : List (BitVec 32)) : List UInt8 := (List.range 32).map fun k => UInt8.ofNat ((hs.getD (k / 4) 0) >>> (8 * (3 - k % 4))).toNat
/-- SHA-256. -/
def SHA (l : List UInt8) : List UInt8 := digBytes (foldB (padded l) ((padded l).length / 64))
theorem digBytes_len (hs : List (BitVec 32)) : (digBytes hs).length = 32 := by simp [digBytes]
theorem SHA_len (l : List UInt8) : (SHA l).length = 32 := digBytes_len _
theorem padded_len (l : List UInt8) : (padded l).length = l.length + 9 + zeros l.length := by simp [padded, lenBytes]; omega
theorem padded_mod (l : List UInt8) : (padded l).length % 64 = 0 := by rw [padded_len, zeros]; omega
end Go.Proofs.Ytklelhfgbjpifaa
/-! sha.New, Hash.Len, Hash.Write: bytes come in, piece by piece. -/
namespace Go.Proofs.Ytklelhfgbjpifaa
set_option linter.unnecessarySimpa false
set_option linter.unusedSimpArgs false
set_option linter.unusedVariables false
open Go.RowKit
/-- The block b is a hash to which the bytes P came. -/
def HashAt (h : Heap) (b : Nat) (P : List UInt8) : Prop := ∃ hs rest, HState P hs rest ∧ h[b]? = some (.cells (hcells hs rest (P.length : Int)).toArray 101 (0, 0))
theorem HashAt.keep {h h' : Heap} {b : Nat} {P : List UInt8} (x : HashAt h b P) (k : h'[b]? = h[b]?) : HashAt h' b P := by
  obtain ⟨hs, rest, s, hb⟩ := x
  exact ⟨hs, rest, s, k.trans hb⟩
theorem HashAt.lt {h : Heap} {b : Nat} {P : List UInt8} (x : HashAt h b P) : b < h.size := by
  obtain ⟨hs, rest, s, hb⟩ := x
  exact lt_of_some hb
/-- A slice's bytes, apart from block nb. -/
def Src (h : Heap) (nb : Nat) (a : Option Addr) (xs : List UInt8) : Prop := xs = [] ∨ ∃ sb so, a = some ⟨sb, so, none⟩ ∧ sb ≠ nb ∧ ∀ j, j < xs.length → cellH h sb (so + j) = some (B8 (xs.getD j 0))
theorem Src.exb {h h' : Heap} {nb : Nat} {a : Option Addr} {xs : List UInt8} (x : Src h nb a xs) (k : ExB nb h h') : Src h' nb a xs := by
  rcases x with x | ⟨sb, so, h1, h2, h3⟩
  · exact .inl x
  · refine .inr ⟨sb, so, h1, h2, fun j hj => ?_⟩
    rw [cellH_keep (k.old sb (lt_of_cellH (h3 j hj)) h2)]
    exact h3 j hj
/-- A slice cut at its begin. -/
theorem Src.drop {h : Heap} {nb : Nat} {a a' : Option Addr} {xs : List UInt8} {cap : Nat} (x : Src h nb a xs) (k : Nat) (hc : xs.length ≤ cap) (hk : k ≤ xs.length) (ha : (if cap = k then a else a.map (·.add (k * 1))) = a') : Src h nb a' (xs.drop k) := by
  by_cases hd : xs.drop k = []
  · exact .inl hd
  · rcases x with rfl | ⟨sb, so, h1, h2, h3⟩
    · simp at hd
    · have hlt : k < xs.length := by
        rcases Nat.lt_or_ge k xs.length with h | h
        · exact h
        · exact absurd (List.drop_of_length_le h) hd
      rw [if_neg (by omega), h1] at ha
      subst ha
      refine .inr ⟨sb, so + k, by simp [addr_add], h2, fun j hj => ?_⟩
      have := h3 (k + j) (by simp at hj; omega)
      rw [Nat.add_assoc, this]
      simp [List.getD_eq_getElem?_getD]
theorem hcells_splice {hs : List (BitVec 32)} {rest ks : List UInt8} {n : Int} {i : Nat} (h8 : hs.length = 8) (h64 : rest.length = 64) (hi : i + ks.length ≤ 64) :
    (hcells hs rest n).take (8 + i) ++ ks.map B8 ++ (hcells hs rest n).drop (8 + i + (ks.map B8).length) = hcells hs (rest.take i ++ ks ++ rest.drop (i + ks.length)) n := by
  unfold hcells
  have e1 : (hs.map W32 ++ rest.map B8 ++ [I64 n]).take (8 + i) = hs.map W32 ++ (rest.take i).map B8 := by
    rw [List.append_assoc, List.take_append, List.take_of_length_le (by simp; omega), List.length_map, h8, Nat.add_sub_cancel_left, List.take_append_of_le_length (by simp; omega), List.map_take]
  have e2 : (hs.map W32 ++ rest.map B8 ++ [I64 n]).drop (8 + i + (ks.map B8).length) = (rest.drop (i + ks.length)).map B8 ++ [I64 n] := by
    rw [List.append_assoc, List.drop_append, List.drop_of_length_le (by simp; omega), List.length_map, List.length_map, h8, List.nil_append, show 8 + i + ks.length - 8 = i + ks.length by omega, List.drop_append_of_le_length (by simp; omega), List.map_drop]
  rw [e1, e2]
  simp [List.append_assoc]
theorem hcells_set_n {hs : List (BitVec 32)} {rest : List UInt8} {n : Int} (h8 : hs.length = 8) (h64 : rest.length = 64) (m : Int) : (hcells hs rest n).set 72 (I64 m) = hcells hs rest m := by
  unfold hcells
  rw [List.set_append_right _ _ (by simp; omega)]
  simp [h8, h64]
theorem run_build53 (w : World) : (Instr.build 101 #[(0, .agg (iv.map W32).toArray)]).run Try.prog w = .ok (.agg (hcells iv (List.replicate 64 0) 0).toArray) w := by kernel_rfl
theorem Runs.build53 {ρ : Operand → Value} {h : Heap} {d : Option Tmp} {ty : TypeId} {pos : String} {af : Array Edge} {gd : Option (Nat × Bool)} {x : Operand} (e : ρ x = .agg (iv.map W32).toArray) :
    Runs Try.prog ⟨d, .build 101 #[(0, x)], ty, pos, af, gd⟩ ρ h (.agg (hcells iv (List.replicate 64 0) 0).toArray) :=
  Runs.build (fun w => by
    have e : (#[(0, x)] : Array (Nat × Operand)).map (fun (i, x) => (i, ρ x)) = #[(0, .agg (iv.map W32).toArray)] := by simp [e]
    rw [e]
    exact run_build53 w)
theorem new_ch (h : Heap) : CH Try.prog 65 #[] h fun v h' => v = .pointer (some ⟨h.size, 0, none⟩) ∧ HashAt h' h.size [] ∧ Ext h h' := by
  refine CH.of_body Try.func65 rfl rfl rfl ?_
  intro f hf
  -- region 0
  repeat refine HW.seq ?_
  refine HW.region ?_
  refine HL.still (Runs.assign rfl) ?_
  intro u0 e0
  refine HL.nil ?_
  -- region 1
  repeat refine HW.seq ?_
  refine HW.region ?_
  refine HL.still (Runs.build (v := .agg (iv.map W32).toArray) (fun w => by kernel_rfl)) ?_
  intro u1 e1
  refine HL.still (Runs.build53 e1) ?_
  intro u2 e2
  refine HL.one (HO.box e2 ?_)
  intro h1 w1
  intro u3 e3
  refine HL.still (Runs.assign e3) ?_
  intro u0 e0
  refine HL.nil ?_
  refine HW.ret ?_
  exact RT.one rfl e0 ⟨rfl, ⟨iv, List.replicate 64 0, HState.start, w1.new⟩, w1.ext⟩
set_option maxRecDepth 10000 in
theorem write_ch (h : Heap) (b : Nat) (P xs : List UInt8) (a : Option Addr) (cap : Nat) (hb : HashAt h b P) (hsrc : Src h b a xs) (hcap : xs.length ≤ cap) (hlen : P.length + xs.length < 4611686018427387904) :
    CH Try.prog 66 #[.pointer (some ⟨b, 0, none⟩), .slice a xs.length cap] h fun v h' => v = .tuple #[] ∧ HashAt h' b (P ++ xs) ∧ ExB b h h' := by
  refine CH.of_body Try.func66 rfl rfl rfl ?_
  intro f hf
  have p0 : f 0 = .pointer (some ⟨b, 0, none⟩) := by rw [hf]; exact fr0_at rfl
  have p1 : f 1 = .slice a xs.length cap := by rw [hf]; exact fr0_at rfl
  repeat refine HW.seq ?_
  refine HW.block ?_
  refine HW.loop (fun m f h' => ∃ c : Nat, c ≤ xs.length ∧ m = xs.length - c ∧ f 0 = .pointer (some ⟨b, 0, none⟩) ∧ (∃ (a' : Option Addr) (cap' : Nat), f 1 = .slice a' (xs.drop c).length cap' ∧ (xs.drop c).length ≤ cap' ∧ Src h' b a' (xs.drop c)) ∧ HashAt h' b (P ++ xs.take c) ∧ ExB b h h') xs.length
    ⟨0, Nat.zero_le _, rfl, p0, ⟨a, cap, p1, hcap, hsrc⟩, by simpa using hb, ⟨Nat.le_refl _, fun _ _ _ => rfl⟩⟩ ?_
  rintro m f h' ⟨c, hc, hm, f0, ⟨a', cap', f1, hcap', hsrc'⟩, hb', hE⟩
  have hd : (xs.drop c).length = xs.length - c := by simp
  by_cases hlt : c < xs.length
  · skip
    -- region 0
    repeat refine HW.seq ?_
    refine HW.region ?_
    refine HL.still (Runs.move f1) ?_
    intro u6 e6
    refine HL.still (Runs.lenSl rfl Try.underlying29 e6) ?_
    intro u7 e7
    refine HL.still (Runs.gtr e7 rfl rfl) ?_
    intro u8 e8
    refine HL.nil ?_
    repeat refine HW.seq ?_
    refine HW.yes ?_ ?_
    exact e8.trans (congrArg Value.bool (decide_eq_true (by omega)))
    refine HW.skip ?_
    repeat refine HW.seq ?_
    refine HW.block ?_
    obtain ⟨hs, rest, s, hbb⟩ := hb'
    obtain ⟨Q, hQ⟩ : ∃ Q, Q = P ++ xs.take c := ⟨_, rfl⟩
    have hQl : Q.length = P.length + c := by rw [hQ]; simp; omega
    obtain ⟨ys, hys⟩ : ∃ ys, ys = xs.drop c := ⟨_, rfl⟩
    rw [← hQ] at s hbb
    rw [← hys] at hsrc' hd hcap' f1
    have hat : (Q.length : Int) % 64 = ((Q.length % 64 : Nat) : Int) := by omega
    obtain ⟨at_, hat_⟩ : ∃ k, k = Q.length % 64 := ⟨_, rfl⟩
    have hat64 : at_ < 64 := by omega
    rw [← hat_] at hat
    rcases hsrc' with hnil | ⟨sb, so, ha', hne, hsc⟩
    · rw [hnil] at hd; simp at hd; omega
    subst ha'
    obtain ⟨ks, hks⟩ : ∃ ks, ks = ys.take (64 - at_) := ⟨_, rfl⟩
    have hkl : ks.length = Nat.min ys.length (64 - at_) := by rw [hks, List.length_take, Nat.min_comm]
    have hkl2 : ks.length = if ys.length ≤ 64 - at_ then ys.length else 64 - at_ := by rw [hkl]; rfl
    have hkpos : 0 < ks.length := by rw [hkl2]; split <;> omega
    have hkle : ks.length ≤ ys.length := by rw [hkl2]; split <;> omega
    have hk64 : at_ + ks.length ≤ 64 := by rw [hkl2]; split <;> omega
    have hkc : ∀ j v, (ks.map B8)[j]? = some v → cellH h' sb (so + j) = some v := by
      intro j v hv
      have hj : j < ks.length := by simpa using (List.getElem?_eq_some_iff.1 hv).1
      rw [hsc j (by omega)]
      rw [getD_map B8 ks j 0 hj] at hv
      rw [← hv, hks, List.getD_eq_getElem?_getD, List.getD_eq_getElem?_getD, List.getElem?_take, if_pos (by rw [hks] at hj; simp at hj; omega)]
    -- region 1
    repeat refine HW.seq ?_
    refine HW.region ?_
    refine HL.still (Runs.move f0) ?_
    intro u9 e9
    refine HL.still (Runs.nilc e9) ?_
    intro u10 e10
    refine HL.still (Runs.fld (o' := 72) Try.underlying101 rfl sz3 (by decide) e10 (by rfl)) ?_
    intro u11 e11
    refine HL.still (Runs.load Try.underlying3 rfl e11 (hcell_n hbb s.h8 s.len)) ?_
    intro u12 e12
    refine HL.still (Runs.rem e12 rfl (by decide) ((rem64 (by omega) (by decide)).trans hat)) ?_
    intro u13 e13
    refine HL.still (Runs.assign e13) ?_
    intro u4 e4
    refine HL.nil ?_
    -- region 2
    repeat refine HW.seq ?_
    refine HW.region ?_
    refine HL.still (Runs.move f0) ?_
    intro u14 e14
    refine HL.still (Runs.nilc e14) ?_
    intro u15 e15
    refine HL.still (Runs.fld (o' := 8) Try.underlying101 rfl sz99 (by decide) e15 (by rfl)) ?_
    intro u16 e16
    refine HL.still (Runs.move e4) ?_
    intro u17 e17
    refine HL.still (Runs.sliceArr Try.underlying99 sz5 e16 ⟨_, e17⟩ rfl (by omega) (Nat.le_refl _) (if_neg (by omega))) ?_
    intro u18 e18
    refine HL.still (Runs.move f1) ?_
    intro u19 e19
    refine HL.one (HO.copy Try.underlying29 sz5 e18 e19 hbb (by rw [List.length_map]; exact hkl) hkc (by rw [hcells_len, s.h8, s.len, List.length_map]; omega) (one_map B8 (fun _ => rfl) _) ?_)
    intro h1 w1
    intro u20 e20
    refine HL.still (Runs.assign e20) ?_
    intro u5 e5
    refine HL.nil ?_
    rw [List.length_map] at e20 e5
    have hbw := w1.new
    simp only [Nat.mul_one] at hbw
    rw [hcells_splice s.h8 s.len hk64] at hbw
    have hl1 := s.len
    have hr64 : (rest.take at_ ++ ks ++ rest.drop (at_ + ks.length)).length = 64 := by simp; omega
    -- region 3
    repeat refine HW.seq ?_
    refine HW.region ?_
    refine HL.still (Runs.move f1) ?_
    intro u21 e21
    refine HL.still (Runs.move e5) ?_
    intro u22 e22
    refine HL.still (Runs.sliceSl Try.underlying29 sz5 e21 ⟨_, e22⟩ rfl hkle hcap' rfl) ?_
    intro u23 e23
    refine HL.still (Runs.assign e23) ?_
    intro u1 e1
    refine HL.nil ?_
    -- region 4
    repeat refine HW.seq ?_
    refine HW.region ?_
    refine HL.still (Runs.move f0) ?_
    intro u24 e24
    refine HL.still (Runs.nilc e24) ?_
    intro u25 e25
    refine HL.still (Runs.fld (o' := 72) Try.underlying101 rfl sz3 (by decide) e25 (by rfl)) ?_
    intro u26 e26
    refine HL.still (Runs.load Try.underlying3 rfl e26 (hcell_n hbw s.h8 hr64)) ?_
    intro u27 e27
    refine HL.still (Runs.move e5) ?_
    intro u28 e28
    refine HL.still (Runs.add e27 e28 (i64w (by omega))) ?_
    intro u29 e29
    refine HL.still (Runs.nilc e24) ?_
    intro u30 e30
    refine HL.still (Runs.fld (o' := 72) Try.underlying101 rfl sz3 (by decide) e30 (by rfl)) ?_
    intro u31 e31
    refine HL.zero (HO.store (s := 1) sz3 e31 e29 rfl hbw (by rw [hcells_len, s.h8, hr64]; omega) rfl ?_)
    intro h2 w2
    refine HL.nil ?_
    have hb2 := w2.new
    rw [hcells_set_n s.h8 hr64] at hb2
    have hE2 : ExB b h h2 := (hE.trans (ExB.of_wr w1)).trans (ExB.of_wr w2)
    have hQk : Q ++ ks = P ++ xs.take (c + ks.length) := by
      have hkp : ks = ys.take ks.length := List.prefix_iff_eq_take.1 (by rw [hks]; exact List.take_prefix _ _)
      rw [hQ, List.append_assoc, List.take_add, ← hys, ← hkp]
    have hsrc2 : Src h' b (some ⟨sb, so, none⟩) ys := .inr ⟨sb, so, rfl, hne, hsc⟩
    have hdk : ys.drop ks.length = xs.drop (c + ks.length) := by rw [hys, List.drop_drop]
    have hfin : ∃ (a' : Option Addr) (cap' : Nat), u1 = .slice a' (xs.drop (c + ks.length)).length cap' ∧ (xs.drop (c + ks.length)).length ≤ cap' ∧ Src h2 b a' (xs.drop (c + ks.length)) := by
      refine ⟨_, _, by rw [e1, ← hdk, List.length_drop], by rw [← hdk, List.length_drop]; omega, ?_⟩
      rw [← hdk]
      exact (hsrc2.drop ks.length hcap' hkle rfl).exb ((ExB.of_wr w1).trans (ExB.of_wr w2))
    have hn2 : (Q.length : Int) + (ks.length : Int) = ((Q ++ ks).length : Int) := by simp
    rw [hn2] at hb2
    -- region 5
    repeat refine HW.seq ?_
    refine HW.region ?_
    refine HL.still (Runs.move e4) ?_
    intro u32 e32
    refine HL.still (Runs.move e5) ?_
    intro u33 e33
    refine HL.still (Runs.add e32 e33 (i64w (by omega))) ?_
    intro u34 e34
    refine HL.still (Runs.eql e34 rfl rfl) ?_
    intro u35 e35
    refine HL.nil ?_
    by_cases hfull : at_ + ks.length = 64
    · skip
      repeat refine HW.seq ?_
      refine HW.yes ?_ ?_
      exact e35.trans (congrArg Value.bool (by simp; omega))
      -- region 6
      repeat refine HW.seq ?_
      refine HW.region ?_
      refine HL.still (Runs.move f0) ?_
      intro u36 e36
      refine HL.one (HO.call Try.func73 bd73 nm73 (args1 e36) rfl ((mix_ch _ b hs _ _ s.h8 hr64 hb2).mono ?_))
      rintro _ h3 ⟨rfl, hb3, hE3⟩
      intro u37 e37
      refine HL.nil ?_
      obtain ⟨a2, cap2, q1, q2, q3⟩ := hfin
      refine ⟨xs.length - (c + ks.length), by omega, c + ks.length, by omega, rfl, f0, ⟨a2, cap2, q1, q2, q3.exb hE3⟩, ?_, hE2.trans hE3⟩
      rw [← hQk]
      subst hat_
      exact ⟨_, _, s.full hfull, hb3⟩
    · skip
      repeat refine HW.seq ?_
      refine HW.no ?_ ?_
      exact e35.trans (congrArg Value.bool (by simp; omega))
      refine HW.skip ?_
      obtain ⟨a2, cap2, q1, q2, q3⟩ := hfin
      refine ⟨xs.length - (c + ks.length), by omega, c + ks.length, by omega, rfl, f0, ⟨a2, cap2, q1, q2, q3⟩, ?_, hE2⟩
      rw [← hQk]
      subst hat_
      exact ⟨_, _, s.few (by omega), hb2⟩
  · skip
    -- region 0
    repeat refine HW.seq ?_
    refine HW.region ?_
    refine HL.still (Runs.move f1) ?_
    intro u6 e6
    refine HL.still (Runs.lenSl rfl Try.underlying29 e6) ?_
    intro u7 e7
    refine HL.still (Runs.gtr e7 rfl rfl) ?_
    intro u8 e8
    refine HL.nil ?_
    repeat refine HW.seq ?_
    refine HW.no ?_ ?_
    exact e8.trans (congrArg Value.bool (decide_eq_false (by omega)))
    refine HW.exitHere ?_
    have hce : c = xs.length := by omega
    subst hce
    rw [List.take_length] at hb'
    exact RT.zero rfl ⟨rfl, hb', hE⟩
end Go.Proofs.Ytklelhfgbjpifaa
