/- Walks of the small functions on words: bits.RotateLeft32, onionskinref01.turn, sha.round. -/
import Derived.Test.YtbfmkjfpialihaaTab
import Derived.WalkSpells
namespace Go.Proofs.Ytbfmkjfpialihaa
set_option linter.unnecessarySimpa false
set_option linter.unusedSimpArgs false
set_option linter.unusedVariables false
open Go.RowKit
theorem ret_u32 {k : IntKind} {a b : Int} (h : a = b) : Ending.returned (.int k a) = .returned (.int k b) := by rw [h]
theorem and31 (n : Int) (hn : -32 < n) (hn' : n < 0) : bits BinOp.and IntKind.u64 (IntKind.u64.wrap n) 31 = n + 32 := by
  have : n = -31 ∨ n = -30 ∨ n = -29 ∨ n = -28 ∨ n = -27 ∨ n = -26 ∨ n = -25 ∨ n = -24 ∨ n = -23 ∨ n = -22 ∨ n = -21 ∨ n = -20 ∨ n = -19 ∨ n = -18 ∨ n = -17 ∨ n = -16 ∨ n = -15 ∨ n = -14 ∨ n = -13 ∨ n = -12 ∨ n = -11 ∨ n = -10 ∨ n = -9 ∨ n = -8 ∨ n = -7 ∨ n = -6 ∨ n = -5 ∨ n = -4 ∨ n = -3 ∨ n = -2 ∨ n = -1 := by omega
  rcases this with rfl | rfl | rfl | rfl | rfl | rfl | rfl | rfl | rfl | rfl | rfl | rfl | rfl | rfl | rfl | rfl | rfl | rfl | rfl | rfl | rfl | rfl | rfl | rfl | rfl | rfl | rfl | rfl | rfl | rfl | rfl <;> decide +kernel
theorem shl32 (x : BitVec 32) (n : Nat) : ((x.toNat : Int) * 2 ^ n) % 4294967296 = ((x <<< n).toNat : Int) := by
  rw [BitVec.toNat_shiftLeft, Nat.shiftLeft_eq]
  simp
theorem shr32 (x : BitVec 32) (n : Nat) : ((x.toNat : Int) / 2 ^ n) = ((x >>> n).toNat : Int) := by
  rw [BitVec.toNat_ushiftRight, Nat.shiftRight_eq_div_pow]
  simp
/-- A word turned to the right. -/
def rotr (k : Nat) (x : BitVec 32) : BitVec 32 := x <<< (32 - k) ||| x >>> k
/-- bits.RotateLeft32 at a count below 0. -/
theorem rot_any (x : BitVec 32) (n : Int) (w : World) (hn : -32 < n) (hn' : n < 0) :
    Calls Try.prog 38 #[W32 x, I64 n] w fun e w' => e = .returned (W32 (rotr (-n).toNat x)) ∧ w = w' := by
  have hx : (0 : Int) ≤ x.toNat := by omega
  have hx' : (x.toNat : Int) < 4294967296 := by omega
  have hs := and31 n hn hn'
  have hs1 : 0 ≤ n + 32 := by omega
  have hs2 : n + 32 < 32 := by omega
  go_enter Try.func38, Try.ntmps38
  go_wp2
  go_ret
  refine ⟨ret_u32 ?_, rfl⟩
  show bits BinOp.or IntKind.u32 (↑x.toNat * 2 ^ (n + 32).toNat % 4294967296) (↑x.toNat / 2 ^ (32 - (n + 32)).toNat) = _
  rw [shl32, shr32, bits_or32, show (32 - (n + 32)).toNat = (-n).toNat by omega, show (n + 32).toNat = 32 - (-n).toNat by omega]
  rfl
theorem rot_ch (k : Nat) (h0 : 0 < k) (h1 : k < 32) (x : BitVec 32) (h : Heap) : CH Try.prog 38 #[W32 x, I64 (-(k : Int))] h fun v h' => v = W32 (rotr k x) ∧ h' = h := by
  refine CH.of_same (fun w _ => rot_any x (-(k : Int)) w (by omega) (by omega)) ⟨?_, rfl⟩
  rw [show (- -(k : Int)).toNat = k by omega]
/-- onionskinref01.turn. -/
theorem turn_any (x : BitVec 32) (n : Int) (w : World) (hn : 0 < n) (hn' : n < 32) :
    Calls Try.prog 29 #[W32 x, .int .u64 n] w fun e w' => e = .returned (W32 (rotr n.toNat x)) ∧ w = w' := by
  have hx : (0 : Int) ≤ x.toNat := by omega
  have hx' : (x.toNat : Int) < 4294967296 := by omega
  go_enter Try.func29, Try.ntmps29
  go_wp2
  go_ret
  refine ⟨ret_u32 ?_, rfl⟩
  show bits BinOp.or IntKind.u32 (↑x.toNat / 2 ^ n.toNat) (↑x.toNat * 2 ^ (32 - n).toNat % 4294967296) = _
  rw [shl32, shr32, bits_or32, show (32 - n).toNat = 32 - n.toNat by omega, BitVec.or_comm]
  rfl
theorem turn_w (k : Nat) (h0 : 0 < k) (h1 : k < 32) (x : BitVec 32) (w : World) :
    Calls Try.prog 29 #[W32 x, .int .u64 (k : Int)] w fun e w' => e = .returned (W32 (rotr k x)) ∧ w = w' := turn_any x k w (by omega) (by omega)
/-- sha's constants. -/
def kt : List (BitVec 32) := [0x428a2f98, 0x71374491, 0xb5c0fbcf, 0xe9b5dba5, 0x3956c25b, 0x59f111f1, 0x923f82a4, 0xab1c5ed5,
  0xd807aa98, 0x12835b01, 0x243185be, 0x550c7dc3, 0x72be5d74, 0x80deb1fe, 0x9bdc06a7, 0xc19bf174,
  0xe49b69c1, 0xefbe4786, 0x0fc19dc6, 0x240ca1cc, 0x2de92c6f, 0x4a7484aa, 0x5cb0a9dc, 0x76f988da,
  0x983e5152, 0xa831c66d, 0xb00327c8, 0xbf597fc7, 0xc6e00bf3, 0xd5a79147, 0x06ca6351, 0x14292967,
  0x27b70a85, 0x2e1b2138, 0x4d2c6dfc, 0x53380d13, 0x650a7354, 0x766a0abb, 0x81c2c92e, 0x92722c85,
  0xa2bfe8a1, 0xa81a664b, 0xc24b8b70, 0xc76c51a3, 0xd192e819, 0xd6990624, 0xf40e3585, 0x106aa070,
  0x19a4c116, 0x1e376c08, 0x2748774c, 0x34b0bcb5, 0x391c0cb3, 0x4ed8aa4a, 0x5b9cca4f, 0x682e6ff3,
  0x748f82ee, 0x78a5636f, 0x84c87814, 0x8cc70208, 0x90befffa, 0xa4506ceb, 0xbef9a3f7, 0xc67178f2]
/-- sha.round. -/
theorem round_ch (h : Heap) : CH Try.prog 37 #[] h fun v h' => v = .agg (kt.map W32).toArray ∧ Ext h h' := by
  refine CH.of_body Try.func37 rfl rfl rfl ?_
  intro f hf
  -- region 0
  repeat refine HW.seq ?_
  refine HW.region ?_
  refine HL.one (HO.alloc zr46 ?_)
  intro h1 w1
  intro u0 e0
  refine HL.nil ?_
  -- region 1
  repeat refine HW.seq ?_
  refine HW.region ?_
  refine HL.still (Runs.build (v := .agg (kt.map W32).toArray) (fun w => by kernel_rfl)) ?_
  intro u1 e1
  refine HL.zero (HO.storeAll sz46 e0 e1 (one_map W32 (fun _ => rfl) _) w1.new rfl rfl ?_)
  intro h2 w2
  refine HL.nil ?_
  refine HW.ret ?_
  exact RT.cell rfl e0 w2.new Try.underlying46 rfl sz46 rfl ⟨rfl, (w1.ext).wr w2 (Nat.le_refl _)⟩
end Go.Proofs.Ytbfmkjfpialihaa
