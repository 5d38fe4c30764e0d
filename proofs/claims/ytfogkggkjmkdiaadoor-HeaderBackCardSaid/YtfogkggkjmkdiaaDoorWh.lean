/- octal.lay: a number's digits. -/
import Derived.Test.YtfogkggkjmkdiaaDoorWg
namespace Go.Proofs.YtfogkggkjmkdiaaDoor
set_option linter.unnecessarySimpa false
set_option linter.unusedSimpArgs false
set_option linter.unusedVariables false
open Go.RowKit
theorem bits_and64 (x y : Nat) (hx : x < 9223372036854775808) (hy : y < 9223372036854775808) : bits .and .i64 (x : Int) (y : Int) = ((x &&& y : Nat) : Int) := by
  have h : bits .and .i64 (x : Int) (y : Int) = IntKind.i64.wrap ((BitVec.ofInt 64 (x : Int)) &&& (BitVec.ofInt 64 (y : Int))).toNat := rfl
  have hlt : x &&& y ≤ x := Nat.and_le_left
  have e : ((BitVec.ofInt 64 (x : Int)) &&& (BitVec.ofInt 64 (y : Int))).toNat = x &&& y := by
    rw [BitVec.toNat_and, BitVec.ofInt_natCast, BitVec.ofInt_natCast, BitVec.toNat_ofNat, BitVec.toNat_ofNat, Nat.mod_eq_of_lt (by omega), Nat.mod_eq_of_lt (by omega)]
  rw [h, e]
  exact i64w (by omega)
theorem u8_of_nat (m : Nat) : IntKind.u8.wrap (m : Int) = ((UInt8.ofNat m).toNat : Int) := by
  rw [IntKind.wrap_u8, UInt8.toNat_ofNat']
  omega
/-- Digit j of m, the highest first. -/
def dgt (b n m j : Nat) : Nat := n / 2 ^ (b * (m - 1 - j)) % 2 ^ b
def dgts (b n m : Nat) : List Nat := (List.range m).map (dgt b n m)
/-- The last k of them laid. -/
def laid (b n m k : Nat) : List UInt8 := List.replicate (m - k) 0 ++ ((dgts b n m).map UInt8.ofNat).drop (m - k)
theorem laid_len (b n m k : Nat) (hk : k ≤ m) : (laid b n m k).length = m := by simp [laid, dgts]; try omega
theorem laid_step (b n m k : Nat) (hk : k < m) : (laid b n m k).set (m - 1 - k) (UInt8.ofNat (n / 2 ^ (b * k) % 2 ^ b)) = laid b n m (k + 1) := by
  unfold laid
  have h1 : m - k = (m - 1 - k) + 1 := by omega
  have h2 : m - (k + 1) = m - 1 - k := by omega
  rw [h2, h1, List.replicate_succ', List.append_assoc, List.set_append_right _ _ (by simp)]
  congr 1
  simp only [List.length_replicate, Nat.sub_self, List.singleton_append, List.set_cons_zero]
  have hlt : m - 1 - k < ((dgts b n m).map UInt8.ofNat).length := by simp [dgts]; omega
  rw [List.drop_eq_getElem_cons hlt]
  congr 1
  have e : m - 1 - (m - 1 - k) = k := by omega
  simp [dgts, dgt, e]
theorem laid_zero (b n m : Nat) : laid b n m 0 = List.replicate m 0 := by
  unfold laid
  rw [Nat.sub_zero, List.drop_of_length_le (by simp [dgts]), List.append_nil]
theorem laid_all (b n m : Nat) : laid b n m m = (dgts b n m).map UInt8.ofNat := by simp [laid]
theorem lay_ch (h : Heap) (b n m : Nat) (hb : b ≤ 8) (hn : n ≤ 4611686018427387904) (hm : m ≤ 12) : CH Tryd.prog 32 #[I64 (n : Int), I64 (b : Int), I64 (m : Int)] h fun v h' => v = .tuple #[.slice (some ⟨h.size, 0, none⟩) m m, .bool (decide (n / 2 ^ (b * m) = 0))] ∧ h'[h.size]? = some (.cells (((dgts b n m).map UInt8.ofNat).map B8).toArray 5 (0, 0)) ∧ Ext h h' := by
  refine CH.of_body Tryd.func32 rfl rfl rfl ?_
  intro f hf
  have p0 : f 0 = I64 (n : Int) := by rw [hf]; exact fr0_at rfl
  have p1 : f 1 = I64 (b : Int) := by rw [hf]; exact fr0_at rfl
  have p2 : f 2 = I64 (m : Int) := by rw [hf]; exact fr0_at rfl
  have hpb : 0 < 2 ^ b := Nat.pow_pos (by decide)
  have hpb2 : 2 ^ b ≤ 256 := Nat.pow_le_pow_right (by decide) (show b ≤ 8 from hb)
  have emin : min (b : Int).toNat IntKind.i64.bits = b := by simp [IntKind.bits]; omega
  -- region 0
  repeat refine HW.seq ?_
  refine HW.region ?_
  refine HL.still (Runs.assign rfl) ?_
  intro u6 e6
  refine HL.still (Runs.assign rfl) ?_
  intro u7 e7
  refine HL.nil ?_
  -- region 1
  repeat refine HW.seq ?_
  refine HW.region ?_
  refine HL.still (Runs.move p2) ?_
  intro u10 e10
  refine HL.one (HO.makeB Tryd.underlying22 in5 e10 e10 (by omega) ?_)
  intro h1 w1
  intro u11 e11
  refine HL.still (Runs.assign e11) ?_
  intro u8 e8
  refine HL.nil ?_
  -- region 2
  repeat refine HW.seq ?_
  refine HW.region ?_
  refine HL.still (Runs.move p2) ?_
  intro u12 e12
  refine HL.still (Runs.move rfl) ?_
  intro u13 e13
  refine HL.nil ?_
  repeat refine HW.seq ?_
  refine HW.block ?_
  refine HW.loop (fun c f g => ∃ k : Nat, k ≤ m ∧ c = m - k ∧ f 13 = I64 k ∧ f 12 = I64 m ∧ f 0 = I64 ((n / 2 ^ (b * k) : Nat) : Int) ∧ f 1 = I64 (b : Int) ∧ f 2 = I64 (m : Int) ∧ f 8 = .slice (some ⟨h.size, 0, none⟩) m m ∧ g[h.size]? = some (.cells ((laid b n m k).map B8).toArray 5 (0, 0)) ∧ Ext h g) m
    ⟨0, Nat.zero_le _, rfl, e13, e12, by rw [Nat.mul_zero, Nat.pow_zero, Nat.div_one]; exact p0, p1, p2, e8, by rw [laid_zero]; exact w1.new, w1.ext⟩ ?_
  clear e8 e12 e13 p0 p1 p2
  rintro c f g ⟨k, hk, hc, f13, f12, f0, f1, f2, f8, hbk, hX⟩
  have hll := laid_len b n m k hk
  obtain ⟨q, hq⟩ : ∃ q, q = n / 2 ^ (b * k) := ⟨_, rfl⟩
  have hqn : q ≤ n := by rw [hq]; exact Nat.div_le_self _ _
  rw [← hq] at f0
  by_cases hlt : k < m
  · have hshl : IntKind.i64.wrap ((1 : Int) * 2 ^ (min (b : Int).toNat IntKind.i64.bits)) = ((2 ^ b : Nat) : Int) := by
      rw [emin, Int.one_mul, show (2 : Int) ^ b = ((2 ^ b : Nat) : Int) by simp]
      exact i64w (by omega)
    have hand : bits .and .i64 (q : Int) (((2 ^ b : Nat) : Int) - 1) = ((q % 2 ^ b : Nat) : Int) := by
      rw [show ((2 ^ b : Nat) : Int) - 1 = ((2 ^ b - 1 : Nat) : Int) by omega, bits_and64 _ _ (by omega) (by omega), Nat.and_two_pow_sub_one_eq_mod]
    have hshr : ((q : Int)).fdiv (2 ^ (min (b : Int).toNat IntKind.i64.bits)) = ((q / 2 ^ b : Nat) : Int) := by
      rw [emin, Int.fdiv_eq_ediv_of_nonneg _ (Int.pow_nonneg (by decide))]
      simp
    -- region 3
    repeat refine HW.seq ?_
    refine HW.region ?_
    refine HL.still (Runs.lss f13 f12 rfl) ?_
    intro u14 e14
    refine HL.nil ?_
    repeat refine HW.seq ?_
    refine HW.yes ?_ ?_
    exact e14.trans (congrArg Value.bool (decide_eq_true (by omega)))
    refine HW.skip ?_
    repeat refine HW.seq ?_
    refine HW.block ?_
    -- region 4
    repeat refine HW.seq ?_
    refine HW.region ?_
    refine HL.still (Runs.move f13) ?_
    intro u15 e15
    refine HL.still (Runs.assign e15) ?_
    intro u9 e9
    refine HL.nil ?_
    -- region 5
    repeat refine HW.seq ?_
    refine HW.region ?_
    refine HL.still (Runs.move f8) ?_
    intro u16 e16
    refine HL.still (Runs.move f2) ?_
    intro u17 e17
    refine HL.still (Runs.sub e17 rfl (i64w (by omega))) ?_
    intro u18 e18
    refine HL.still (Runs.move e9) ?_
    intro u19 e19
    refine HL.still (Runs.sub e18 e19 (i64w (by omega))) ?_
    intro u20 e20
    refine HL.still (Runs.move f0) ?_
    intro u21 e21
    refine HL.still (Runs.move f1) ?_
    intro u22 e22
    refine HL.still (Runs.shl rfl e22 (by omega) hshl) ?_
    intro u23 e23
    refine HL.still (Runs.sub e23 rfl (i64w (by omega))) ?_
    intro u24 e24
    refine HL.still (Runs.and e21 e24 hand) ?_
    intro u25 e25
    refine HL.still (Runs.conv Tryd.underlying3 Tryd.underlying5 e25 (u8_of_nat _)) ?_
    intro u26 e26
    refine HL.still (Runs.ixSl (o' := m - 1 - k) Tryd.underlying22 sz5 e16 e20 (by omega) (by omega) (by omega)) ?_
    intro u27 e27
    refine HL.zero (HO.store (s := 1) sz5 e27 e26 rfl hbk (by rw [List.length_map, hll]; omega) rfl ?_)
    intro h2 w2
    refine HL.nil ?_
    have hb2 := w2.new
    rw [← List.map_set, hq, laid_step b n m k hlt] at hb2
    -- region 6
    repeat refine HW.seq ?_
    refine HW.region ?_
    refine HL.still (Runs.move f0) ?_
    intro u28 e28
    refine HL.still (Runs.move f1) ?_
    intro u29 e29
    refine HL.still (Runs.shr e28 e29 (by omega) hshr) ?_
    intro u30 e30
    refine HL.still (Runs.assign e30) ?_
    intro u0 e0
    refine HL.nil ?_
    -- region 7
    repeat refine HW.seq ?_
    refine HW.region ?_
    refine HL.still (Runs.add f13 rfl (i64w (by omega))) ?_
    intro u31 e31
    refine HL.still (Runs.move e31) ?_
    intro u13 e13
    refine HL.nil ?_
    refine ⟨m - (k + 1), by omega, k + 1, by omega, rfl, e13, f12, ?_, f1, f2, f8, hb2, hX.wr w2 (Nat.le_refl _)⟩
    have e : n / 2 ^ (b * k) / 2 ^ b = n / 2 ^ (b * (k + 1)) := by rw [Nat.div_div_eq_div_mul, ← Nat.pow_add, Nat.mul_add, Nat.mul_one]
    exact e0.trans (by rw [hq, e])
  · have hkm : k = m := by omega
    subst hkm
    rw [laid_all] at hbk
    -- region 3
    repeat refine HW.seq ?_
    refine HW.region ?_
    refine HL.still (Runs.lss f13 f12 rfl) ?_
    intro u14 e14
    refine HL.nil ?_
    repeat refine HW.seq ?_
    refine HW.no ?_ ?_
    exact e14.trans (congrArg Value.bool (decide_eq_false (by omega)))
    refine HW.exitHere ?_
    -- region 8
    repeat refine HW.seq ?_
    refine HW.region ?_
    refine HL.still (Runs.move f8) ?_
    intro u32 e32
    refine HL.still (Runs.move f0) ?_
    intro u33 e33
    refine HL.still (Runs.eql e33 rfl (t := decide (q = 0)) (by rw [Bool.eq_iff_iff]; simp)) ?_
    intro u34 e34
    refine HL.still (Runs.assign e32) ?_
    intro u6 e6
    refine HL.still (Runs.assign e34) ?_
    intro u7 e7
    refine HL.nil ?_
    refine HW.ret ?_
    exact RT.two rfl e6 e7 ⟨by rw [hq], hbk, hX⟩
end Go.Proofs.YtfogkggkjmkdiaaDoor
