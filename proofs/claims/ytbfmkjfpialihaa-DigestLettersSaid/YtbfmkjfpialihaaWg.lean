/- onionskinref01.pad: the padded message. -/
import Derived.Test.YtbfmkjfpialihaaWf
namespace Go.Proofs.Ytbfmkjfpialihaa
set_option linter.unnecessarySimpa false
set_option linter.unusedSimpArgs false
set_option linter.unusedVariables false
open Go.RowKit
theorem run_bytes0 (w : World) : (Instr.buildSlice 22 0 #[]).run Try.prog w = .ok (.slice (some ⟨w.heap.size, 0, none⟩) 0 0) (w.alloc (.cells (([] : List UInt8).map B8).toArray 5)) := by kernel_rfl
theorem HO.bytes0 {ρ : Operand → Value} {h : Heap} {d : Option Tmp} {ty : TypeId} {pos : String} {af : Array Edge} {gd : Option (Nat × Bool)} {K : Value → Heap → Prop}
    (k : ∀ h', Nw h h' (.cells (([] : List UInt8).map B8).toArray 5 (0, 0)) → K (.slice (some ⟨h.size, 0, none⟩) 0 0) h') : HO Try.prog ⟨d, .buildSlice 22 0 #[], ty, pos, af, gd⟩ ρ h K :=
  HO.buildSlice (fun w => by
    have e : (#[] : Array (Nat × Operand)).map (fun (i, x) => (i, ρ x)) = #[] := by simp
    rw [e]
    exact run_bytes0 w) k
/-- The place of a number's byte i, of eight. -/
def lbAt (m i : Nat) : UInt8 := UInt8.ofNat (m / 2 ^ (8 * (7 - i)))
theorem lenBytes_map (m : Nat) : (List.range 8).map (lbAt m) = lenBytes m := rfl
theorem pad_ch (h : Heap) (xs : List UInt8) (a : Option Addr) (cap : Nat) (hsrc : Byt h a xs) (hlen : xs.length < 35184372088832) :
    CH Try.prog 28 #[.slice a xs.length cap] h fun v h' => ∃ a' cap', v = .slice a' (padded xs).length cap' ∧ Bs h' h.size 5 a' cap' (padded xs) ∧ Ext h h' := by
  refine CH.of_body Try.func28 rfl rfl rfl ?_
  intro f hf
  have p0 : f 0 = .slice a xs.length cap := by rw [hf]; exact fr0_at rfl
  have hz63 : zeros xs.length < 64 := by unfold zeros; omega
  -- region 0
  repeat refine HW.seq ?_
  refine HW.region ?_
  refine HL.still (Runs.assign rfl) ?_
  intro u2 e2
  refine HL.nil ?_
  -- region 1
  repeat refine HW.seq ?_
  refine HW.region ?_
  refine HL.one (HO.bytes0 ?_)
  intro h1 w1
  intro u6 e6
  refine HL.still (Runs.move p0) ?_
  intro u7 e7
  refine HL.one (HO.app Try.underlying22 in5 rfl e6 e7 rfl rfl (Bs.lit (xs := []) w1 (Nat.le_refl _) (Nat.zero_le _)) (hsrc.ext w1.ext) (by simp; omega) (by rw [w1.size]; omega) ?_)
  intro a2 c2 h2 B2 G2
  intro u8 e8
  refine HL.still (Runs.assign e8) ?_
  intro u3 e3
  refine HL.nil ?_
  have X2 : Ext h h2 := G2.bel w1.ext (Bs.lit (xs := []) w1 (Nat.le_refl _) (Nat.zero_le _)) (Nat.le_refl _) (Nat.le_refl _)
  have z2 := X2.size
  rw [List.nil_append] at B2 e8 e3
  -- region 2
  repeat refine HW.seq ?_
  refine HW.region ?_
  refine HL.still (Runs.move e3) ?_
  intro u9 e9
  refine HL.one (HO.bytes1 128 rfl ?_)
  intro h3 w3
  intro u10 e10
  refine HL.one (HO.app Try.underlying22 in5 rfl e9 e10 rfl rfl (B2.ext w3.ext) (byt_block w3.new) (by simp; omega) (by rw [w3.size]; omega) ?_)
  intro a4 c4 h4 B4 G4
  intro u11 e11
  refine HL.still (Runs.assign e11) ?_
  intro u3 e3
  refine HL.nil ?_
  have X4 : Ext h h4 := G4.bel (X2.nw w3 (Nat.le_refl _)) (B2.ext w3.ext) (Nat.le_refl _) (Nat.le_refl _)
  have hQ0 : (xs ++ [128]).length = xs.length + 1 := by simp
  repeat refine HW.seq ?_
  refine HW.block ?_
  refine HW.loop (fun m f h' => ∃ z : Nat, z ≤ zeros xs.length ∧ m = zeros xs.length - z ∧ f 0 = .slice a xs.length cap ∧ ∃ a' c', f 3 = .slice a' (xs ++ [128] ++ List.replicate z 0).length c' ∧ Bs h' h.size 5 a' c' (xs ++ [128] ++ List.replicate z 0) ∧ Ext h h') (zeros xs.length)
    ⟨0, Nat.zero_le _, rfl, p0, a4, c4, e3.trans (by simp), by simpa using B4, X4⟩ ?_
  clear e3 e11 B2 G2 B4 G4 X2 X4 z2
  rintro m f h' ⟨z, hz, hm, f0, a', c', f3, hB, hX⟩
  have hQl : (xs ++ [128] ++ List.replicate z (0 : UInt8)).length = xs.length + 1 + z := by simp; omega
  have hm64 : ((xs ++ [128] ++ List.replicate z (0 : UInt8)).length : Int) % 64 = (((xs.length + 1 + z) % 64 : Nat) : Int) := by rw [hQl]; omega
  have hzs := zeros_spec xs.length z hz
  have hsz := hX.size
  by_cases hlt : z < zeros xs.length
  · skip
    -- region 3
    repeat refine HW.seq ?_
    refine HW.region ?_
    refine HL.still (Runs.move f3) ?_
    intro u12 e12
    refine HL.still (Runs.lenSl rfl Try.underlying22 e12) ?_
    intro u13 e13
    refine HL.still (Runs.rem e13 rfl (by decide) ((rem64 (by omega) (by decide)).trans hm64)) ?_
    intro u14 e14
    refine HL.still (Runs.neq e14 rfl rfl) ?_
    intro u15 e15
    refine HL.nil ?_
    repeat refine HW.seq ?_
    refine HW.yes ?_ ?_
    exact e15.trans (congrArg Value.bool (by simp; omega))
    refine HW.skip ?_
    repeat refine HW.seq ?_
    refine HW.block ?_
    -- region 4
    repeat refine HW.seq ?_
    refine HW.region ?_
    refine HL.still (Runs.move f3) ?_
    intro u16 e16
    refine HL.one (HO.bytes1 0 rfl ?_)
    intro h6 w6
    intro u17 e17
    refine HL.one (HO.app Try.underlying22 in5 rfl e16 e17 rfl rfl (hB.ext w6.ext) (byt_block w6.new) (by rw [hQl]; simp; omega) (by rw [w6.size]; omega) ?_)
    intro a7 c7 h7 B7 G7
    intro u18 e18
    refine HL.still (Runs.assign e18) ?_
    intro u3 e3
    refine HL.nil ?_
    have X7 : Ext h h7 := G7.bel (hX.nw w6 (Nat.le_refl _)) (hB.ext w6.ext) (Nat.le_refl _) (Nat.le_refl _)
    refine ⟨zeros xs.length - (z + 1), by omega, z + 1, by omega, rfl, f0, a7, c7, ?_, ?_, X7⟩
    · rw [List.replicate_succ', ← List.append_assoc]; exact e3
    · rw [List.replicate_succ', ← List.append_assoc]; exact B7
  · have hzz : z = zeros xs.length := by omega
    -- region 3
    repeat refine HW.seq ?_
    refine HW.region ?_
    refine HL.still (Runs.move f3) ?_
    intro u12 e12
    refine HL.still (Runs.lenSl rfl Try.underlying22 e12) ?_
    intro u13 e13
    refine HL.still (Runs.rem e13 rfl (by decide) ((rem64 (by omega) (by decide)).trans hm64)) ?_
    intro u14 e14
    refine HL.still (Runs.neq e14 rfl rfl) ?_
    intro u15 e15
    refine HL.nil ?_
    repeat refine HW.seq ?_
    refine HW.no ?_ ?_
    exact e15.trans (congrArg Value.bool (by simp; omega))
    refine HW.exitHere ?_
    subst hzz
    clear hzs hlt hm
    -- region 5
    repeat refine HW.seq ?_
    refine HW.region ?_
    refine HL.still (Runs.move f0) ?_
    intro u19 e19
    refine HL.still (Runs.lenSl rfl Try.underlying22 e19) ?_
    intro u20 e20
    refine HL.still (Runs.conv Try.underlying3 Try.underlying54 e20 (u64w (by omega))) ?_
    intro u21 e21
    refine HL.still (Runs.mul e21 rfl (u64w (by omega))) ?_
    intro u22 e22
    refine HL.still (Runs.assign e22) ?_
    intro u4 e4
    refine HL.nil ?_
    -- region 6
    repeat refine HW.seq ?_
    refine HW.region ?_
    refine HL.still (Runs.assign rfl) ?_
    intro u5 e5
    refine HL.nil ?_
    obtain ⟨Q, hQ⟩ : ∃ Q, Q = xs ++ [128] ++ List.replicate (zeros xs.length) (0 : UInt8) := ⟨_, rfl⟩
    rw [← hQ] at hQl f3 hB
    repeat refine HW.seq ?_
    refine HW.block ?_
    refine HW.loop (fun m f g => ∃ k : Nat, k ≤ 8 ∧ m = 8 - k ∧ f 5 = I64 (7 - k) ∧ f 4 = .int .u64 ((xs.length : Int) * 8) ∧ ∃ a' c', f 3 = .slice a' (Q ++ (List.range k).map (lbAt (xs.length * 8))).length c' ∧ Bs g h.size 5 a' c' (Q ++ (List.range k).map (lbAt (xs.length * 8))) ∧ Ext h g) 8
      ⟨0, Nat.zero_le _, rfl, e5, e4, a', c', f3.trans (by simp), by simpa using hB, hX⟩ ?_
    clear hX hB f3 e5 e4 f0
    rintro m f g ⟨k, hk, hm, f5, f4, a', c', f3, hB, hX⟩
    have hRl : (Q ++ (List.range k).map (lbAt (xs.length * 8))).length = Q.length + k := by simp
    have hsz := hX.size
    by_cases hlt : k < 8
    · skip
      -- region 7
      repeat refine HW.seq ?_
      refine HW.region ?_
      refine HL.still (Runs.move f5) ?_
      intro u23 e23
      refine HL.still (Runs.geq e23 rfl rfl) ?_
      intro u24 e24
      refine HL.nil ?_
      repeat refine HW.seq ?_
      refine HW.yes ?_ ?_
      exact e24.trans (congrArg Value.bool (decide_eq_true (by omega)))
      refine HW.skip ?_
      repeat refine HW.seq ?_
      refine HW.block ?_
      have hsh : ((xs.length : Int) * 8).fdiv (2 ^ (min ((8 : Int) * (7 - (k : Int))).toNat IntKind.u64.bits)) = (((xs.length * 8) / 2 ^ (8 * (7 - k)) : Nat) : Int) := by
        rw [show (8 : Int) * (7 - (k : Int)) = ((8 * (7 - k) : Nat) : Int) by omega]
        exact shr64i (xs.length * 8) (8 * (7 - k)) (by omega)
      -- region 9
      repeat refine HW.seq ?_
      refine HW.region ?_
      refine HL.still (Runs.move f3) ?_
      intro u27 e27
      refine HL.still (Runs.move f4) ?_
      intro u28 e28
      refine HL.still (Runs.move f5) ?_
      intro u29 e29
      refine HL.still (Runs.conv Try.underlying3 Try.underlying49 e29 (u64w (by omega))) ?_
      intro u30 e30
      refine HL.still (Runs.mul rfl e30 (u64w (by omega))) ?_
      intro u31 e31
      refine HL.still (Runs.shr e28 e31 (by omega) hsh) ?_
      intro u32 e32
      refine HL.still (Runs.conv Try.underlying54 Try.underlying5 e32 (u8_of_nat _)) ?_
      intro u33 e33
      refine HL.one (HO.bytes1 (lbAt (xs.length * 8) k) e33 ?_)
      intro h6 w6
      intro u34 e34
      refine HL.one (HO.app Try.underlying22 in5 rfl e27 e34 rfl rfl (hB.ext w6.ext) (byt_block w6.new) (by rw [hRl]; simp; omega) (by rw [w6.size]; omega) ?_)
      intro a7 c7 h7 B7 G7
      intro u35 e35
      refine HL.still (Runs.assign e35) ?_
      intro u3 e3
      refine HL.nil ?_
      have X7 : Ext h h7 := G7.bel (hX.nw w6 (Nat.le_refl _)) (hB.ext w6.ext) (Nat.le_refl _) (Nat.le_refl _)
      -- region 8
      repeat refine HW.seq ?_
      refine HW.region ?_
      refine HL.still (Runs.move f5) ?_
      intro u25 e25
      refine HL.still (Runs.sub e25 rfl (i64w (by omega))) ?_
      intro u26 e26
      refine HL.still (Runs.assign e26) ?_
      intro u5 e5
      refine HL.nil ?_
      have er : Q ++ (List.range (k + 1)).map (lbAt (xs.length * 8)) = Q ++ (List.range k).map (lbAt (xs.length * 8)) ++ [lbAt (xs.length * 8) k] := by rw [List.range_succ, List.map_append, List.append_assoc]; rfl
      refine ⟨8 - (k + 1), by omega, k + 1, by omega, rfl, ?_, f4, a7, c7, ?_, ?_, X7⟩
      · exact e5.trans (congrArg (Value.int .i64) (by omega))
      · rw [er]; exact e3
      · rw [er]; exact B7
    · have hk8 : k = 8 := by omega
      subst hk8
      -- region 7
      repeat refine HW.seq ?_
      refine HW.region ?_
      refine HL.still (Runs.move f5) ?_
      intro u23 e23
      refine HL.still (Runs.geq e23 rfl rfl) ?_
      intro u24 e24
      refine HL.nil ?_
      repeat refine HW.seq ?_
      refine HW.no ?_ ?_
      exact e24.trans (congrArg Value.bool (decide_eq_false (by omega)))
      refine HW.exitHere ?_
      -- region 10
      repeat refine HW.seq ?_
      refine HW.region ?_
      refine HL.still (Runs.move f3) ?_
      intro u36 e36
      refine HL.still (Runs.assign e36) ?_
      intro u2 e2
      refine HL.nil ?_
      refine HW.ret ?_
      rw [lenBytes_map, hQ] at hB e2
      exact RT.one rfl e2 ⟨a', c', rfl, hB, hX⟩
end Go.Proofs.Ytbfmkjfpialihaa
