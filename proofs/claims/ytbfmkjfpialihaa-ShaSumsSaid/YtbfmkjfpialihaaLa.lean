/- onionskinlaw01.ShaSums returns true. -/
import Derived.Test.YtbfmkjfpialihaaWh
namespace Go.Proofs.Ytbfmkjfpialihaa
set_option linter.unnecessarySimpa false
set_option linter.unusedSimpArgs false
set_option linter.unusedVariables false
open Go.RowKit
theorem lawSums_ch (h : Heap) (xs : List UInt8) (a : Option Addr) (cap : Nat) (hsrc : Byt h a xs) (hcap : xs.length ≤ cap) :
    CH Try.prog 3 #[.slice a xs.length cap] h fun v h' => v = .bool true ∧ Ext h h' := by
  refine CH.of_body Try.func3 rfl rfl rfl ?_
  intro f hf
  have p0 : f 0 = .slice a xs.length cap := by rw [hf]; exact fr0_at rfl
  -- region 0
  repeat refine HW.seq ?_
  refine HW.region ?_
  refine HL.still (Runs.assign rfl) ?_
  intro u2 e2
  refine HL.nil ?_
  -- region 1
  repeat refine HW.seq ?_
  refine HW.region ?_
  refine HL.one (HO.call Try.func13 bd13 nm13 (args0) rfl ((small_ch _).mono ?_))
  rintro _ h1 ⟨rfl, E1⟩
  intro u5 e5
  refine HL.still (Runs.assign e5) ?_
  intro u3 e3
  refine HL.nil ?_
  -- region 2
  repeat refine HW.seq ?_
  refine HW.region ?_
  refine HL.still (Runs.move p0) ?_
  intro u6 e6
  refine HL.still (Runs.lenSl rfl Try.underlying22 e6) ?_
  intro u7 e7
  refine HL.still (Runs.gtr e7 rfl rfl) ?_
  intro u8 e8
  refine HL.nil ?_
  by_cases hlt : xs.length ≤ 2000
  · skip
    repeat refine HW.seq ?_
    refine HW.no ?_ ?_
    exact e8.trans (congrArg Value.bool (decide_eq_false (by omega)))
    refine HW.skip ?_
    -- region 4
    repeat refine HW.seq ?_
    refine HW.region ?_
    refine HL.one (HO.bytes0 ?_)
    intro h2 w2
    intro u10 e10
    refine HL.still (Runs.move p0) ?_
    intro u11 e11
    refine HL.one (HO.app Try.underlying22 in5 rfl e10 e11 rfl rfl (Bs.lit (xs := []) w2 (Nat.le_refl _) (Nat.zero_le _)) ((hsrc.ext E1).ext w2.ext) (by simp; omega) (by rw [w2.size]; omega) ?_)
    intro a3 c3 h3 B3 G3
    intro u12 e12
    refine HL.still (Runs.assign e12) ?_
    intro u4 e4
    refine HL.nil ?_
    have X3 : Ext h1 h3 := G3.bel w2.ext (Bs.lit (xs := []) w2 (Nat.le_refl _) (Nat.zero_le _)) (Nat.le_refl _) (Nat.le_refl _)
    rw [List.nil_append] at B3 e4
    have Y3 : Ext h h3 := E1.ext X3 (Nat.le_refl _)
    -- region 5
    repeat refine HW.seq ?_
    refine HW.region ?_
    refine HL.still (Runs.move e3) ?_
    intro u13 e13
    refine HL.still (Runs.move e13) ?_
    intro u14 e14
    refine HL.stillG rfl rfl e14 (Runs.move e4) ?_
    intro u15 e15
    refine HL.oneG rfl rfl e14 (HO.call Try.func14 bd14 nm14 (args1 e15) rfl ((sum_ch h3 xs a3 c3 B3.byt B3.2 (by omega)).mono ?_))
    rintro _ h4 ⟨rfl, E4⟩
    intro u16 e16
    refine HL.stillG rfl rfl e14 (Runs.move p0) ?_
    intro u17 e17
    refine HL.oneG rfl rfl e14 (HO.call Try.func15 bd15 nm15 (args1 e17) rfl ((rsum_ch h4 xs a cap ((hsrc.ext Y3).ext E4) (by omega)).mono ?_))
    rintro _ h5 ⟨rfl, E5⟩
    intro u18 e18
    refine HL.stillG rfl rfl e14 (Runs.eqBytes Try.underlying25 Try.underlying5 sz5 eg25 e16 e18 (t := true) (SHA_len _) (SHA_len _) (beq_self_eq_true _)) ?_
    intro u19 e19
    refine HL.still (Runs.pick e14 e19) ?_
    intro u20 e20
    refine HL.still (Runs.move e20) ?_
    intro u21 e21
    refine HL.stillG rfl rfl e21 (Runs.move e4) ?_
    intro u22 e22
    refine HL.stillG rfl rfl e21 (Runs.toStrB Try.underlying22 Try.underlying5 Try.underlying9 e22 rfl ((B3.byt.ext E4).ext E5)) ?_
    intro u23 e23
    refine HL.stillG rfl rfl e21 (Runs.move p0) ?_
    intro u24 e24
    refine HL.stillG rfl rfl e21 (Runs.toStrB Try.underlying22 Try.underlying5 Try.underlying9 e24 rfl (((hsrc.ext Y3).ext E4).ext E5)) ?_
    intro u25 e25
    refine HL.stillG rfl rfl e21 (Runs.eqStr e23 e25 (t := true) (beq_self_eq_true _)) ?_
    intro u26 e26
    refine HL.still (Runs.pick e21 e26) ?_
    intro u27 e27
    refine HL.still (Runs.assign e27) ?_
    intro u2 e2
    refine HL.nil ?_
    refine HW.ret ?_
    exact RT.one rfl e2 ⟨rfl, (Y3.ext E4 (Nat.le_refl _)).ext E5 (Nat.le_refl _)⟩
  · skip
    repeat refine HW.seq ?_
    refine HW.yes ?_ ?_
    exact e8.trans (congrArg Value.bool (decide_eq_true (by omega)))
    -- region 3
    repeat refine HW.seq ?_
    refine HW.region ?_
    refine HL.still (Runs.move e3) ?_
    intro u9 e9
    refine HL.still (Runs.assign e9) ?_
    intro u2 e2
    refine HL.nil ?_
    refine HW.ret ?_
    exact RT.one rfl e2 ⟨rfl, E1⟩
end Go.Proofs.Ytbfmkjfpialihaa
