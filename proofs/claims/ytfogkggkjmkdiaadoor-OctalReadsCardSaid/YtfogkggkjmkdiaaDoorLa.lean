/- onionskinlaw05.OctalReads returns true. -/
import Derived.Test.YtfogkggkjmkdiaaDoorWl
namespace Go.Proofs.YtfogkggkjmkdiaaDoor
set_option linter.unnecessarySimpa false
set_option linter.unusedSimpArgs false
set_option linter.unusedVariables false
open Go.RowKit
theorem lawReads_ch (h : Heap) (xs : List UInt8) (a : Option Addr) (cap : Nat) (hsrc : Byt h a xs) (hcap : xs.length ≤ cap) :
    CH Tryd.prog 3 #[.slice a xs.length cap] h fun v h' => v = .bool true ∧ Ext h h' := by
  refine CH.of_body Tryd.func3 rfl rfl rfl ?_
  intro f hf
  have p0 : f 0 = .slice a xs.length cap := by rw [hf]; exact fr0_at rfl
  -- region 0
  repeat refine HW.seq ?_
  refine HW.region ?_
  refine HL.still (Runs.assign rfl) ?_
  intro u2 e2
  refine HL.nil ?_
  -- region 1
  repeat refine HW.seq ?_
  refine HW.region ?_
  refine HL.one (HO.call Tryd.func13 bd13 nm13 (args0) rfl ((small5_ch _).mono ?_))
  rintro _ h1 ⟨rfl, E1⟩
  intro u8 e8
  refine HL.still (Runs.assign e8) ?_
  intro u3 e3
  refine HL.nil ?_
  by_cases hbig : xs.length > 300
  · skip
    -- region 2
    repeat refine HW.seq ?_
    refine HW.region ?_
    refine HL.still (Runs.move p0) ?_
    intro u9 e9
    refine HL.still (Runs.lenSl rfl Tryd.underlying22 e9) ?_
    intro u10 e10
    refine HL.still (Runs.gtr e10 rfl (t := true) (decide_eq_true (by omega))) ?_
    intro u11 e11
    refine HL.nil ?_
    repeat refine HW.seq ?_
    refine HW.yes ?_ ?_
    exact e11
    -- region 3
    repeat refine HW.seq ?_
    refine HW.region ?_
    refine HL.still (Runs.move e3) ?_
    intro u12 e12
    refine HL.still (Runs.assign e12) ?_
    intro u2 e2
    refine HL.nil ?_
    refine HW.ret ?_
    exact RT.one rfl e2 ⟨rfl, E1⟩
  · skip
    -- region 2
    repeat refine HW.seq ?_
    refine HW.region ?_
    refine HL.still (Runs.move p0) ?_
    intro u9 e9
    refine HL.still (Runs.lenSl rfl Tryd.underlying22 e9) ?_
    intro u10 e10
    refine HL.still (Runs.gtr e10 rfl (t := false) (decide_eq_false (by omega))) ?_
    intro u11 e11
    refine HL.nil ?_
    repeat refine HW.seq ?_
    refine HW.no ?_ ?_
    exact e11
    refine HW.skip ?_
    -- region 4
    repeat refine HW.seq ?_
    refine HW.region ?_
    refine HL.still (Runs.move p0) ?_
    intro u14 e14
    refine HL.one (HO.call Tryd.func14 bd14 nm14 (args1 e14) rfl ((read_ch h1 xs a cap (hsrc.ext E1) hcap (by omega)).mono ?_))
    rintro _ h2 ⟨rfl, E2⟩
    intro u15 e15
    refine HL.still (Runs.move e15) ?_
    intro u13 e13
    refine HL.still (Runs.extr e13 rfl) ?_
    intro u16 e16
    refine HL.still (Runs.extr e13 rfl) ?_
    intro u17 e17
    refine HL.still (Runs.assign e16) ?_
    intro u4 e4
    refine HL.still (Runs.assign e17) ?_
    intro u5 e5
    refine HL.nil ?_
    -- region 5
    repeat refine HW.seq ?_
    refine HW.region ?_
    refine HL.still (Runs.move p0) ?_
    intro u19 e19
    refine HL.one (HO.call Tryd.func15 bd15 nm15 (args1 e19) rfl (((rread_ch h2 xs a cap ((hsrc.ext E1).ext E2) (by omega)).same).mono ?_))
    rintro _ h3 ⟨rfl, E3⟩
    intro u20 e20
    refine HL.still (Runs.move e20) ?_
    intro u18 e18
    refine HL.still (Runs.extr e18 rfl) ?_
    intro u21 e21
    refine HL.still (Runs.extr e18 rfl) ?_
    intro u22 e22
    refine HL.still (Runs.assign e21) ?_
    intro u6 e6
    refine HL.still (Runs.assign e22) ?_
    intro u7 e7
    refine HL.nil ?_
    -- region 6
    repeat refine HW.seq ?_
    refine HW.region ?_
    refine HL.still (Runs.move e3) ?_
    intro u23 e23
    refine HL.still (Runs.move e23) ?_
    intro u24 e24
    refine HL.stillG rfl rfl e24 (Runs.move e4) ?_
    intro u25 e25
    refine HL.stillG rfl rfl e24 (Runs.move e6) ?_
    intro u26 e26
    refine HL.stillG rfl rfl e24 (Runs.eql e25 e26 (t := true) (beq_self_eq_true _)) ?_
    intro u27 e27
    refine HL.still (Runs.pick e24 e27) ?_
    intro u28 e28
    refine HL.still (Runs.move e28) ?_
    intro u29 e29
    refine HL.stillG rfl rfl e29 (Runs.move e5) ?_
    intro u30 e30
    refine HL.stillG rfl rfl e29 (Runs.move e7) ?_
    intro u31 e31
    refine HL.stillG rfl rfl e29 (Runs.eqB Tryd.underlying4 e30 e31 (b := true) (beq_self_eq_true _)) ?_
    intro u32 e32
    refine HL.still (Runs.pick e29 e32) ?_
    intro u33 e33
    refine HL.still (Runs.assign e33) ?_
    intro u2 e2
    refine HL.nil ?_
    refine HW.ret ?_
    exact RT.one rfl e2 ⟨rfl, (E1.ext E2 (Nat.le_refl _)).ext E3 (Nat.le_refl _)⟩
end Go.Proofs.YtfogkggkjmkdiaaDoor
