/- onionskinlaw05.OctalWrites returns true. -/
import Derived.Test.YtfogkggkjmkdiaaDoorLb
namespace Go.Proofs.YtfogkggkjmkdiaaDoor
set_option linter.unnecessarySimpa false
set_option linter.unusedSimpArgs false
set_option linter.unusedVariables false
open Go.RowKit
set_option maxRecDepth 10000 in
theorem lawWrites_ch (h : Heap) (n size : Int) (xs : List UInt8) (a : Option Addr) (cap : Nat) (hsrc : Byt h a xs) (hcap : xs.length ≤ cap) :
    CH Tryd.prog 4 #[.int .i64 n, .int .i64 size, .slice a xs.length cap] h fun v h' => v = .bool true ∧ Ext h h' := by
  refine CH.of_body Tryd.func4 rfl rfl rfl ?_
  intro f hf
  have p0 : f 0 = .int .i64 n := by rw [hf]; exact fr0_at rfl
  have p1 : f 1 = .int .i64 size := by rw [hf]; exact fr0_at rfl
  have p2 : f 2 = .slice a xs.length cap := by rw [hf]; exact fr0_at rfl
  -- region 0
  repeat refine HW.seq ?_
  refine HW.region ?_
  refine HL.still (Runs.assign rfl) ?_
  intro u6 e6
  refine HL.nil ?_
  -- region 1
  repeat refine HW.seq ?_
  refine HW.region ?_
  refine HL.one (HO.call Tryd.func13 bd13 nm13 (args0) rfl ((small5_ch _).mono ?_))
  rintro _ h1 ⟨rfl, E1⟩
  intro u13 e13
  refine HL.still (Runs.assign e13) ?_
  intro u7 e7
  refine HL.nil ?_
  by_cases q1 : xs.length > 600
  · skip
    -- region 2
    repeat refine HW.seq ?_
    refine HW.region ?_
    refine HL.still (Runs.move p2) ?_
    intro u14 e14
    refine HL.still (Runs.lenSl rfl Tryd.underlying22 e14) ?_
    intro u15 e15
    refine HL.still (Runs.gtr e15 rfl (t := true) (decide_eq_true (by omega))) ?_
    intro u16 e16
    refine HL.nil ?_
    repeat refine HW.seq ?_
    refine HW.yes ?_ ?_
    exact e16
    -- region 3
    repeat refine HW.seq ?_
    refine HW.region ?_
    refine HL.still (Runs.move e7) ?_
    intro u17 e17
    refine HL.still (Runs.assign e17) ?_
    intro u6 e6
    refine HL.nil ?_
    refine HW.ret ?_
    exact RT.one rfl e6 ⟨rfl, E1⟩
  -- region 2
  repeat refine HW.seq ?_
  refine HW.region ?_
  refine HL.still (Runs.move p2) ?_
  intro u14 e14
  refine HL.still (Runs.lenSl rfl Tryd.underlying22 e14) ?_
  intro u15 e15
  refine HL.still (Runs.gtr e15 rfl (t := false) (decide_eq_false (by omega))) ?_
  intro u16 e16
  refine HL.nil ?_
  repeat refine HW.seq ?_
  refine HW.no ?_ ?_
  exact e16
  refine HW.skip ?_
  -- region 4
  repeat refine HW.seq ?_
  refine HW.region ?_
  refine HL.still (Runs.move p0) ?_
  intro u19 e19
  refine HL.still (Runs.move p1) ?_
  intro u20 e20
  refine HL.one (HO.call Tryd.func16 bd16 nm16 (args2 e19 e20) rfl ((write_ch h1 n size).mono ?_))
  rintro _ h2 ⟨ax, cx, rfl, bx, kx, E2⟩
  intro u21 e21
  refine HL.still (Runs.move e21) ?_
  intro u18 e18
  refine HL.still (Runs.extr e18 rfl) ?_
  intro u22 e22
  refine HL.still (Runs.extr e18 rfl) ?_
  intro u23 e23
  refine HL.still (Runs.assign e22) ?_
  intro u8 e8
  refine HL.still (Runs.assign e23) ?_
  intro u9 e9
  refine HL.nil ?_
  -- region 5
  repeat refine HW.seq ?_
  refine HW.region ?_
  refine HL.still (Runs.move p0) ?_
  intro u25 e25
  refine HL.still (Runs.move p1) ?_
  intro u26 e26
  refine HL.one (HO.call Tryd.func17 bd17 nm17 (args2 e25 e26) rfl ((rwrite_ch h2 n size).mono ?_))
  rintro _ h3 ⟨ay, cy, rfl, bY, ky, E3⟩
  intro u27 e27
  refine HL.still (Runs.move e27) ?_
  intro u24 e24
  refine HL.still (Runs.extr e24 rfl) ?_
  intro u28 e28
  refine HL.still (Runs.extr e24 rfl) ?_
  intro u29 e29
  refine HL.still (Runs.assign e28) ?_
  intro u10 e10
  refine HL.still (Runs.assign e29) ?_
  intro u11 e11
  refine HL.nil ?_
  have X3 : Ext h h3 := (E1.ext E2 (Nat.le_refl _)).ext E3 (Nat.le_refl _)
  -- region 6
  repeat refine HW.seq ?_
  refine HW.region ?_
  refine HL.one (HO.bytes0 ?_)
  intro h4 w4
  intro u30 e30
  refine HL.still (Runs.move p2) ?_
  intro u31 e31
  refine HL.one (HO.app Tryd.underlying22 in5 rfl e30 e31 rfl rfl (Bs.lit (xs := []) w4 (Nat.le_refl _) (Nat.zero_le _)) ((hsrc.ext X3).ext w4.ext) (by simp; omega) (by rw [w4.size]; omega) ?_)
  intro a5 c5 h5 B5 G5
  intro u32 e32
  refine HL.still (Runs.assign e32) ?_
  intro u12 e12
  refine HL.nil ?_
  have X5 : Ext h3 h5 := G5.bel (w4.ext) (Bs.lit (xs := []) w4 (Nat.le_refl _) (Nat.zero_le _)) (Nat.le_refl _) (Nat.le_refl _)
  repeat refine HW.seq ?_
  refine HW.block ?_
  refine HW.loop (fun m f u => ∃ p : List UInt8, p.length ≤ 600 ∧ m = 600 - p.length ∧ f 0 = .int .i64 n ∧ f 2 = .slice a xs.length cap ∧ f 7 = .bool true ∧ f 8 = u8 ∧ f 9 = u9 ∧ f 10 = u10 ∧ f 11 = u11 ∧ Ext h3 u ∧ ∃ a' c', f 12 = .slice a' p.length c' ∧ Bs u h3.size 5 a' c' p) (600 - xs.length)
    ⟨xs, by omega, rfl, p0, p2, e7, rfl, rfl, rfl, rfl, X5, a5, c5, e12, B5⟩ ?_
  clear e7 e12
  rintro m f u ⟨p, hp, hm, f0, f2, e7, f8, f9, f10, f11, hX, a', c', f12, hB⟩
  have g8 := f8.trans e8
  have g9 := f9.trans e9
  have g10 := f10.trans e10
  have g11 := f11.trans e11
  have hu := hX.size
  by_cases hlt : p.length < 512
  · skip
    -- region 7
    repeat refine HW.seq ?_
    refine HW.region ?_
    refine HL.still (Runs.move f12) ?_
    intro u33 e33
    refine HL.still (Runs.lenSl rfl Tryd.underlying22 e33) ?_
    intro u34 e34
    refine HL.still (Runs.lss e34 rfl rfl) ?_
    intro u35 e35
    refine HL.nil ?_
    repeat refine HW.seq ?_
    refine HW.yes ?_ ?_
    exact e35.trans (congrArg Value.bool (decide_eq_true (by omega)))
    refine HW.skip ?_
    repeat refine HW.seq ?_
    refine HW.block ?_
    -- region 8
    repeat refine HW.seq ?_
    refine HW.region ?_
    refine HL.still (Runs.move f12) ?_
    intro u36 e36
    refine HL.still (Runs.move f12) ?_
    intro u37 e37
    refine HL.still (Runs.lenSl rfl Tryd.underlying22 e37) ?_
    intro u38 e38
    refine HL.still (Runs.conv Tryd.underlying3 Tryd.underlying5 e38 (u8_of_nat _)) ?_
    intro u39 e39
    refine HL.one (HO.bytes1 _ e39 ?_)
    intro h6 w6
    intro u40 e40
    refine HL.one (HO.app Tryd.underlying22 in5 rfl e36 e40 rfl rfl (hB.ext w6.ext) (byt_block w6.new) (by simp; omega) (by rw [w6.size]; omega) ?_)
    intro a7 c7 h7 B7 G7
    intro u41 e41
    refine HL.still (Runs.assign e41) ?_
    intro u12 e12
    refine HL.nil ?_
    refine ⟨600 - (p.length + 1), by omega, p ++ [UInt8.ofNat p.length], by simp; omega, by simp, f0, f2, e7, f8, f9, f10, f11, G7.bel (hX.nw w6 (Nat.le_refl _)) (hB.ext w6.ext) (Nat.le_refl _) (Nat.le_refl _), a7, c7, e12, B7⟩
  · skip
    -- region 7
    repeat refine HW.seq ?_
    refine HW.region ?_
    refine HL.still (Runs.move f12) ?_
    intro u33 e33
    refine HL.still (Runs.lenSl rfl Tryd.underlying22 e33) ?_
    intro u34 e34
    refine HL.still (Runs.lss e34 rfl rfl) ?_
    intro u35 e35
    refine HL.nil ?_
    repeat refine HW.seq ?_
    refine HW.no ?_ ?_
    exact e35.trans (congrArg Value.bool (decide_eq_false (by omega)))
    refine HW.exitHere ?_
    have hs : Byt u a xs := (hsrc.ext X3).ext hX
    -- region 9
    repeat refine HW.seq ?_
    refine HW.region ?_
    refine HL.still (Runs.move e7) ?_
    intro u42 e42
    refine HL.still (Runs.move e42) ?_
    intro u43 e43
    refine HL.stillG rfl rfl e43 (Runs.move g8) ?_
    intro u44 e44
    refine HL.stillG rfl rfl e43 (Runs.toStrB Tryd.underlying22 Tryd.underlying5 Tryd.underlying9 e44 rfl ((bx.ext E3).ext hX)) ?_
    intro u45 e45
    refine HL.stillG rfl rfl e43 (Runs.move g10) ?_
    intro u46 e46
    refine HL.stillG rfl rfl e43 (Runs.toStrB Tryd.underlying22 Tryd.underlying5 Tryd.underlying9 e46 rfl (bY.ext hX)) ?_
    intro u47 e47
    refine HL.stillG rfl rfl e43 (Runs.eqS e45 e47 (t := true) (beq_self_eq_true _)) ?_
    intro u48 e48
    refine HL.still (Runs.pick e43 e48) ?_
    intro u49 e49
    refine HL.still (Runs.move e49) ?_
    intro u50 e50
    refine HL.stillG rfl rfl e50 (Runs.move g9) ?_
    intro u51 e51
    refine HL.stillG rfl rfl e50 (Runs.move g11) ?_
    intro u52 e52
    refine HL.stillG rfl rfl e50 (Runs.eqB Tryd.underlying4 e51 e52 (b := true) (beq_self_eq_true _)) ?_
    intro u53 e53
    refine HL.still (Runs.pick e50 e53) ?_
    intro u54 e54
    refine HL.still (Runs.move e54) ?_
    intro u55 e55
    refine HL.stillG rfl rfl e55 (Runs.move f2) ?_
    intro u56 e56
    refine HL.oneG rfl rfl e55 (HO.call Tryd.func18 bd18 nm18 (args1 e56) rfl ((check_ch u xs a cap hs (by omega)).mono ?_))
    rintro _ h6 ⟨rfl, hh6⟩
    intro u57 e57
    refine HL.stillG rfl rfl e55 (Runs.move f2) ?_
    intro u58 e58
    refine HL.oneG rfl rfl e55 (HO.call Tryd.func19 bd19 nm19 (args1 e58) rfl ((rcheck_ch h6 xs a cap (by rw [hh6]; exact hs) (by omega)).mono ?_))
    rintro _ h7 ⟨rfl, hh7⟩
    intro u59 e59
    refine HL.stillG rfl rfl e55 (Runs.eql e57 e59 (t := true) (beq_self_eq_true _)) ?_
    intro u60 e60
    refine HL.still (Runs.pick e55 e60) ?_
    intro u61 e61
    refine HL.still (Runs.move e61) ?_
    intro u62 e62
    refine HL.stillG rfl rfl e62 (Runs.move f12) ?_
    intro u63 e63
    refine HL.oneG rfl rfl e62 (HO.call Tryd.func18 bd18 nm18 (args1 e63) rfl ((check_ch h7 p a' c' (by rw [hh7, hh6]; exact hB.byt) (by omega)).mono ?_))
    rintro _ h8 ⟨rfl, hh8⟩
    intro u64 e64
    refine HL.stillG rfl rfl e62 (Runs.move f12) ?_
    intro u65 e65
    refine HL.oneG rfl rfl e62 (HO.call Tryd.func19 bd19 nm19 (args1 e65) rfl ((rcheck_ch h8 p a' c' (by rw [hh8, hh7, hh6]; exact hB.byt) (by omega)).mono ?_))
    rintro _ h9 ⟨rfl, hh9⟩
    intro u66 e66
    refine HL.stillG rfl rfl e62 (Runs.eql e64 e66 (t := true) (beq_self_eq_true _)) ?_
    intro u67 e67
    refine HL.still (Runs.pick e62 e67) ?_
    intro u68 e68
    refine HL.still (Runs.assign e68) ?_
    intro u6 e6
    refine HL.nil ?_
    refine HW.ret ?_
    exact RT.one rfl e6 ⟨rfl, by rw [hh9, hh8, hh7, hh6]; exact X3.ext hX (Nat.le_refl _)⟩
end Go.Proofs.YtfogkggkjmkdiaaDoor
