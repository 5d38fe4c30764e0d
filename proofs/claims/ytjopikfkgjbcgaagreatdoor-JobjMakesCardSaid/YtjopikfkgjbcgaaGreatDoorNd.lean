/- onionskinref10.char, walked. -/
import Derived.Test.YtjopikfkgjbcgaaGreatDoorNa
namespace Go.Proofs.YtjopikfkgjbcgaaGreatDoor
set_option linter.unnecessarySimpa false
set_option linter.unusedSimpArgs false
set_option linter.unusedVariables false
open Go.RowKit
theorem sz101 : (Tryz.prog.info? 101).map (·.size) = some 5 := by kernel_rfl
/-- What is said of a character's number. -/
def CharR (s : List UInt8) (r : Int) : Prop := (sizeO s = 1 → r = at8 s 0) ∧ (2 ≤ sizeO s → 128 ≤ r)
theorem CharR.zero {s : List UInt8} {r : Int} (h : sizeO s = 0) : CharR s r := ⟨fun q => by omega, fun q => by omega⟩
theorem CharR.big {s : List UInt8} {r : Int} (h : 2 ≤ sizeO s) (k : 128 ≤ r) : CharR s r := ⟨fun q => by omega, fun _ => k⟩
theorem CharR.one {s : List UInt8} (h : sizeO s = 1) : CharR s (at8 s 0) := ⟨fun _ => rfl, fun q => by omega⟩
set_option maxRecDepth 10000 in
set_option maxHeartbeats 1000000 in
theorem charV_ch (h : Heap) (s : List UInt8) (hs : s.length < 4611686018427387000) (hpos : 0 < s.length) : CH Tryz.prog 61 #[.string (strOf s)] h fun v h' => (∃ r : Int, v = .tuple #[I64 r, I64 (sizeO s)] ∧ CharR s r) ∧ h' = h := by
  refine CH.of_body Tryz.func61 rfl rfl rfl ?_
  intro f hf
  have p0 : f 0 = .string (strOf s) := by rw [hf]; exact fr0_at rfl
  have hget := at8_get hpos
  have hr0 := at8_range s 0
  have hat : at8 s 0 = ((s.getD 0 0).toNat : Int) := rfl
  -- region 0
  repeat refine HW.seq ?_
  refine HW.region ?_
  refine HL.still (Runs.assign rfl) ?_
  intro u2 e2
  refine HL.still (Runs.assign rfl) ?_
  intro u3 e3
  refine HL.nil ?_
  -- region 1
  repeat refine HW.seq ?_
  refine HW.region ?_
  refine HL.still (Runs.assign rfl) ?_
  intro u4 e4
  refine HL.still (Runs.assign rfl) ?_
  intro u5 e5
  refine HL.nil ?_
  refine HW.seq ?_
  refine HW.mono (N := fun f v => ∃ (z : Nat) (n : Int), f 0 = .string (strOf s) ∧ f 4 = I64 z ∧ f 5 = I64 n ∧ lead (at8 s 0) = (z, n) ∧ 2 ≤ z ∧ z ≤ 4 ∧ 0 ≤ n ∧ n < 32 ∧ h = v) ?_ ?_ (fun _ _ _ q => q) (fun _ _ q => q)
  · refine HW.block ?_
    by_cases h1 : at8 s 0 < 128
    · skip
      -- region 3
      repeat refine HW.seq ?_
      refine HW.region ?_
      refine HL.still (Runs.move p0) ?_
      intro u9 e9
      refine HL.still (Runs.ixS Tryz.underlying9 e9 rfl (j := 0) rfl hget) ?_
      intro u10 e10
      refine HL.still (Runs.lss e10 rfl (t := true) (decide_eq_true h1)) ?_
      intro u11 e11
      refine HL.still (Runs.assign e11) ?_
      intro u8 e8
      refine HL.nil ?_
      refine HW.yes e8 ?_
      -- region 4
      repeat refine HW.seq ?_
      refine HW.region ?_
      refine HL.still (Runs.move p0) ?_
      intro u12 e12
      refine HL.still (Runs.ixS Tryz.underlying9 e12 rfl (j := 0) rfl hget) ?_
      intro u13 e13
      refine HL.still (Runs.conv Tryz.underlying5 Tryz.underlying3 e13 (i64w (by omega))) ?_
      intro u14 e14
      refine HL.still (Runs.assign e14) ?_
      intro u2 e2
      refine HL.still (Runs.assign rfl) ?_
      intro u3 e3
      refine HL.nil ?_
      refine HW.ret ?_
      exact RT.two rfl e2 e3 ⟨⟨at8 s 0, by
        have : sizeO s = 1 := by unfold sizeO lead; rw [if_pos h1]; rfl
        rw [this]; rfl, CharR.one (by unfold sizeO lead; rw [if_pos h1]; rfl)⟩, rfl⟩
    · skip
      -- region 3
      repeat refine HW.seq ?_
      refine HW.region ?_
      refine HL.still (Runs.move p0) ?_
      intro u9 e9
      refine HL.still (Runs.ixS Tryz.underlying9 e9 rfl (j := 0) rfl hget) ?_
      intro u10 e10
      refine HL.still (Runs.lss e10 rfl (t := false) (decide_eq_false h1)) ?_
      intro u11 e11
      refine HL.still (Runs.assign e11) ?_
      intro u8 e8
      refine HL.nil ?_
      refine HW.no e8 ?_
      by_cases h2 : at8 s 0 < 192
      · have hc : True := trivial
        have hld : lead (at8 s 0) = (0, 0) := by
          unfold lead
          rw [if_neg h1, if_neg (by omega), if_neg (by omega), if_neg (by omega)]
        -- region 5
        repeat refine HW.seq ?_
        refine HW.region ?_
        refine HL.still (Runs.move p0) ?_
        intro u16 e16
        refine HL.still (Runs.ixS Tryz.underlying9 e16 rfl (j := 0) rfl hget) ?_
        intro u17 e17
        refine HL.still (Runs.geq e17 rfl (t := false) (decide_eq_false (by omega))) ?_
        intro u18 e18
        refine HL.still (Runs.move e18) ?_
        intro u19 e19
        refine HL.skipG rfl rfl e19 ?_
        intro u20 e20
        refine HL.skipG rfl rfl e19 ?_
        intro u21 e21
        refine HL.skipG rfl rfl e19 ?_
        intro u22 e22
        refine HL.still (Runs.pick e19 rfl) ?_
        intro u23 e23
        refine HL.still (Runs.assign e23) ?_
        intro u15 e15
        refine HL.nil ?_
        refine HW.no e15 ?_
        -- region 7
        repeat refine HW.seq ?_
        refine HW.region ?_
        refine HL.still (Runs.move p0) ?_
        intro u29 e29
        refine HL.still (Runs.ixS Tryz.underlying9 e29 rfl (j := 0) rfl hget) ?_
        intro u30 e30
        refine HL.still (Runs.geq e30 rfl (t := false) (decide_eq_false (by omega))) ?_
        intro u31 e31
        refine HL.still (Runs.move e31) ?_
        intro u32 e32
        refine HL.skipG rfl rfl e32 ?_
        intro u33 e33
        refine HL.skipG rfl rfl e32 ?_
        intro u34 e34
        refine HL.skipG rfl rfl e32 ?_
        intro u35 e35
        refine HL.still (Runs.pick e32 rfl) ?_
        intro u36 e36
        refine HL.still (Runs.assign e36) ?_
        intro u28 e28
        refine HL.nil ?_
        refine HW.no e28 ?_
        -- region 9
        repeat refine HW.seq ?_
        refine HW.region ?_
        refine HL.still (Runs.move p0) ?_
        intro u42 e42
        refine HL.still (Runs.ixS Tryz.underlying9 e42 rfl (j := 0) rfl hget) ?_
        intro u43 e43
        refine HL.still (Runs.geq e43 rfl (t := false) (decide_eq_false (by omega))) ?_
        intro u44 e44
        refine HL.still (Runs.move e44) ?_
        intro u45 e45
        refine HL.skipG rfl rfl e45 ?_
        intro u46 e46
        refine HL.skipG rfl rfl e45 ?_
        intro u47 e47
        refine HL.skipG rfl rfl e45 ?_
        intro u48 e48
        refine HL.still (Runs.pick e45 rfl) ?_
        intro u49 e49
        refine HL.still (Runs.assign e49) ?_
        intro u41 e41
        refine HL.nil ?_
        refine HW.no e41 ?_
        -- region 2
        repeat refine HW.seq ?_
        refine HW.region ?_
        refine HL.still (Runs.assign rfl) ?_
        intro u2 e2
        refine HL.still (Runs.assign rfl) ?_
        intro u3 e3
        refine HL.nil ?_
        refine HW.ret ?_
        exact RT.two rfl e2 e3 ⟨⟨0, by
          have : sizeO s = 0 := by unfold sizeO; rw [hld]; rfl
          rw [this]; rfl, CharR.zero (by unfold sizeO; rw [hld]; rfl)⟩, rfl⟩
      by_cases h3 : at8 s 0 < 224
      · have hc : True := trivial
        have hld : lead (at8 s 0) = (2, at8 s 0 - 192) := by
          unfold lead
          rw [if_neg h1, if_pos (by omega)]
        -- region 5
        repeat refine HW.seq ?_
        refine HW.region ?_
        refine HL.still (Runs.move p0) ?_
        intro u16 e16
        refine HL.still (Runs.ixS Tryz.underlying9 e16 rfl (j := 0) rfl hget) ?_
        intro u17 e17
        refine HL.still (Runs.geq e17 rfl (t := true) (decide_eq_true (by omega))) ?_
        intro u18 e18
        refine HL.still (Runs.move e18) ?_
        intro u19 e19
        refine HL.stillG rfl rfl e19 (Runs.move p0) ?_
        intro u20 e20
        refine HL.stillG rfl rfl e19 (Runs.ixS Tryz.underlying9 e20 rfl (j := 0) rfl hget) ?_
        intro u21 e21
        refine HL.stillG rfl rfl e19 (Runs.lss e21 rfl (t := true) (decide_eq_true (by omega))) ?_
        intro u22 e22
        refine HL.still (Runs.pick e19 e22) ?_
        intro u23 e23
        refine HL.still (Runs.assign e23) ?_
        intro u15 e15
        refine HL.nil ?_
        refine HW.yes e15 ?_
        -- region 6
        repeat refine HW.seq ?_
        refine HW.draw mixed (by kernel_rfl) ?_
        refine HS.still (Runs.move p0) ?_
        intro u24 e24
        refine HS.still (Runs.ixS Tryz.underlying9 e24 rfl (j := 0) rfl hget) ?_
        intro u25 e25
        refine HS.still (Runs.conv Tryz.underlying5 Tryz.underlying3 e25 (i64w (by omega))) ?_
        intro u26 e26
        refine HS.still (Runs.sub e26 rfl (i64w (by omega))) ?_
        intro u27 e27
        refine HS.still (Runs.assign rfl) ?_
        intro u4 e4
        refine HS.still (Runs.assign e27) ?_
        intro u5 e5
        refine HS.nil ?_
        exact ⟨2, at8 s 0 - 192, p0, e4, e5, hld, by omega, by omega, by omega, by omega, rfl⟩
      by_cases h4 : at8 s 0 < 240
      · have hc : True := trivial
        have hld : lead (at8 s 0) = (3, at8 s 0 - 224) := by
          unfold lead
          rw [if_neg h1, if_neg (by omega), if_pos (by omega)]
        -- region 5
        repeat refine HW.seq ?_
        refine HW.region ?_
        refine HL.still (Runs.move p0) ?_
        intro u16 e16
        refine HL.still (Runs.ixS Tryz.underlying9 e16 rfl (j := 0) rfl hget) ?_
        intro u17 e17
        refine HL.still (Runs.geq e17 rfl (t := true) (decide_eq_true (by omega))) ?_
        intro u18 e18
        refine HL.still (Runs.move e18) ?_
        intro u19 e19
        refine HL.stillG rfl rfl e19 (Runs.move p0) ?_
        intro u20 e20
        refine HL.stillG rfl rfl e19 (Runs.ixS Tryz.underlying9 e20 rfl (j := 0) rfl hget) ?_
        intro u21 e21
        refine HL.stillG rfl rfl e19 (Runs.lss e21 rfl (t := false) (decide_eq_false (by omega))) ?_
        intro u22 e22
        refine HL.still (Runs.pick e19 e22) ?_
        intro u23 e23
        refine HL.still (Runs.assign e23) ?_
        intro u15 e15
        refine HL.nil ?_
        refine HW.no e15 ?_
        -- region 7
        repeat refine HW.seq ?_
        refine HW.region ?_
        refine HL.still (Runs.move p0) ?_
        intro u29 e29
        refine HL.still (Runs.ixS Tryz.underlying9 e29 rfl (j := 0) rfl hget) ?_
        intro u30 e30
        refine HL.still (Runs.geq e30 rfl (t := true) (decide_eq_true (by omega))) ?_
        intro u31 e31
        refine HL.still (Runs.move e31) ?_
        intro u32 e32
        refine HL.stillG rfl rfl e32 (Runs.move p0) ?_
        intro u33 e33
        refine HL.stillG rfl rfl e32 (Runs.ixS Tryz.underlying9 e33 rfl (j := 0) rfl hget) ?_
        intro u34 e34
        refine HL.stillG rfl rfl e32 (Runs.lss e34 rfl (t := true) (decide_eq_true (by omega))) ?_
        intro u35 e35
        refine HL.still (Runs.pick e32 e35) ?_
        intro u36 e36
        refine HL.still (Runs.assign e36) ?_
        intro u28 e28
        refine HL.nil ?_
        refine HW.yes e28 ?_
        -- region 8
        repeat refine HW.seq ?_
        refine HW.draw mixed (by kernel_rfl) ?_
        refine HS.still (Runs.move p0) ?_
        intro u37 e37
        refine HS.still (Runs.ixS Tryz.underlying9 e37 rfl (j := 0) rfl hget) ?_
        intro u38 e38
        refine HS.still (Runs.conv Tryz.underlying5 Tryz.underlying3 e38 (i64w (by omega))) ?_
        intro u39 e39
        refine HS.still (Runs.sub e39 rfl (i64w (by omega))) ?_
        intro u40 e40
        refine HS.still (Runs.assign rfl) ?_
        intro u4 e4
        refine HS.still (Runs.assign e40) ?_
        intro u5 e5
        refine HS.nil ?_
        exact ⟨3, at8 s 0 - 224, p0, e4, e5, hld, by omega, by omega, by omega, by omega, rfl⟩
      by_cases h5 : at8 s 0 < 248
      · have hc : True := trivial
        have hld : lead (at8 s 0) = (4, at8 s 0 - 240) := by
          unfold lead
          rw [if_neg h1, if_neg (by omega), if_neg (by omega), if_pos (by omega)]
        -- region 5
        repeat refine HW.seq ?_
        refine HW.region ?_
        refine HL.still (Runs.move p0) ?_
        intro u16 e16
        refine HL.still (Runs.ixS Tryz.underlying9 e16 rfl (j := 0) rfl hget) ?_
        intro u17 e17
        refine HL.still (Runs.geq e17 rfl (t := true) (decide_eq_true (by omega))) ?_
        intro u18 e18
        refine HL.still (Runs.move e18) ?_
        intro u19 e19
        refine HL.stillG rfl rfl e19 (Runs.move p0) ?_
        intro u20 e20
        refine HL.stillG rfl rfl e19 (Runs.ixS Tryz.underlying9 e20 rfl (j := 0) rfl hget) ?_
        intro u21 e21
        refine HL.stillG rfl rfl e19 (Runs.lss e21 rfl (t := false) (decide_eq_false (by omega))) ?_
        intro u22 e22
        refine HL.still (Runs.pick e19 e22) ?_
        intro u23 e23
        refine HL.still (Runs.assign e23) ?_
        intro u15 e15
        refine HL.nil ?_
        refine HW.no e15 ?_
        -- region 7
        repeat refine HW.seq ?_
        refine HW.region ?_
        refine HL.still (Runs.move p0) ?_
        intro u29 e29
        refine HL.still (Runs.ixS Tryz.underlying9 e29 rfl (j := 0) rfl hget) ?_
        intro u30 e30
        refine HL.still (Runs.geq e30 rfl (t := true) (decide_eq_true (by omega))) ?_
        intro u31 e31
        refine HL.still (Runs.move e31) ?_
        intro u32 e32
        refine HL.stillG rfl rfl e32 (Runs.move p0) ?_
        intro u33 e33
        refine HL.stillG rfl rfl e32 (Runs.ixS Tryz.underlying9 e33 rfl (j := 0) rfl hget) ?_
        intro u34 e34
        refine HL.stillG rfl rfl e32 (Runs.lss e34 rfl (t := false) (decide_eq_false (by omega))) ?_
        intro u35 e35
        refine HL.still (Runs.pick e32 e35) ?_
        intro u36 e36
        refine HL.still (Runs.assign e36) ?_
        intro u28 e28
        refine HL.nil ?_
        refine HW.no e28 ?_
        -- region 9
        repeat refine HW.seq ?_
        refine HW.region ?_
        refine HL.still (Runs.move p0) ?_
        intro u42 e42
        refine HL.still (Runs.ixS Tryz.underlying9 e42 rfl (j := 0) rfl hget) ?_
        intro u43 e43
        refine HL.still (Runs.geq e43 rfl (t := true) (decide_eq_true (by omega))) ?_
        intro u44 e44
        refine HL.still (Runs.move e44) ?_
        intro u45 e45
        refine HL.stillG rfl rfl e45 (Runs.move p0) ?_
        intro u46 e46
        refine HL.stillG rfl rfl e45 (Runs.ixS Tryz.underlying9 e46 rfl (j := 0) rfl hget) ?_
        intro u47 e47
        refine HL.stillG rfl rfl e45 (Runs.lss e47 rfl (t := true) (decide_eq_true (by omega))) ?_
        intro u48 e48
        refine HL.still (Runs.pick e45 e48) ?_
        intro u49 e49
        refine HL.still (Runs.assign e49) ?_
        intro u41 e41
        refine HL.nil ?_
        refine HW.yes e41 ?_
        -- region 10
        repeat refine HW.seq ?_
        refine HW.draw mixed (by kernel_rfl) ?_
        refine HS.still (Runs.move p0) ?_
        intro u50 e50
        refine HS.still (Runs.ixS Tryz.underlying9 e50 rfl (j := 0) rfl hget) ?_
        intro u51 e51
        refine HS.still (Runs.conv Tryz.underlying5 Tryz.underlying3 e51 (i64w (by omega))) ?_
        intro u52 e52
        refine HS.still (Runs.sub e52 rfl (i64w (by omega))) ?_
        intro u53 e53
        refine HS.still (Runs.assign rfl) ?_
        intro u4 e4
        refine HS.still (Runs.assign e53) ?_
        intro u5 e5
        refine HS.nil ?_
        exact ⟨4, at8 s 0 - 240, p0, e4, e5, hld, by omega, by omega, by omega, by omega, rfl⟩
      · have hc : True := trivial
        have hld : lead (at8 s 0) = (0, 0) := by
          unfold lead
          rw [if_neg h1, if_neg (by omega), if_neg (by omega), if_neg (by omega)]
        -- region 5
        repeat refine HW.seq ?_
        refine HW.region ?_
        refine HL.still (Runs.move p0) ?_
        intro u16 e16
        refine HL.still (Runs.ixS Tryz.underlying9 e16 rfl (j := 0) rfl hget) ?_
        intro u17 e17
        refine HL.still (Runs.geq e17 rfl (t := true) (decide_eq_true (by omega))) ?_
        intro u18 e18
        refine HL.still (Runs.move e18) ?_
        intro u19 e19
        refine HL.stillG rfl rfl e19 (Runs.move p0) ?_
        intro u20 e20
        refine HL.stillG rfl rfl e19 (Runs.ixS Tryz.underlying9 e20 rfl (j := 0) rfl hget) ?_
        intro u21 e21
        refine HL.stillG rfl rfl e19 (Runs.lss e21 rfl (t := false) (decide_eq_false (by omega))) ?_
        intro u22 e22
        refine HL.still (Runs.pick e19 e22) ?_
        intro u23 e23
        refine HL.still (Runs.assign e23) ?_
        intro u15 e15
        refine HL.nil ?_
        refine HW.no e15 ?_
        -- region 7
        repeat refine HW.seq ?_
        refine HW.region ?_
        refine HL.still (Runs.move p0) ?_
        intro u29 e29
        refine HL.still (Runs.ixS Tryz.underlying9 e29 rfl (j := 0) rfl hget) ?_
        intro u30 e30
        refine HL.still (Runs.geq e30 rfl (t := true) (decide_eq_true (by omega))) ?_
        intro u31 e31
        refine HL.still (Runs.move e31) ?_
        intro u32 e32
        refine HL.stillG rfl rfl e32 (Runs.move p0) ?_
        intro u33 e33
        refine HL.stillG rfl rfl e32 (Runs.ixS Tryz.underlying9 e33 rfl (j := 0) rfl hget) ?_
        intro u34 e34
        refine HL.stillG rfl rfl e32 (Runs.lss e34 rfl (t := false) (decide_eq_false (by omega))) ?_
        intro u35 e35
        refine HL.still (Runs.pick e32 e35) ?_
        intro u36 e36
        refine HL.still (Runs.assign e36) ?_
        intro u28 e28
        refine HL.nil ?_
        refine HW.no e28 ?_
        -- region 9
        repeat refine HW.seq ?_
        refine HW.region ?_
        refine HL.still (Runs.move p0) ?_
        intro u42 e42
        refine HL.still (Runs.ixS Tryz.underlying9 e42 rfl (j := 0) rfl hget) ?_
        intro u43 e43
        refine HL.still (Runs.geq e43 rfl (t := true) (decide_eq_true (by omega))) ?_
        intro u44 e44
        refine HL.still (Runs.move e44) ?_
        intro u45 e45
        refine HL.stillG rfl rfl e45 (Runs.move p0) ?_
        intro u46 e46
        refine HL.stillG rfl rfl e45 (Runs.ixS Tryz.underlying9 e46 rfl (j := 0) rfl hget) ?_
        intro u47 e47
        refine HL.stillG rfl rfl e45 (Runs.lss e47 rfl (t := false) (decide_eq_false (by omega))) ?_
        intro u48 e48
        refine HL.still (Runs.pick e45 e48) ?_
        intro u49 e49
        refine HL.still (Runs.assign e49) ?_
        intro u41 e41
        refine HL.nil ?_
        refine HW.no e41 ?_
        -- region 2
        repeat refine HW.seq ?_
        refine HW.region ?_
        refine HL.still (Runs.assign rfl) ?_
        intro u2 e2
        refine HL.still (Runs.assign rfl) ?_
        intro u3 e3
        refine HL.nil ?_
        refine HW.ret ?_
        exact RT.two rfl e2 e3 ⟨⟨0, by
          have : sizeO s = 0 := by unfold sizeO; rw [hld]; rfl
          rw [this]; rfl, CharR.zero (by unfold sizeO; rw [hld]; rfl)⟩, rfl⟩
  clear p0
  rintro f v ⟨z, n0, p0, f4, f5, hld, hz2, hz4, hn0, hn1, rfl⟩
  have hbad : ∀ j, j + 1 < z → cont (at8 s (j + 1)) = false → sizeO s = 0 := fun j hj hc => by
    have hall : (List.range (z - 1)).all (fun k => cont (at8 s (k + 1))) = false := by
      rw [List.all_eq_false]
      exact ⟨j, List.mem_range.2 (by omega), by rw [hc]; decide⟩
    unfold sizeO
    rw [hld]
    simp only
    rw [if_neg (by omega), if_neg (by omega), if_pos hall]
  -- region 11
  repeat refine HW.seq ?_
  refine HW.region ?_
  refine HL.still (Runs.assign rfl) ?_
  intro u6 e6
  refine HL.nil ?_
  refine HW.mono (N := fun f v => f 4 = I64 z ∧ f 5 = I64 (numK s n0 (z - 1)) ∧ (List.range (z - 1)).all (fun k => cont (at8 s (k + 1))) = true ∧ 0 ≤ numK s n0 (z - 1) ∧ numK s n0 (z - 1) < 8388608 ∧ h = v) ?_ ?_ (fun _ _ _ q => q) (fun _ _ q => q)
  · refine HW.block ?_
    refine HW.loop (fun m f u => ∃ j : Nat, j + 1 ≤ z ∧ m = z - (j + 1) ∧ f 6 = I64 ((j : Int) + 1) ∧ f 0 = .string (strOf s) ∧ f 4 = I64 z ∧ f 5 = I64 (numK s n0 j) ∧ 0 ≤ numK s n0 j ∧ numK s n0 j < 32 * 64 ^ j ∧ (List.range j).all (fun k => cont (at8 s (k + 1))) = true ∧ h = u) (z - 1)
      ⟨0, by omega, rfl, e6, p0, f4, f5, hn0, by simpa [numK] using hn1, rfl, rfl⟩ ?_
    clear e6 f4 f5 p0
    rintro m f u ⟨j, hj, hm, f6, p0, f4, f5, hk0, hk1, hall, rfl⟩
    have hpw : (64 : Int) ^ j ≤ 64 ^ 3 := by
      have : j = 0 ∨ j = 1 ∨ j = 2 ∨ j = 3 := by omega
      rcases this with rfl | rfl | rfl | rfl <;> decide
    have hbd : numK s n0 j < 8388608 := by omega
    by_cases hlt : j + 1 < z
    · skip
      -- region 12
      repeat refine HW.seq ?_
      refine HW.region ?_
      refine HL.still (Runs.move f6) ?_
      intro u54 e54
      refine HL.still (Runs.move f4) ?_
      intro u55 e55
      refine HL.still (Runs.lss e54 e55 (t := true) (decide_eq_true (by omega))) ?_
      intro u56 e56
      refine HL.nil ?_
      refine HW.yes e56 ?_
      refine HW.skip ?_
      repeat refine HW.seq ?_
      refine HW.block ?_
      by_cases hK : j + 1 < s.length
      · have hgk := at8_get hK
        have hrk := at8_range s (j + 1)
        have hak : at8 s (j + 1) = ((s.getD (j + 1) 0).toNat : Int) := rfl
        by_cases ha : at8 s (j + 1) < 128
        · have hc : cont (at8 s (j + 1)) = false := by unfold cont; rw [decide_eq_false (by omega)]; rfl
          -- region 14
          repeat refine HW.seq ?_
          refine HW.region ?_
          refine HL.still (Runs.move f6) ?_
          intro u59 e59
          refine HL.still (Runs.move p0) ?_
          intro u60 e60
          refine HL.still (Runs.lenS rfl Tryz.underlying9 e60) ?_
          intro u61 e61
          refine HL.still (Runs.geq e59 e61 (t := false) (decide_eq_false (by omega))) ?_
          intro u62 e62
          refine HL.still (Runs.move e62) ?_
          intro u63 e63
          refine HL.stillG rfl rfl e63 (Runs.move p0) ?_
          intro u64 e64
          refine HL.stillG rfl rfl e63 (Runs.move f6) ?_
          intro u65 e65
          refine HL.stillG rfl rfl e63 (Runs.ixS Tryz.underlying9 e64 e65 rfl hgk) ?_
          intro u66 e66
          refine HL.stillG rfl rfl e63 (Runs.lss e66 rfl (t := true) (decide_eq_true (by omega))) ?_
          intro u67 e67
          refine HL.still (Runs.pick e63 e67) ?_
          intro u68 e68
          refine HL.still (Runs.move e68) ?_
          intro u69 e69
          refine HL.skipG rfl rfl e69 ?_
          intro u70 e70
          refine HL.skipG rfl rfl e69 ?_
          intro u71 e71
          refine HL.skipG rfl rfl e69 ?_
          intro u72 e72
          refine HL.skipG rfl rfl e69 ?_
          intro u73 e73
          refine HL.still (Runs.pick e69 rfl) ?_
          intro u74 e74
          refine HL.nil ?_
          refine HW.yes e74 ?_
          -- region 15
          repeat refine HW.seq ?_
          refine HW.region ?_
          refine HL.still (Runs.assign rfl) ?_
          intro u2 e2
          refine HL.still (Runs.assign rfl) ?_
          intro u3 e3
          refine HL.nil ?_
          refine HW.ret ?_
          exact RT.two rfl e2 e3 ⟨⟨0, by rw [hbad j hlt hc]; rfl, CharR.zero (hbad j hlt hc)⟩, rfl⟩
        · by_cases hb : at8 s (j + 1) > 191
          · have hc : cont (at8 s (j + 1)) = false := by unfold cont; rw [decide_eq_false (show ¬ at8 s (j + 1) ≤ 191 by omega)]; simp
            -- region 14
            repeat refine HW.seq ?_
            refine HW.region ?_
            refine HL.still (Runs.move f6) ?_
            intro u59 e59
            refine HL.still (Runs.move p0) ?_
            intro u60 e60
            refine HL.still (Runs.lenS rfl Tryz.underlying9 e60) ?_
            intro u61 e61
            refine HL.still (Runs.geq e59 e61 (t := false) (decide_eq_false (by omega))) ?_
            intro u62 e62
            refine HL.still (Runs.move e62) ?_
            intro u63 e63
            refine HL.stillG rfl rfl e63 (Runs.move p0) ?_
            intro u64 e64
            refine HL.stillG rfl rfl e63 (Runs.move f6) ?_
            intro u65 e65
            refine HL.stillG rfl rfl e63 (Runs.ixS Tryz.underlying9 e64 e65 rfl hgk) ?_
            intro u66 e66
            refine HL.stillG rfl rfl e63 (Runs.lss e66 rfl (t := false) (decide_eq_false (by omega))) ?_
            intro u67 e67
            refine HL.still (Runs.pick e63 e67) ?_
            intro u68 e68
            refine HL.still (Runs.move e68) ?_
            intro u69 e69
            refine HL.stillG rfl rfl e69 (Runs.move p0) ?_
            intro u70 e70
            refine HL.stillG rfl rfl e69 (Runs.move f6) ?_
            intro u71 e71
            refine HL.stillG rfl rfl e69 (Runs.ixS Tryz.underlying9 e70 e71 rfl hgk) ?_
            intro u72 e72
            refine HL.stillG rfl rfl e69 (Runs.gtr e72 rfl (t := true) (decide_eq_true (by omega))) ?_
            intro u73 e73
            refine HL.still (Runs.pick e69 e73) ?_
            intro u74 e74
            refine HL.nil ?_
            refine HW.yes e74 ?_
            -- region 15
            repeat refine HW.seq ?_
            refine HW.region ?_
            refine HL.still (Runs.assign rfl) ?_
            intro u2 e2
            refine HL.still (Runs.assign rfl) ?_
            intro u3 e3
            refine HL.nil ?_
            refine HW.ret ?_
            exact RT.two rfl e2 e3 ⟨⟨0, by rw [hbad j hlt hc]; rfl, CharR.zero (hbad j hlt hc)⟩, rfl⟩
          · have hc : cont (at8 s (j + 1)) = true := by unfold cont; rw [decide_eq_true (by omega), decide_eq_true (by omega)]; rfl
            -- region 14
            repeat refine HW.seq ?_
            refine HW.region ?_
            refine HL.still (Runs.move f6) ?_
            intro u59 e59
            refine HL.still (Runs.move p0) ?_
            intro u60 e60
            refine HL.still (Runs.lenS rfl Tryz.underlying9 e60) ?_
            intro u61 e61
            refine HL.still (Runs.geq e59 e61 (t := false) (decide_eq_false (by omega))) ?_
            intro u62 e62
            refine HL.still (Runs.move e62) ?_
            intro u63 e63
            refine HL.stillG rfl rfl e63 (Runs.move p0) ?_
            intro u64 e64
            refine HL.stillG rfl rfl e63 (Runs.move f6) ?_
            intro u65 e65
            refine HL.stillG rfl rfl e63 (Runs.ixS Tryz.underlying9 e64 e65 rfl hgk) ?_
            intro u66 e66
            refine HL.stillG rfl rfl e63 (Runs.lss e66 rfl (t := false) (decide_eq_false (by omega))) ?_
            intro u67 e67
            refine HL.still (Runs.pick e63 e67) ?_
            intro u68 e68
            refine HL.still (Runs.move e68) ?_
            intro u69 e69
            refine HL.stillG rfl rfl e69 (Runs.move p0) ?_
            intro u70 e70
            refine HL.stillG rfl rfl e69 (Runs.move f6) ?_
            intro u71 e71
            refine HL.stillG rfl rfl e69 (Runs.ixS Tryz.underlying9 e70 e71 rfl hgk) ?_
            intro u72 e72
            refine HL.stillG rfl rfl e69 (Runs.gtr e72 rfl (t := false) (decide_eq_false (by omega))) ?_
            intro u73 e73
            refine HL.still (Runs.pick e69 e73) ?_
            intro u74 e74
            refine HL.nil ?_
            refine HW.no e74 ?_
            refine HW.skip ?_
            -- region 16
            repeat refine HW.seq ?_
            refine HW.region ?_
            refine HL.still (Runs.move f5) ?_
            intro u75 e75
            refine HL.still (Runs.mul e75 rfl (i64w (by omega))) ?_
            intro u76 e76
            refine HL.still (Runs.move p0) ?_
            intro u77 e77
            refine HL.still (Runs.move f6) ?_
            intro u78 e78
            refine HL.still (Runs.ixS Tryz.underlying9 e77 e78 rfl hgk) ?_
            intro u79 e79
            refine HL.still (Runs.conv Tryz.underlying5 Tryz.underlying3 e79 (i64w (by omega))) ?_
            intro u80 e80
            refine HL.still (Runs.add e76 e80 (i64w (by omega))) ?_
            intro u81 e81
            refine HL.still (Runs.sub e81 rfl (i64w (by omega))) ?_
            intro u82 e82
            refine HL.still (Runs.assign e82) ?_
            intro u5 e5
            refine HL.nil ?_
            -- region 13
            repeat refine HW.seq ?_
            refine HW.region ?_
            refine HL.still (Runs.move f6) ?_
            intro u57 e57
            refine HL.still (Runs.add e57 rfl (i64w (by omega))) ?_
            intro u58 e58
            refine HL.still (Runs.assign e58) ?_
            intro u6 e6
            refine HL.nil ?_
            have hnk : numK s n0 (j + 1) = numK s n0 j * 64 + at8 s (j + 1) - 128 := rfl
            refine ⟨z - (j + 1 + 1), by omega, j + 1, by omega, rfl, e6, p0, f4, by rw [hnk]; exact e5, by rw [hnk]; omega, by rw [hnk, Int.pow_succ]; omega, ?_, rfl⟩
            rw [List.range_succ, List.all_append, hall]
            simp [hc]
      · have hc := cont_end (s := s) (k := j + 1) (by omega)
        -- region 14
        repeat refine HW.seq ?_
        refine HW.region ?_
        refine HL.still (Runs.move f6) ?_
        intro u59 e59
        refine HL.still (Runs.move p0) ?_
        intro u60 e60
        refine HL.still (Runs.lenS rfl Tryz.underlying9 e60) ?_
        intro u61 e61
        refine HL.still (Runs.geq e59 e61 (t := true) (decide_eq_true (by omega))) ?_
        intro u62 e62
        refine HL.still (Runs.move e62) ?_
        intro u63 e63
        refine HL.skipG rfl rfl e63 ?_
        intro u64 e64
        refine HL.skipG rfl rfl e63 ?_
        intro u65 e65
        refine HL.skipG rfl rfl e63 ?_
        intro u66 e66
        refine HL.skipG rfl rfl e63 ?_
        intro u67 e67
        refine HL.still (Runs.pick e63 rfl) ?_
        intro u68 e68
        refine HL.still (Runs.move e68) ?_
        intro u69 e69
        refine HL.skipG rfl rfl e69 ?_
        intro u70 e70
        refine HL.skipG rfl rfl e69 ?_
        intro u71 e71
        refine HL.skipG rfl rfl e69 ?_
        intro u72 e72
        refine HL.skipG rfl rfl e69 ?_
        intro u73 e73
        refine HL.still (Runs.pick e69 rfl) ?_
        intro u74 e74
        refine HL.nil ?_
        refine HW.yes e74 ?_
        -- region 15
        repeat refine HW.seq ?_
        refine HW.region ?_
        refine HL.still (Runs.assign rfl) ?_
        intro u2 e2
        refine HL.still (Runs.assign rfl) ?_
        intro u3 e3
        refine HL.nil ?_
        refine HW.ret ?_
        exact RT.two rfl e2 e3 ⟨⟨0, by rw [hbad j hlt hc]; rfl, CharR.zero (hbad j hlt hc)⟩, rfl⟩
    · have hjz : j = z - 1 := by omega
      subst hjz
      -- region 12
      repeat refine HW.seq ?_
      refine HW.region ?_
      refine HL.still (Runs.move f6) ?_
      intro u54 e54
      refine HL.still (Runs.move f4) ?_
      intro u55 e55
      refine HL.still (Runs.lss e54 e55 (t := false) (decide_eq_false (by omega))) ?_
      intro u56 e56
      refine HL.nil ?_
      refine HW.no e56 ?_
      refine HW.exitHere ?_
      exact ⟨f4, f5, hall, hk0, hbd, rfl⟩
  clear p0 f4 f5 e6
  rintro f v ⟨f4, f5, hall, hk0, hk1, rfl⟩
  obtain ⟨n, hn⟩ : ∃ n, n = numK s n0 (z - 1) := ⟨_, rfl⟩
  rw [← hn] at f5 hk0 hk1
  have hsz : sizeO s = if n < leastO z ∨ n > 1114111 ∨ (55296 ≤ n ∧ n < 57344) then 0 else z := by
    unfold sizeO
    rw [hld]
    simp only
    rw [if_neg (by omega), if_neg (by omega), if_neg (by rw [hall]; decide), ← hn]
  clear hbad hall hn
  obtain rfl | rfl | rfl : z = 2 ∨ z = 3 ∨ z = 4 := by omega
  · have hl : leastO 2 = 128 := rfl
    rw [hl] at hsz
    -- region 17
    repeat refine HW.seq ?_
    refine HW.region ?_
    refine HL.still (v := .agg #[I64 0, I64 0, I64 128, I64 2048, I64 65536]) (Runs.build (fun w => by kernel_rfl)) ?_
    intro u83 e83
    refine HL.still (Runs.move f4) ?_
    intro u84 e84
    refine HL.still (Runs.ixAgg Tryz.underlying101 Tryz.underlying3 rfl sz3 e83 e84 (by omega) (by omega) rfl) ?_
    intro u85 e85
    refine HL.still (Runs.assign e85) ?_
    intro u7 e7
    refine HL.nil ?_
    have g7 : u7 = I64 128 := e7
    by_cases h1 : n < 128
    · have ht : True := trivial
      -- region 18
      repeat refine HW.seq ?_
      refine HW.region ?_
      refine HL.still (Runs.move f5) ?_
      intro u86 e86
      refine HL.still (Runs.move g7) ?_
      intro u87 e87
      refine HL.still (Runs.lss e86 e87 (t := true) (decide_eq_true h1)) ?_
      intro u88 e88
      refine HL.still (Runs.move e88) ?_
      intro u89 e89
      refine HL.skipG rfl rfl e89 ?_
      intro u90 e90
      refine HL.skipG rfl rfl e89 ?_
      intro u91 e91
      refine HL.still (Runs.pick e89 rfl) ?_
      intro u92 e92
      refine HL.still (Runs.move e92) ?_
      intro u93 e93
      refine HL.skipG rfl rfl e93 ?_
      intro u94 e94
      refine HL.skipG rfl rfl e93 ?_
      intro u95 e95
      refine HL.skipG rfl rfl e93 ?_
      intro u96 e96
      refine HL.skipU rfl rfl e96 ?_
      intro u97 e97
      refine HL.skipU rfl rfl e96 ?_
      intro u98 e98
      refine HL.skipG rfl rfl e93 ?_
      intro u99 e99
      refine HL.still (Runs.pick e93 rfl) ?_
      intro u100 e100
      refine HL.nil ?_
      refine HW.yes e100 ?_
      -- region 19
      repeat refine HW.seq ?_
      refine HW.region ?_
      refine HL.still (Runs.assign rfl) ?_
      intro u2 e2
      refine HL.still (Runs.assign rfl) ?_
      intro u3 e3
      refine HL.nil ?_
      refine HW.ret ?_
      exact RT.two rfl e2 e3 ⟨⟨0, by rw [hsz, if_pos (by omega)]; rfl, CharR.zero (by rw [hsz, if_pos (by omega)])⟩, rfl⟩
    by_cases h2 : n > 1114111
    · have ht : True := trivial
      -- region 18
      repeat refine HW.seq ?_
      refine HW.region ?_
      refine HL.still (Runs.move f5) ?_
      intro u86 e86
      refine HL.still (Runs.move g7) ?_
      intro u87 e87
      refine HL.still (Runs.lss e86 e87 (t := false) (decide_eq_false h1)) ?_
      intro u88 e88
      refine HL.still (Runs.move e88) ?_
      intro u89 e89
      refine HL.stillG rfl rfl e89 (Runs.move f5) ?_
      intro u90 e90
      refine HL.stillG rfl rfl e89 (Runs.gtr e90 rfl (t := true) (decide_eq_true h2)) ?_
      intro u91 e91
      refine HL.still (Runs.pick e89 e91) ?_
      intro u92 e92
      refine HL.still (Runs.move e92) ?_
      intro u93 e93
      refine HL.skipG rfl rfl e93 ?_
      intro u94 e94
      refine HL.skipG rfl rfl e93 ?_
      intro u95 e95
      refine HL.skipG rfl rfl e93 ?_
      intro u96 e96
      refine HL.skipU rfl rfl e96 ?_
      intro u97 e97
      refine HL.skipU rfl rfl e96 ?_
      intro u98 e98
      refine HL.skipG rfl rfl e93 ?_
      intro u99 e99
      refine HL.still (Runs.pick e93 rfl) ?_
      intro u100 e100
      refine HL.nil ?_
      refine HW.yes e100 ?_
      -- region 19
      repeat refine HW.seq ?_
      refine HW.region ?_
      refine HL.still (Runs.assign rfl) ?_
      intro u2 e2
      refine HL.still (Runs.assign rfl) ?_
      intro u3 e3
      refine HL.nil ?_
      refine HW.ret ?_
      exact RT.two rfl e2 e3 ⟨⟨0, by rw [hsz, if_pos (by omega)]; rfl, CharR.zero (by rw [hsz, if_pos (by omega)])⟩, rfl⟩
    by_cases h3 : n ≥ 55296
    · by_cases h4 : n < 57344
      · have ht : True := trivial
        -- region 18
        repeat refine HW.seq ?_
        refine HW.region ?_
        refine HL.still (Runs.move f5) ?_
        intro u86 e86
        refine HL.still (Runs.move g7) ?_
        intro u87 e87
        refine HL.still (Runs.lss e86 e87 (t := false) (decide_eq_false h1)) ?_
        intro u88 e88
        refine HL.still (Runs.move e88) ?_
        intro u89 e89
        refine HL.stillG rfl rfl e89 (Runs.move f5) ?_
        intro u90 e90
        refine HL.stillG rfl rfl e89 (Runs.gtr e90 rfl (t := false) (decide_eq_false h2)) ?_
        intro u91 e91
        refine HL.still (Runs.pick e89 e91) ?_
        intro u92 e92
        refine HL.still (Runs.move e92) ?_
        intro u93 e93
        refine HL.stillG rfl rfl e93 (Runs.move f5) ?_
        intro u94 e94
        refine HL.stillG rfl rfl e93 (Runs.geq e94 rfl (t := true) (decide_eq_true h3)) ?_
        intro u95 e95
        refine HL.stillG rfl rfl e93 (Runs.move e95) ?_
        intro u96 e96
        refine HL.stillG rfl rfl e96 (Runs.move f5) ?_
        intro u97 e97
        refine HL.stillG rfl rfl e96 (Runs.lss e97 rfl (t := true) (decide_eq_true h4)) ?_
        intro u98 e98
        refine HL.stillG rfl rfl e93 (Runs.pick e96 e98) ?_
        intro u99 e99
        refine HL.still (Runs.pick e93 e99) ?_
        intro u100 e100
        refine HL.nil ?_
        refine HW.yes e100 ?_
        -- region 19
        repeat refine HW.seq ?_
        refine HW.region ?_
        refine HL.still (Runs.assign rfl) ?_
        intro u2 e2
        refine HL.still (Runs.assign rfl) ?_
        intro u3 e3
        refine HL.nil ?_
        refine HW.ret ?_
        exact RT.two rfl e2 e3 ⟨⟨0, by rw [hsz, if_pos (by omega)]; rfl, CharR.zero (by rw [hsz, if_pos (by omega)])⟩, rfl⟩
      · have ht : True := trivial
        -- region 18
        repeat refine HW.seq ?_
        refine HW.region ?_
        refine HL.still (Runs.move f5) ?_
        intro u86 e86
        refine HL.still (Runs.move g7) ?_
        intro u87 e87
        refine HL.still (Runs.lss e86 e87 (t := false) (decide_eq_false h1)) ?_
        intro u88 e88
        refine HL.still (Runs.move e88) ?_
        intro u89 e89
        refine HL.stillG rfl rfl e89 (Runs.move f5) ?_
        intro u90 e90
        refine HL.stillG rfl rfl e89 (Runs.gtr e90 rfl (t := false) (decide_eq_false h2)) ?_
        intro u91 e91
        refine HL.still (Runs.pick e89 e91) ?_
        intro u92 e92
        refine HL.still (Runs.move e92) ?_
        intro u93 e93
        refine HL.stillG rfl rfl e93 (Runs.move f5) ?_
        intro u94 e94
        refine HL.stillG rfl rfl e93 (Runs.geq e94 rfl (t := true) (decide_eq_true h3)) ?_
        intro u95 e95
        refine HL.stillG rfl rfl e93 (Runs.move e95) ?_
        intro u96 e96
        refine HL.stillG rfl rfl e96 (Runs.move f5) ?_
        intro u97 e97
        refine HL.stillG rfl rfl e96 (Runs.lss e97 rfl (t := false) (decide_eq_false h4)) ?_
        intro u98 e98
        refine HL.stillG rfl rfl e93 (Runs.pick e96 e98) ?_
        intro u99 e99
        refine HL.still (Runs.pick e93 e99) ?_
        intro u100 e100
        refine HL.nil ?_
        refine HW.no e100 ?_
        refine HW.skip ?_
        -- region 20
        repeat refine HW.seq ?_
        refine HW.region ?_
        refine HL.still (Runs.move f5) ?_
        intro u101 e101
        refine HL.still (Runs.move f4) ?_
        intro u102 e102
        refine HL.still (Runs.assign e101) ?_
        intro u2 e2
        refine HL.still (Runs.assign e102) ?_
        intro u3 e3
        refine HL.nil ?_
        refine HW.ret ?_
        exact RT.two rfl e2 e3 ⟨⟨n, by rw [hsz, if_neg (by omega)], CharR.big (by rw [hsz, if_neg (by omega)]; omega) (by omega)⟩, rfl⟩
    · have ht : True := trivial
      -- region 18
      repeat refine HW.seq ?_
      refine HW.region ?_
      refine HL.still (Runs.move f5) ?_
      intro u86 e86
      refine HL.still (Runs.move g7) ?_
      intro u87 e87
      refine HL.still (Runs.lss e86 e87 (t := false) (decide_eq_false h1)) ?_
      intro u88 e88
      refine HL.still (Runs.move e88) ?_
      intro u89 e89
      refine HL.stillG rfl rfl e89 (Runs.move f5) ?_
      intro u90 e90
      refine HL.stillG rfl rfl e89 (Runs.gtr e90 rfl (t := false) (decide_eq_false h2)) ?_
      intro u91 e91
      refine HL.still (Runs.pick e89 e91) ?_
      intro u92 e92
      refine HL.still (Runs.move e92) ?_
      intro u93 e93
      refine HL.stillG rfl rfl e93 (Runs.move f5) ?_
      intro u94 e94
      refine HL.stillG rfl rfl e93 (Runs.geq e94 rfl (t := false) (decide_eq_false h3)) ?_
      intro u95 e95
      refine HL.stillG rfl rfl e93 (Runs.move e95) ?_
      intro u96 e96
      refine HL.skipG rfl rfl e96 ?_
      intro u97 e97
      refine HL.skipG rfl rfl e96 ?_
      intro u98 e98
      refine HL.stillG rfl rfl e93 (Runs.pick e96 rfl) ?_
      intro u99 e99
      refine HL.still (Runs.pick e93 e99) ?_
      intro u100 e100
      refine HL.nil ?_
      refine HW.no e100 ?_
      refine HW.skip ?_
      -- region 20
      repeat refine HW.seq ?_
      refine HW.region ?_
      refine HL.still (Runs.move f5) ?_
      intro u101 e101
      refine HL.still (Runs.move f4) ?_
      intro u102 e102
      refine HL.still (Runs.assign e101) ?_
      intro u2 e2
      refine HL.still (Runs.assign e102) ?_
      intro u3 e3
      refine HL.nil ?_
      refine HW.ret ?_
      exact RT.two rfl e2 e3 ⟨⟨n, by rw [hsz, if_neg (by omega)], CharR.big (by rw [hsz, if_neg (by omega)]; omega) (by omega)⟩, rfl⟩
  · have hl : leastO 3 = 2048 := rfl
    rw [hl] at hsz
    -- region 17
    repeat refine HW.seq ?_
    refine HW.region ?_
    refine HL.still (v := .agg #[I64 0, I64 0, I64 128, I64 2048, I64 65536]) (Runs.build (fun w => by kernel_rfl)) ?_
    intro u83 e83
    refine HL.still (Runs.move f4) ?_
    intro u84 e84
    refine HL.still (Runs.ixAgg Tryz.underlying101 Tryz.underlying3 rfl sz3 e83 e84 (by omega) (by omega) rfl) ?_
    intro u85 e85
    refine HL.still (Runs.assign e85) ?_
    intro u7 e7
    refine HL.nil ?_
    have g7 : u7 = I64 2048 := e7
    by_cases h1 : n < 2048
    · have ht : True := trivial
      -- region 18
      repeat refine HW.seq ?_
      refine HW.region ?_
      refine HL.still (Runs.move f5) ?_
      intro u86 e86
      refine HL.still (Runs.move g7) ?_
      intro u87 e87
      refine HL.still (Runs.lss e86 e87 (t := true) (decide_eq_true h1)) ?_
      intro u88 e88
      refine HL.still (Runs.move e88) ?_
      intro u89 e89
      refine HL.skipG rfl rfl e89 ?_
      intro u90 e90
      refine HL.skipG rfl rfl e89 ?_
      intro u91 e91
      refine HL.still (Runs.pick e89 rfl) ?_
      intro u92 e92
      refine HL.still (Runs.move e92) ?_
      intro u93 e93
      refine HL.skipG rfl rfl e93 ?_
      intro u94 e94
      refine HL.skipG rfl rfl e93 ?_
      intro u95 e95
      refine HL.skipG rfl rfl e93 ?_
      intro u96 e96
      refine HL.skipU rfl rfl e96 ?_
      intro u97 e97
      refine HL.skipU rfl rfl e96 ?_
      intro u98 e98
      refine HL.skipG rfl rfl e93 ?_
      intro u99 e99
      refine HL.still (Runs.pick e93 rfl) ?_
      intro u100 e100
      refine HL.nil ?_
      refine HW.yes e100 ?_
      -- region 19
      repeat refine HW.seq ?_
      refine HW.region ?_
      refine HL.still (Runs.assign rfl) ?_
      intro u2 e2
      refine HL.still (Runs.assign rfl) ?_
      intro u3 e3
      refine HL.nil ?_
      refine HW.ret ?_
      exact RT.two rfl e2 e3 ⟨⟨0, by rw [hsz, if_pos (by omega)]; rfl, CharR.zero (by rw [hsz, if_pos (by omega)])⟩, rfl⟩
    by_cases h2 : n > 1114111
    · have ht : True := trivial
      -- region 18
      repeat refine HW.seq ?_
      refine HW.region ?_
      refine HL.still (Runs.move f5) ?_
      intro u86 e86
      refine HL.still (Runs.move g7) ?_
      intro u87 e87
      refine HL.still (Runs.lss e86 e87 (t := false) (decide_eq_false h1)) ?_
      intro u88 e88
      refine HL.still (Runs.move e88) ?_
      intro u89 e89
      refine HL.stillG rfl rfl e89 (Runs.move f5) ?_
      intro u90 e90
      refine HL.stillG rfl rfl e89 (Runs.gtr e90 rfl (t := true) (decide_eq_true h2)) ?_
      intro u91 e91
      refine HL.still (Runs.pick e89 e91) ?_
      intro u92 e92
      refine HL.still (Runs.move e92) ?_
      intro u93 e93
      refine HL.skipG rfl rfl e93 ?_
      intro u94 e94
      refine HL.skipG rfl rfl e93 ?_
      intro u95 e95
      refine HL.skipG rfl rfl e93 ?_
      intro u96 e96
      refine HL.skipU rfl rfl e96 ?_
      intro u97 e97
      refine HL.skipU rfl rfl e96 ?_
      intro u98 e98
      refine HL.skipG rfl rfl e93 ?_
      intro u99 e99
      refine HL.still (Runs.pick e93 rfl) ?_
      intro u100 e100
      refine HL.nil ?_
      refine HW.yes e100 ?_
      -- region 19
      repeat refine HW.seq ?_
      refine HW.region ?_
      refine HL.still (Runs.assign rfl) ?_
      intro u2 e2
      refine HL.still (Runs.assign rfl) ?_
      intro u3 e3
      refine HL.nil ?_
      refine HW.ret ?_
      exact RT.two rfl e2 e3 ⟨⟨0, by rw [hsz, if_pos (by omega)]; rfl, CharR.zero (by rw [hsz, if_pos (by omega)])⟩, rfl⟩
    by_cases h3 : n ≥ 55296
    · by_cases h4 : n < 57344
      · have ht : True := trivial
        -- region 18
        repeat refine HW.seq ?_
        refine HW.region ?_
        refine HL.still (Runs.move f5) ?_
        intro u86 e86
        refine HL.still (Runs.move g7) ?_
        intro u87 e87
        refine HL.still (Runs.lss e86 e87 (t := false) (decide_eq_false h1)) ?_
        intro u88 e88
        refine HL.still (Runs.move e88) ?_
        intro u89 e89
        refine HL.stillG rfl rfl e89 (Runs.move f5) ?_
        intro u90 e90
        refine HL.stillG rfl rfl e89 (Runs.gtr e90 rfl (t := false) (decide_eq_false h2)) ?_
        intro u91 e91
        refine HL.still (Runs.pick e89 e91) ?_
        intro u92 e92
        refine HL.still (Runs.move e92) ?_
        intro u93 e93
        refine HL.stillG rfl rfl e93 (Runs.move f5) ?_
        intro u94 e94
        refine HL.stillG rfl rfl e93 (Runs.geq e94 rfl (t := true) (decide_eq_true h3)) ?_
        intro u95 e95
        refine HL.stillG rfl rfl e93 (Runs.move e95) ?_
        intro u96 e96
        refine HL.stillG rfl rfl e96 (Runs.move f5) ?_
        intro u97 e97
        refine HL.stillG rfl rfl e96 (Runs.lss e97 rfl (t := true) (decide_eq_true h4)) ?_
        intro u98 e98
        refine HL.stillG rfl rfl e93 (Runs.pick e96 e98) ?_
        intro u99 e99
        refine HL.still (Runs.pick e93 e99) ?_
        intro u100 e100
        refine HL.nil ?_
        refine HW.yes e100 ?_
        -- region 19
        repeat refine HW.seq ?_
        refine HW.region ?_
        refine HL.still (Runs.assign rfl) ?_
        intro u2 e2
        refine HL.still (Runs.assign rfl) ?_
        intro u3 e3
        refine HL.nil ?_
        refine HW.ret ?_
        exact RT.two rfl e2 e3 ⟨⟨0, by rw [hsz, if_pos (by omega)]; rfl, CharR.zero (by rw [hsz, if_pos (by omega)])⟩, rfl⟩
      · have ht : True := trivial
        -- region 18
        repeat refine HW.seq ?_
        refine HW.region ?_
        refine HL.still (Runs.move f5) ?_
        intro u86 e86
        refine HL.still (Runs.move g7) ?_
        intro u87 e87
        refine HL.still (Runs.lss e86 e87 (t := false) (decide_eq_false h1)) ?_
        intro u88 e88
        refine HL.still (Runs.move e88) ?_
        intro u89 e89
        refine HL.stillG rfl rfl e89 (Runs.move f5) ?_
        intro u90 e90
        refine HL.stillG rfl rfl e89 (Runs.gtr e90 rfl (t := false) (decide_eq_false h2)) ?_
        intro u91 e91
        refine HL.still (Runs.pick e89 e91) ?_
        intro u92 e92
        refine HL.still (Runs.move e92) ?_
        intro u93 e93
        refine HL.stillG rfl rfl e93 (Runs.move f5) ?_
        intro u94 e94
        refine HL.stillG rfl rfl e93 (Runs.geq e94 rfl (t := true) (decide_eq_true h3)) ?_
        intro u95 e95
        refine HL.stillG rfl rfl e93 (Runs.move e95) ?_
        intro u96 e96
        refine HL.stillG rfl rfl e96 (Runs.move f5) ?_
        intro u97 e97
        refine HL.stillG rfl rfl e96 (Runs.lss e97 rfl (t := false) (decide_eq_false h4)) ?_
        intro u98 e98
        refine HL.stillG rfl rfl e93 (Runs.pick e96 e98) ?_
        intro u99 e99
        refine HL.still (Runs.pick e93 e99) ?_
        intro u100 e100
        refine HL.nil ?_
        refine HW.no e100 ?_
        refine HW.skip ?_
        -- region 20
        repeat refine HW.seq ?_
        refine HW.region ?_
        refine HL.still (Runs.move f5) ?_
        intro u101 e101
        refine HL.still (Runs.move f4) ?_
        intro u102 e102
        refine HL.still (Runs.assign e101) ?_
        intro u2 e2
        refine HL.still (Runs.assign e102) ?_
        intro u3 e3
        refine HL.nil ?_
        refine HW.ret ?_
        exact RT.two rfl e2 e3 ⟨⟨n, by rw [hsz, if_neg (by omega)], CharR.big (by rw [hsz, if_neg (by omega)]; omega) (by omega)⟩, rfl⟩
    · have ht : True := trivial
      -- region 18
      repeat refine HW.seq ?_
      refine HW.region ?_
      refine HL.still (Runs.move f5) ?_
      intro u86 e86
      refine HL.still (Runs.move g7) ?_
      intro u87 e87
      refine HL.still (Runs.lss e86 e87 (t := false) (decide_eq_false h1)) ?_
      intro u88 e88
      refine HL.still (Runs.move e88) ?_
      intro u89 e89
      refine HL.stillG rfl rfl e89 (Runs.move f5) ?_
      intro u90 e90
      refine HL.stillG rfl rfl e89 (Runs.gtr e90 rfl (t := false) (decide_eq_false h2)) ?_
      intro u91 e91
      refine HL.still (Runs.pick e89 e91) ?_
      intro u92 e92
      refine HL.still (Runs.move e92) ?_
      intro u93 e93
      refine HL.stillG rfl rfl e93 (Runs.move f5) ?_
      intro u94 e94
      refine HL.stillG rfl rfl e93 (Runs.geq e94 rfl (t := false) (decide_eq_false h3)) ?_
      intro u95 e95
      refine HL.stillG rfl rfl e93 (Runs.move e95) ?_
      intro u96 e96
      refine HL.skipG rfl rfl e96 ?_
      intro u97 e97
      refine HL.skipG rfl rfl e96 ?_
      intro u98 e98
      refine HL.stillG rfl rfl e93 (Runs.pick e96 rfl) ?_
      intro u99 e99
      refine HL.still (Runs.pick e93 e99) ?_
      intro u100 e100
      refine HL.nil ?_
      refine HW.no e100 ?_
      refine HW.skip ?_
      -- region 20
      repeat refine HW.seq ?_
      refine HW.region ?_
      refine HL.still (Runs.move f5) ?_
      intro u101 e101
      refine HL.still (Runs.move f4) ?_
      intro u102 e102
      refine HL.still (Runs.assign e101) ?_
      intro u2 e2
      refine HL.still (Runs.assign e102) ?_
      intro u3 e3
      refine HL.nil ?_
      refine HW.ret ?_
      exact RT.two rfl e2 e3 ⟨⟨n, by rw [hsz, if_neg (by omega)], CharR.big (by rw [hsz, if_neg (by omega)]; omega) (by omega)⟩, rfl⟩
  · have hl : leastO 4 = 65536 := rfl
    rw [hl] at hsz
    -- region 17
    repeat refine HW.seq ?_
    refine HW.region ?_
    refine HL.still (v := .agg #[I64 0, I64 0, I64 128, I64 2048, I64 65536]) (Runs.build (fun w => by kernel_rfl)) ?_
    intro u83 e83
    refine HL.still (Runs.move f4) ?_
    intro u84 e84
    refine HL.still (Runs.ixAgg Tryz.underlying101 Tryz.underlying3 rfl sz3 e83 e84 (by omega) (by omega) rfl) ?_
    intro u85 e85
    refine HL.still (Runs.assign e85) ?_
    intro u7 e7
    refine HL.nil ?_
    have g7 : u7 = I64 65536 := e7
    by_cases h1 : n < 65536
    · have ht : True := trivial
      -- region 18
      repeat refine HW.seq ?_
      refine HW.region ?_
      refine HL.still (Runs.move f5) ?_
      intro u86 e86
      refine HL.still (Runs.move g7) ?_
      intro u87 e87
      refine HL.still (Runs.lss e86 e87 (t := true) (decide_eq_true h1)) ?_
      intro u88 e88
      refine HL.still (Runs.move e88) ?_
      intro u89 e89
      refine HL.skipG rfl rfl e89 ?_
      intro u90 e90
      refine HL.skipG rfl rfl e89 ?_
      intro u91 e91
      refine HL.still (Runs.pick e89 rfl) ?_
      intro u92 e92
      refine HL.still (Runs.move e92) ?_
      intro u93 e93
      refine HL.skipG rfl rfl e93 ?_
      intro u94 e94
      refine HL.skipG rfl rfl e93 ?_
      intro u95 e95
      refine HL.skipG rfl rfl e93 ?_
      intro u96 e96
      refine HL.skipU rfl rfl e96 ?_
      intro u97 e97
      refine HL.skipU rfl rfl e96 ?_
      intro u98 e98
      refine HL.skipG rfl rfl e93 ?_
      intro u99 e99
      refine HL.still (Runs.pick e93 rfl) ?_
      intro u100 e100
      refine HL.nil ?_
      refine HW.yes e100 ?_
      -- region 19
      repeat refine HW.seq ?_
      refine HW.region ?_
      refine HL.still (Runs.assign rfl) ?_
      intro u2 e2
      refine HL.still (Runs.assign rfl) ?_
      intro u3 e3
      refine HL.nil ?_
      refine HW.ret ?_
      exact RT.two rfl e2 e3 ⟨⟨0, by rw [hsz, if_pos (by omega)]; rfl, CharR.zero (by rw [hsz, if_pos (by omega)])⟩, rfl⟩
    by_cases h2 : n > 1114111
    · have ht : True := trivial
      -- region 18
      repeat refine HW.seq ?_
      refine HW.region ?_
      refine HL.still (Runs.move f5) ?_
      intro u86 e86
      refine HL.still (Runs.move g7) ?_
      intro u87 e87
      refine HL.still (Runs.lss e86 e87 (t := false) (decide_eq_false h1)) ?_
      intro u88 e88
      refine HL.still (Runs.move e88) ?_
      intro u89 e89
      refine HL.stillG rfl rfl e89 (Runs.move f5) ?_
      intro u90 e90
      refine HL.stillG rfl rfl e89 (Runs.gtr e90 rfl (t := true) (decide_eq_true h2)) ?_
      intro u91 e91
      refine HL.still (Runs.pick e89 e91) ?_
      intro u92 e92
      refine HL.still (Runs.move e92) ?_
      intro u93 e93
      refine HL.skipG rfl rfl e93 ?_
      intro u94 e94
      refine HL.skipG rfl rfl e93 ?_
      intro u95 e95
      refine HL.skipG rfl rfl e93 ?_
      intro u96 e96
      refine HL.skipU rfl rfl e96 ?_
      intro u97 e97
      refine HL.skipU rfl rfl e96 ?_
      intro u98 e98
      refine HL.skipG rfl rfl e93 ?_
      intro u99 e99
      refine HL.still (Runs.pick e93 rfl) ?_
      intro u100 e100
      refine HL.nil ?_
      refine HW.yes e100 ?_
      -- region 19
      repeat refine HW.seq ?_
      refine HW.region ?_
      refine HL.still (Runs.assign rfl) ?_
      intro u2 e2
      refine HL.still (Runs.assign rfl) ?_
      intro u3 e3
      refine HL.nil ?_
      refine HW.ret ?_
      exact RT.two rfl e2 e3 ⟨⟨0, by rw [hsz, if_pos (by omega)]; rfl, CharR.zero (by rw [hsz, if_pos (by omega)])⟩, rfl⟩
    by_cases h3 : n ≥ 55296
    · by_cases h4 : n < 57344
      · have ht : True := trivial
        -- region 18
        repeat refine HW.seq ?_
        refine HW.region ?_
        refine HL.still (Runs.move f5) ?_
        intro u86 e86
        refine HL.still (Runs.move g7) ?_
        intro u87 e87
        refine HL.still (Runs.lss e86 e87 (t := false) (decide_eq_false h1)) ?_
        intro u88 e88
        refine HL.still (Runs.move e88) ?_
        intro u89 e89
        refine HL.stillG rfl rfl e89 (Runs.move f5) ?_
        intro u90 e90
        refine HL.stillG rfl rfl e89 (Runs.gtr e90 rfl (t := false) (decide_eq_false h2)) ?_
        intro u91 e91
        refine HL.still (Runs.pick e89 e91) ?_
        intro u92 e92
        refine HL.still (Runs.move e92) ?_
        intro u93 e93
        refine HL.stillG rfl rfl e93 (Runs.move f5) ?_
        intro u94 e94
        refine HL.stillG rfl rfl e93 (Runs.geq e94 rfl (t := true) (decide_eq_true h3)) ?_
        intro u95 e95
        refine HL.stillG rfl rfl e93 (Runs.move e95) ?_
        intro u96 e96
        refine HL.stillG rfl rfl e96 (Runs.move f5) ?_
        intro u97 e97
        refine HL.stillG rfl rfl e96 (Runs.lss e97 rfl (t := true) (decide_eq_true h4)) ?_
        intro u98 e98
        refine HL.stillG rfl rfl e93 (Runs.pick e96 e98) ?_
        intro u99 e99
        refine HL.still (Runs.pick e93 e99) ?_
        intro u100 e100
        refine HL.nil ?_
        refine HW.yes e100 ?_
        -- region 19
        repeat refine HW.seq ?_
        refine HW.region ?_
        refine HL.still (Runs.assign rfl) ?_
        intro u2 e2
        refine HL.still (Runs.assign rfl) ?_
        intro u3 e3
        refine HL.nil ?_
        refine HW.ret ?_
        exact RT.two rfl e2 e3 ⟨⟨0, by rw [hsz, if_pos (by omega)]; rfl, CharR.zero (by rw [hsz, if_pos (by omega)])⟩, rfl⟩
      · have ht : True := trivial
        -- region 18
        repeat refine HW.seq ?_
        refine HW.region ?_
        refine HL.still (Runs.move f5) ?_
        intro u86 e86
        refine HL.still (Runs.move g7) ?_
        intro u87 e87
        refine HL.still (Runs.lss e86 e87 (t := false) (decide_eq_false h1)) ?_
        intro u88 e88
        refine HL.still (Runs.move e88) ?_
        intro u89 e89
        refine HL.stillG rfl rfl e89 (Runs.move f5) ?_
        intro u90 e90
        refine HL.stillG rfl rfl e89 (Runs.gtr e90 rfl (t := false) (decide_eq_false h2)) ?_
        intro u91 e91
        refine HL.still (Runs.pick e89 e91) ?_
        intro u92 e92
        refine HL.still (Runs.move e92) ?_
        intro u93 e93
        refine HL.stillG rfl rfl e93 (Runs.move f5) ?_
        intro u94 e94
        refine HL.stillG rfl rfl e93 (Runs.geq e94 rfl (t := true) (decide_eq_true h3)) ?_
        intro u95 e95
        refine HL.stillG rfl rfl e93 (Runs.move e95) ?_
        intro u96 e96
        refine HL.stillG rfl rfl e96 (Runs.move f5) ?_
        intro u97 e97
        refine HL.stillG rfl rfl e96 (Runs.lss e97 rfl (t := false) (decide_eq_false h4)) ?_
        intro u98 e98
        refine HL.stillG rfl rfl e93 (Runs.pick e96 e98) ?_
        intro u99 e99
        refine HL.still (Runs.pick e93 e99) ?_
        intro u100 e100
        refine HL.nil ?_
        refine HW.no e100 ?_
        refine HW.skip ?_
        -- region 20
        repeat refine HW.seq ?_
        refine HW.region ?_
        refine HL.still (Runs.move f5) ?_
        intro u101 e101
        refine HL.still (Runs.move f4) ?_
        intro u102 e102
        refine HL.still (Runs.assign e101) ?_
        intro u2 e2
        refine HL.still (Runs.assign e102) ?_
        intro u3 e3
        refine HL.nil ?_
        refine HW.ret ?_
        exact RT.two rfl e2 e3 ⟨⟨n, by rw [hsz, if_neg (by omega)], CharR.big (by rw [hsz, if_neg (by omega)]; omega) (by omega)⟩, rfl⟩
    · have ht : True := trivial
      -- region 18
      repeat refine HW.seq ?_
      refine HW.region ?_
      refine HL.still (Runs.move f5) ?_
      intro u86 e86
      refine HL.still (Runs.move g7) ?_
      intro u87 e87
      refine HL.still (Runs.lss e86 e87 (t := false) (decide_eq_false h1)) ?_
      intro u88 e88
      refine HL.still (Runs.move e88) ?_
      intro u89 e89
      refine HL.stillG rfl rfl e89 (Runs.move f5) ?_
      intro u90 e90
      refine HL.stillG rfl rfl e89 (Runs.gtr e90 rfl (t := false) (decide_eq_false h2)) ?_
      intro u91 e91
      refine HL.still (Runs.pick e89 e91) ?_
      intro u92 e92
      refine HL.still (Runs.move e92) ?_
      intro u93 e93
      refine HL.stillG rfl rfl e93 (Runs.move f5) ?_
      intro u94 e94
      refine HL.stillG rfl rfl e93 (Runs.geq e94 rfl (t := false) (decide_eq_false h3)) ?_
      intro u95 e95
      refine HL.stillG rfl rfl e93 (Runs.move e95) ?_
      intro u96 e96
      refine HL.skipG rfl rfl e96 ?_
      intro u97 e97
      refine HL.skipG rfl rfl e96 ?_
      intro u98 e98
      refine HL.stillG rfl rfl e93 (Runs.pick e96 rfl) ?_
      intro u99 e99
      refine HL.still (Runs.pick e93 e99) ?_
      intro u100 e100
      refine HL.nil ?_
      refine HW.no e100 ?_
      refine HW.skip ?_
      -- region 20
      repeat refine HW.seq ?_
      refine HW.region ?_
      refine HL.still (Runs.move f5) ?_
      intro u101 e101
      refine HL.still (Runs.move f4) ?_
      intro u102 e102
      refine HL.still (Runs.assign e101) ?_
      intro u2 e2
      refine HL.still (Runs.assign e102) ?_
      intro u3 e3
      refine HL.nil ?_
      refine HW.ret ?_
      exact RT.two rfl e2 e3 ⟨⟨n, by rw [hsz, if_neg (by omega)], CharR.big (by rw [hsz, if_neg (by omega)]; omega) (by omega)⟩, rfl⟩
theorem char_ch (h : Heap) (s : List UInt8) (hs : s.length < 4611686018427387000) (hpos : 0 < s.length) : CH Tryz.prog 61 #[.string (strOf s)] h fun v h' => (∃ r : Int, v = .tuple #[I64 r, I64 (sizeO s)]) ∧ h' = h :=
  (charV_ch h s hs hpos).mono fun _ _ ⟨⟨r, q1, _⟩, q2⟩ => ⟨⟨r, q1⟩, q2⟩
end Go.Proofs.YtjopikfkgjbcgaaGreatDoor
/-! Is a text right: onionskinref10.Valid. -/
namespace Go.Proofs.YtjopikfkgjbcgaaGreatDoor
set_option linter.unnecessarySimpa false
set_option linter.unusedSimpArgs false
set_option linter.unusedVariables false
open Go.RowKit
theorem sizeO_len {s : List UInt8} (hpos : 0 < s.length) : sizeO s ≤ s.length := by
  unfold sizeO
  simp only
  generalize (lead (at8 s 0)).1 = z
  generalize numK s (lead (at8 s 0)).2 (z - 1) = n
  split
  · omega
  · split
    · omega
    · rename_i h1 h0
      split
      · omega
      · rename_i hall
        have hall : (List.range (z - 1)).all (fun k => cont (at8 s (k + 1))) = true := by simpa using hall
        have hk := List.all_eq_true.1 hall (z - 2) (List.mem_range.2 (by omega))
        have hlt : z - 2 + 1 < s.length := by
          refine Nat.lt_of_not_le fun hle => ?_
          rw [cont_end hle] at hk
          cases hk
        split <;> omega
def validN : Nat → List UInt8 → Bool
  | 0, s => s.isEmpty
  | n + 1, s => if s = [] then true else if sizeO s = 0 then false else validN n (s.drop (sizeO s))
/-- Is it UTF-8? -/
def validO (s : List UInt8) : Bool := validN s.length s
theorem validN_nil (n : Nat) : validN n [] = true := by cases n <;> rfl
set_option maxRecDepth 10000 in
theorem validR_ch (h : Heap) (s : List UInt8) (hs : s.length < 4611686018427387000) : CH Tryz.prog 86 #[.string (strOf s)] h fun v h' => v = .bool (validO s) ∧ h' = h := by
  refine CH.of_body Tryz.func86 rfl rfl rfl ?_
  intro f hf
  have p0 : f 0 = .string (strOf s) := by rw [hf]; exact fr0_at rfl
  -- region 0
  repeat refine HW.seq ?_
  refine HW.region ?_
  refine HL.still (Runs.assign rfl) ?_
  intro u2 e2
  refine HL.nil ?_
  repeat refine HW.seq ?_
  refine HW.block ?_
  refine HW.loop (fun m f u => ∃ t : List UInt8, t.length ≤ m ∧ t.length ≤ s.length ∧ f 0 = .string (strOf t) ∧ validO s = validN m t ∧ h = u) s.length
    ⟨s, Nat.le_refl _, Nat.le_refl _, p0, rfl, rfl⟩ ?_
  clear e2 p0
  rintro m f u ⟨t, htm, hts, p0, hv, rfl⟩
  by_cases hne : t = []
  · subst hne
    rw [validN_nil] at hv
    -- region 1
    repeat refine HW.seq ?_
    refine HW.region ?_
    refine HL.still (Runs.move p0) ?_
    intro u5 e5
    refine HL.still (Runs.neqS e5 rfl (t := false) rfl) ?_
    intro u6 e6
    refine HL.nil ?_
    refine HW.no e6 ?_
    refine HW.exitHere ?_
    -- region 6
    repeat refine HW.seq ?_
    refine HW.region ?_
    refine HL.still (Runs.assign rfl) ?_
    intro u2 e2
    refine HL.nil ?_
    refine HW.ret ?_
    exact RT.one rfl e2 ⟨by rw [hv], rfl⟩
  · have hpos : 0 < t.length := List.length_pos_iff.2 hne
    obtain ⟨m, rfl⟩ : ∃ m', m = m' + 1 := ⟨m - 1, by omega⟩
    rw [validN, if_neg hne] at hv
    have hle := sizeO_le t
    -- region 1
    repeat refine HW.seq ?_
    refine HW.region ?_
    refine HL.still (Runs.move p0) ?_
    intro u5 e5
    refine HL.still (Runs.neqS e5 rfl (t := true) (by cases t with | nil => exact absurd rfl hne | cons _ _ => rfl)) ?_
    intro u6 e6
    refine HL.nil ?_
    refine HW.yes e6 ?_
    refine HW.skip ?_
    repeat refine HW.seq ?_
    refine HW.block ?_
    -- region 2
    repeat refine HW.seq ?_
    refine HW.region ?_
    refine HL.still (Runs.move p0) ?_
    intro u8 e8
    refine HL.one (HO.call Tryz.func61 bd61 nm61 (args1 e8) rfl ((char_ch h t (by omega) hpos).mono ?_))
    rintro _ h9 ⟨⟨r, rfl⟩, rfl⟩
    intro u9 e9
    refine HL.still (Runs.move e9) ?_
    intro u7 e7
    refine HL.still (Runs.extr e7 rfl) ?_
    intro u10 e10
    refine HL.still (Runs.extr e7 rfl) ?_
    intro u11 e11
    refine HL.still (Runs.assign e10) ?_
    intro u3 e3
    refine HL.still (Runs.assign e11) ?_
    intro u4 e4
    refine HL.nil ?_
    have g4 : u4 = I64 (sizeO t : Int) := e4
    by_cases hz : sizeO t = 0
    · rw [if_pos hz] at hv
      -- region 3
      repeat refine HW.seq ?_
      refine HW.region ?_
      refine HL.still (Runs.move g4) ?_
      intro u12 e12
      refine HL.still (Runs.eql e12 rfl (t := true) (by simp [hz])) ?_
      intro u13 e13
      refine HL.nil ?_
      refine HW.yes e13 ?_
      -- region 4
      repeat refine HW.seq ?_
      refine HW.region ?_
      refine HL.still (Runs.assign rfl) ?_
      intro u2 e2
      refine HL.nil ?_
      refine HW.ret ?_
      exact RT.one rfl e2 ⟨by rw [hv], rfl⟩
    · rw [if_neg hz] at hv
      have hzl : sizeO t ≤ t.length := sizeO_len hpos
      -- region 3
      repeat refine HW.seq ?_
      refine HW.region ?_
      refine HL.still (Runs.move g4) ?_
      intro u12 e12
      refine HL.still (Runs.eql e12 rfl (t := false) (by simp [hz])) ?_
      intro u13 e13
      refine HL.nil ?_
      refine HW.no e13 ?_
      refine HW.skip ?_
      -- region 5
      repeat refine HW.seq ?_
      refine HW.region ?_
      refine HL.still (Runs.move p0) ?_
      intro u14 e14
      refine HL.still (Runs.move g4) ?_
      intro u15 e15
      refine HL.still (Runs.sliceS Tryz.underlying9 e14 (lo := sizeO t) (hi := t.length) ⟨_, e15⟩ rfl hzl (Nat.le_refl _)) ?_
      intro u16 e16
      refine HL.still (Runs.assign e16) ?_
      intro u0 e0
      refine HL.nil ?_
      refine ⟨m, by omega, t.drop (sizeO t), by rw [List.length_drop]; omega, by rw [List.length_drop]; omega, ?_, hv, rfl⟩
      rw [e0]
      simp
end Go.Proofs.YtjopikfkgjbcgaaGreatDoor
