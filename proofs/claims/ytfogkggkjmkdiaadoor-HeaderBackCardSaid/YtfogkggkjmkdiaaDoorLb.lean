/- onionskinlaw05.OctalSum returns true. -/
import Derived.Test.YtfogkggkjmkdiaaDoorWm
namespace Go.Proofs.YtfogkggkjmkdiaaDoor
set_option linter.unnecessarySimpa false
set_option linter.unusedSimpArgs false
set_option linter.unusedVariables false
open Go.RowKit
theorem cA_set (xs : List UInt8) (i : Nat) (c : UInt8) (hi : i < xs.length) (k : Nat) : (cA (xs.set i c) k : Int) = cA xs k + (if i < k ∧ ¬(148 ≤ i ∧ i < 156) then (c.toNat : Int) - (xs.getD i 0).toNat else 0) := by
  induction k with
  | zero => simp [cA]
  | succ k ih =>
    rw [cA, cA]
    by_cases hk : k = i
    · subst hk
      rw [getD_set_self _ _ _ _ hi]
      rw [if_neg (by omega)] at ih
      by_cases hm : 148 ≤ k ∧ k < 156
      · rw [if_pos hm, if_pos hm, if_neg (by omega)]
        omega
      · rw [if_neg hm, if_neg hm, if_pos (by omega)]
        omega
    · rw [getD_set_ne _ _ _ _ _ (Ne.symm hk)]
      have e : (i < k + 1 ∧ ¬(148 ≤ i ∧ i < 156)) ↔ (i < k ∧ ¬(148 ≤ i ∧ i < 156)) := by omega
      simp only [e]
      omega
theorem lawSum_ch (h : Heap) (xs : List UInt8) (a : Option Addr) (cap : Nat) (n : Int) (c : UInt8) (hsrc : Byt h a xs) (hcap : xs.length ≤ cap) :
    CH Tryd.prog 7 #[.slice a xs.length cap, .int .i64 n, B8 c] h fun v h' => v = .bool true ∧ Ext h h' := by
  refine CH.of_body Tryd.func7 rfl rfl rfl ?_
  intro f hf
  have p0 : f 0 = .slice a xs.length cap := by rw [hf]; exact fr0_at rfl
  have p1 : f 1 = .int .i64 n := by rw [hf]; exact fr0_at rfl
  have p2 : f 2 = B8 c := by rw [hf]; exact fr0_at rfl
  have hcl := c.toNat_lt
  -- region 0
  repeat refine HW.seq ?_
  refine HW.region ?_
  refine HL.still (Runs.assign rfl) ?_
  intro u6 e6
  refine HL.nil ?_
  -- region 1
  repeat refine HW.seq ?_
  refine HW.region ?_
  refine HL.one (HO.call Tryd.func13 bd13 nm13 (args0) rfl ((small5_ch _).mono ?_))
  rintro _ h1 ⟨rfl, E1⟩
  intro u11 e11
  refine HL.still (Runs.assign e11) ?_
  intro u7 e7
  refine HL.nil ?_
  by_cases q1 : xs.length > 512
  · skip
    -- region 2
    repeat refine HW.seq ?_
    refine HW.region ?_
    refine HL.still (Runs.move p0) ?_
    intro u12 e12
    refine HL.still (Runs.lenSl rfl Tryd.underlying22 e12) ?_
    intro u13 e13
    refine HL.still (Runs.gtr e13 rfl (t := true) (decide_eq_true (by omega))) ?_
    intro u14 e14
    refine HL.still (Runs.move e14) ?_
    intro u15 e15
    refine HL.skipG rfl rfl e15 ?_
    intro u16 e16
    refine HL.skipG rfl rfl e15 ?_
    intro u17 e17
    refine HL.still (Runs.pick e15 rfl) ?_
    intro u18 e18
    refine HL.still (Runs.move e18) ?_
    intro u19 e19
    refine HL.skipG rfl rfl e19 ?_
    intro u20 e20
    refine HL.skipG rfl rfl e19 ?_
    intro u21 e21
    refine HL.still (Runs.pick e19 rfl) ?_
    intro u22 e22
    refine HL.nil ?_
    repeat refine HW.seq ?_
    refine HW.yes ?_ ?_
    exact e22
    -- region 3
    repeat refine HW.seq ?_
    refine HW.region ?_
    refine HL.still (Runs.move e7) ?_
    intro u23 e23
    refine HL.still (Runs.assign e23) ?_
    intro u6 e6
    refine HL.nil ?_
    refine HW.ret ?_
    exact RT.one rfl e6 ⟨rfl, E1⟩
  by_cases q2 : n < 0
  · skip
    -- region 2
    repeat refine HW.seq ?_
    refine HW.region ?_
    refine HL.still (Runs.move p0) ?_
    intro u12 e12
    refine HL.still (Runs.lenSl rfl Tryd.underlying22 e12) ?_
    intro u13 e13
    refine HL.still (Runs.gtr e13 rfl (t := false) (decide_eq_false (by omega))) ?_
    intro u14 e14
    refine HL.still (Runs.move e14) ?_
    intro u15 e15
    refine HL.stillG rfl rfl e15 (Runs.move p1) ?_
    intro u16 e16
    refine HL.stillG rfl rfl e15 (Runs.lss e16 rfl (t := true) (decide_eq_true q2)) ?_
    intro u17 e17
    refine HL.still (Runs.pick e15 e17) ?_
    intro u18 e18
    refine HL.still (Runs.move e18) ?_
    intro u19 e19
    refine HL.skipG rfl rfl e19 ?_
    intro u20 e20
    refine HL.skipG rfl rfl e19 ?_
    intro u21 e21
    refine HL.still (Runs.pick e19 rfl) ?_
    intro u22 e22
    refine HL.nil ?_
    repeat refine HW.seq ?_
    refine HW.yes ?_ ?_
    exact e22
    -- region 3
    repeat refine HW.seq ?_
    refine HW.region ?_
    refine HL.still (Runs.move e7) ?_
    intro u23 e23
    refine HL.still (Runs.assign e23) ?_
    intro u6 e6
    refine HL.nil ?_
    refine HW.ret ?_
    exact RT.one rfl e6 ⟨rfl, E1⟩
  by_cases q3 : n > 511
  · skip
    -- region 2
    repeat refine HW.seq ?_
    refine HW.region ?_
    refine HL.still (Runs.move p0) ?_
    intro u12 e12
    refine HL.still (Runs.lenSl rfl Tryd.underlying22 e12) ?_
    intro u13 e13
    refine HL.still (Runs.gtr e13 rfl (t := false) (decide_eq_false (by omega))) ?_
    intro u14 e14
    refine HL.still (Runs.move e14) ?_
    intro u15 e15
    refine HL.stillG rfl rfl e15 (Runs.move p1) ?_
    intro u16 e16
    refine HL.stillG rfl rfl e15 (Runs.lss e16 rfl (t := false) (decide_eq_false q2)) ?_
    intro u17 e17
    refine HL.still (Runs.pick e15 e17) ?_
    intro u18 e18
    refine HL.still (Runs.move e18) ?_
    intro u19 e19
    refine HL.stillG rfl rfl e19 (Runs.move p1) ?_
    intro u20 e20
    refine HL.stillG rfl rfl e19 (Runs.gtr e20 rfl (t := true) (decide_eq_true q3)) ?_
    intro u21 e21
    refine HL.still (Runs.pick e19 e21) ?_
    intro u22 e22
    refine HL.nil ?_
    repeat refine HW.seq ?_
    refine HW.yes ?_ ?_
    exact e22
    -- region 3
    repeat refine HW.seq ?_
    refine HW.region ?_
    refine HL.still (Runs.move e7) ?_
    intro u23 e23
    refine HL.still (Runs.assign e23) ?_
    intro u6 e6
    refine HL.nil ?_
    refine HW.ret ?_
    exact RT.one rfl e6 ⟨rfl, E1⟩
  obtain ⟨i, rfl⟩ : ∃ i : Nat, n = (i : Int) := ⟨n.toNat, by omega⟩
  -- region 2
  repeat refine HW.seq ?_
  refine HW.region ?_
  refine HL.still (Runs.move p0) ?_
  intro u12 e12
  refine HL.still (Runs.lenSl rfl Tryd.underlying22 e12) ?_
  intro u13 e13
  refine HL.still (Runs.gtr e13 rfl (t := false) (decide_eq_false (by omega))) ?_
  intro u14 e14
  refine HL.still (Runs.move e14) ?_
  intro u15 e15
  refine HL.stillG rfl rfl e15 (Runs.move p1) ?_
  intro u16 e16
  refine HL.stillG rfl rfl e15 (Runs.lss e16 rfl (t := false) (decide_eq_false q2)) ?_
  intro u17 e17
  refine HL.still (Runs.pick e15 e17) ?_
  intro u18 e18
  refine HL.still (Runs.move e18) ?_
  intro u19 e19
  refine HL.stillG rfl rfl e19 (Runs.move p1) ?_
  intro u20 e20
  refine HL.stillG rfl rfl e19 (Runs.gtr e20 rfl (t := false) (decide_eq_false q3)) ?_
  intro u21 e21
  refine HL.still (Runs.pick e19 e21) ?_
  intro u22 e22
  refine HL.nil ?_
  repeat refine HW.seq ?_
  refine HW.no ?_ ?_
  exact e22
  refine HW.skip ?_
  -- region 4
  repeat refine HW.seq ?_
  refine HW.region ?_
  refine HL.one (HO.makeB Tryd.underlying22 in5 rfl rfl (n := 512) (by decide) ?_)
  intro h2 w2
  intro u24 e24
  refine HL.still (Runs.assign e24) ?_
  intro u8 e8
  refine HL.nil ?_
  have z1 := E1.size
  have z2 := w2.size
  -- region 5
  repeat refine HW.seq ?_
  refine HW.region ?_
  refine HL.still (Runs.move e8) ?_
  intro u25 e25
  refine HL.still (Runs.move p0) ?_
  intro u26 e26
  refine HL.one (HO.copyB Tryd.underlying22 sz5 e25 e26 rfl ((hsrc.ext E1).ext w2.ext) w2.new (by rw [List.length_replicate]; omega) ?_)
  intro h3 w3
  intro u27 e27
  refine HL.nil ?_
  obtain ⟨ys, hys⟩ : ∃ ys, ys = over (List.replicate 512 0) 0 (xs.take 512) := ⟨_, rfl⟩
  have hyl : ys.length = 512 := by rw [hys, over_len _ _ _ (by rw [List.length_take, List.length_replicate]; omega), List.length_replicate]
  have hb3 := w3.new
  rw [← hys] at hb3
  have e8' : u8 = .slice (some ⟨h1.size, 0, none⟩) ys.length 512 := by rw [e8, hyl]
  -- region 6
  repeat refine HW.seq ?_
  refine HW.region ?_
  refine HL.still (Runs.move e8') ?_
  intro u28 e28
  refine HL.one (HO.call Tryd.func18 bd18 nm18 (args1 e28) rfl ((check_ch h3 ys (some ⟨h1.size, 0, none⟩) 512 (byt_block hb3) (by omega)).mono ?_))
  rintro _ h4 ⟨rfl, hh4⟩
  intro u29 e29
  refine HL.still (Runs.assign e29) ?_
  intro u9 e9
  refine HL.nil ?_
  rw [← hh4] at hb3
  have hcell := cellH_map (j := i) 0 hb3 (by omega)
  have hgl := (ys.getD i 0).toNat_lt
  -- region 7
  repeat refine HW.seq ?_
  refine HW.region ?_
  refine HL.still (Runs.move p2) ?_
  intro u30 e30
  refine HL.still (Runs.conv Tryd.underlying5 Tryd.underlying3 e30 (i64w (by omega))) ?_
  intro u31 e31
  refine HL.still (Runs.move e8) ?_
  intro u32 e32
  refine HL.still (Runs.move p1) ?_
  intro u33 e33
  refine HL.still (Runs.ixSl (o' := i) Tryd.underlying22 sz5 e32 e33 (by omega) (by omega) (by omega)) ?_
  intro u34 e34
  refine HL.still (Runs.load Tryd.underlying5 rfl e34 hcell) ?_
  intro u35 e35
  refine HL.still (Runs.conv Tryd.underlying5 Tryd.underlying3 e35 (i64w (by omega))) ?_
  intro u36 e36
  refine HL.still (Runs.sub e31 e36 (i64w (by omega))) ?_
  intro u37 e37
  refine HL.still (Runs.assign e37) ?_
  intro u10 e10
  refine HL.nil ?_
  -- region 8
  repeat refine HW.seq ?_
  refine HW.region ?_
  refine HL.still (Runs.move e8) ?_
  intro u38 e38
  refine HL.still (Runs.move p1) ?_
  intro u39 e39
  refine HL.still (Runs.move p2) ?_
  intro u40 e40
  refine HL.still (Runs.ixSl (o' := i) Tryd.underlying22 sz5 e38 e39 (by omega) (by omega) (by omega)) ?_
  intro u41 e41
  refine HL.zero (HO.store (s := 1) sz5 e41 e40 rfl hb3 (by rw [List.length_map, hyl]; omega) rfl ?_)
  intro h5 w5
  refine HL.nil ?_
  have hb5 := w5.new
  rw [← List.map_set] at hb5
  have hzl : (ys.set i c).length = 512 := by rw [List.length_set, hyl]
  have X5 : Ext h h5 := by
    have := ((E1.nw w2 (Nat.le_refl _)).wr w3 z1)
    rw [← hh4] at this
    exact this.wr w5 z1
  have hsum : checkO (ys.set i c) = checkO ys + (if 148 ≤ i ∧ i < 156 then 0 else (c.toNat : Int) - (ys.getD i 0).toNat) := by
    unfold checkO
    rw [if_pos hzl, if_pos hyl]
    have := cA_set ys i c (by omega) 512
    by_cases hm : 148 ≤ i ∧ i < 156
    · rw [if_pos hm]
      rw [if_neg (by omega)] at this
      omega
    · rw [if_neg hm]
      rw [if_pos (by omega)] at this
      omega
  have hck : 0 ≤ checkO ys ∧ checkO ys ≤ 200000 := by
    have := cA_le ys 512
    unfold checkO
    rw [if_pos hyl]
    omega
  have e8'' : u8 = .slice (some ⟨h1.size, 0, none⟩) (ys.set i c).length 512 := by rw [e8, hzl]
  by_cases hm1 : 148 ≤ i
  · by_cases hm2 : i < 156
    · rw [if_pos ⟨hm1, hm2⟩] at hsum
      -- region 9
      repeat refine HW.seq ?_
      refine HW.region ?_
      refine HL.still (Runs.move p1) ?_
      intro u42 e42
      refine HL.still (Runs.geq e42 rfl (t := true) (decide_eq_true (by omega))) ?_
      intro u43 e43
      refine HL.still (Runs.move e43) ?_
      intro u44 e44
      refine HL.stillG rfl rfl e44 (Runs.move p1) ?_
      intro u45 e45
      refine HL.stillG rfl rfl e44 (Runs.lss e45 rfl (t := true) (decide_eq_true (by omega))) ?_
      intro u46 e46
      refine HL.still (Runs.pick e44 e46) ?_
      intro u47 e47
      refine HL.nil ?_
      repeat refine HW.seq ?_
      refine HW.yes ?_ ?_
      exact e47
      -- region 10
      repeat refine HW.seq ?_
      refine HW.region ?_
      refine HL.still (Runs.assign rfl) ?_
      intro u10 e10
      refine HL.nil ?_
      -- region 11
      repeat refine HW.seq ?_
      refine HW.region ?_
      refine HL.still (Runs.move e7) ?_
      intro u48 e48
      refine HL.still (Runs.move e48) ?_
      intro u49 e49
      refine HL.stillG rfl rfl e49 (Runs.move e8'') ?_
      intro u50 e50
      refine HL.oneG rfl rfl e49 (HO.call Tryd.func18 bd18 nm18 (args1 e50) rfl ((check_ch h5 (ys.set i c) (some ⟨h1.size, 0, none⟩) 512 (byt_block hb5) (by omega)).mono ?_))
      rintro _ h6 ⟨rfl, hh6⟩
      intro u51 e51
      refine HL.stillG rfl rfl e49 (Runs.move e9) ?_
      intro u52 e52
      refine HL.stillG rfl rfl e49 (Runs.move e10) ?_
      intro u53 e53
      refine HL.stillG rfl rfl e49 (Runs.add e52 e53 (i64w (by omega))) ?_
      intro u54 e54
      refine HL.stillG rfl rfl e49 (Runs.eql e51 e54 (t := true) (by rw [hsum]; simp)) ?_
      intro u55 e55
      refine HL.still (Runs.pick e49 e55) ?_
      intro u56 e56
      refine HL.still (Runs.assign e56) ?_
      intro u6 e6
      refine HL.nil ?_
      refine HW.ret ?_
      exact RT.one rfl e6 ⟨rfl, by rw [hh6]; exact X5⟩
    · rw [if_neg (by omega)] at hsum
      -- region 9
      repeat refine HW.seq ?_
      refine HW.region ?_
      refine HL.still (Runs.move p1) ?_
      intro u42 e42
      refine HL.still (Runs.geq e42 rfl (t := true) (decide_eq_true (by omega))) ?_
      intro u43 e43
      refine HL.still (Runs.move e43) ?_
      intro u44 e44
      refine HL.stillG rfl rfl e44 (Runs.move p1) ?_
      intro u45 e45
      refine HL.stillG rfl rfl e44 (Runs.lss e45 rfl (t := false) (decide_eq_false (by omega))) ?_
      intro u46 e46
      refine HL.still (Runs.pick e44 e46) ?_
      intro u47 e47
      refine HL.nil ?_
      repeat refine HW.seq ?_
      refine HW.no ?_ ?_
      exact e47
      refine HW.skip ?_
      -- region 11
      repeat refine HW.seq ?_
      refine HW.region ?_
      refine HL.still (Runs.move e7) ?_
      intro u48 e48
      refine HL.still (Runs.move e48) ?_
      intro u49 e49
      refine HL.stillG rfl rfl e49 (Runs.move e8'') ?_
      intro u50 e50
      refine HL.oneG rfl rfl e49 (HO.call Tryd.func18 bd18 nm18 (args1 e50) rfl ((check_ch h5 (ys.set i c) (some ⟨h1.size, 0, none⟩) 512 (byt_block hb5) (by omega)).mono ?_))
      rintro _ h6 ⟨rfl, hh6⟩
      intro u51 e51
      refine HL.stillG rfl rfl e49 (Runs.move e9) ?_
      intro u52 e52
      refine HL.stillG rfl rfl e49 (Runs.move e10) ?_
      intro u53 e53
      refine HL.stillG rfl rfl e49 (Runs.add e52 e53 (i64w (by omega))) ?_
      intro u54 e54
      refine HL.stillG rfl rfl e49 (Runs.eql e51 e54 (t := true) (by rw [hsum]; simp)) ?_
      intro u55 e55
      refine HL.still (Runs.pick e49 e55) ?_
      intro u56 e56
      refine HL.still (Runs.assign e56) ?_
      intro u6 e6
      refine HL.nil ?_
      refine HW.ret ?_
      exact RT.one rfl e6 ⟨rfl, by rw [hh6]; exact X5⟩
  · rw [if_neg (by omega)] at hsum
    -- region 9
    repeat refine HW.seq ?_
    refine HW.region ?_
    refine HL.still (Runs.move p1) ?_
    intro u42 e42
    refine HL.still (Runs.geq e42 rfl (t := false) (decide_eq_false (by omega))) ?_
    intro u43 e43
    refine HL.still (Runs.move e43) ?_
    intro u44 e44
    refine HL.skipG rfl rfl e44 ?_
    intro u45 e45
    refine HL.skipG rfl rfl e44 ?_
    intro u46 e46
    refine HL.still (Runs.pick e44 rfl) ?_
    intro u47 e47
    refine HL.nil ?_
    repeat refine HW.seq ?_
    refine HW.no ?_ ?_
    exact e47
    refine HW.skip ?_
    -- region 11
    repeat refine HW.seq ?_
    refine HW.region ?_
    refine HL.still (Runs.move e7) ?_
    intro u48 e48
    refine HL.still (Runs.move e48) ?_
    intro u49 e49
    refine HL.stillG rfl rfl e49 (Runs.move e8'') ?_
    intro u50 e50
    refine HL.oneG rfl rfl e49 (HO.call Tryd.func18 bd18 nm18 (args1 e50) rfl ((check_ch h5 (ys.set i c) (some ⟨h1.size, 0, none⟩) 512 (byt_block hb5) (by omega)).mono ?_))
    rintro _ h6 ⟨rfl, hh6⟩
    intro u51 e51
    refine HL.stillG rfl rfl e49 (Runs.move e9) ?_
    intro u52 e52
    refine HL.stillG rfl rfl e49 (Runs.move e10) ?_
    intro u53 e53
    refine HL.stillG rfl rfl e49 (Runs.add e52 e53 (i64w (by omega))) ?_
    intro u54 e54
    refine HL.stillG rfl rfl e49 (Runs.eql e51 e54 (t := true) (by rw [hsum]; simp)) ?_
    intro u55 e55
    refine HL.still (Runs.pick e49 e55) ?_
    intro u56 e56
    refine HL.still (Runs.assign e56) ?_
    intro u6 e6
    refine HL.nil ?_
    refine HW.ret ?_
    exact RT.one rfl e6 ⟨rfl, by rw [hh6]; exact X5⟩
end Go.Proofs.YtfogkggkjmkdiaaDoor
