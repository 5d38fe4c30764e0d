/- Digests as texts: digest.Parse, onionskinref02.Parse. -/
import Derived.Test.YtbfmkjfpialihaaDc
namespace Go.Proofs.Ytbfmkjfpialihaa
set_option linter.unnecessarySimpa false
set_option linter.unusedSimpArgs false
set_option linter.unusedVariables false
open Go.RowKit
theorem at16_conv (t : List UInt8) (i : Nat) : IntKind.u8.wrap ((16 : Int) * (val (t.getD (2 * i) 0) : Int) + (val (t.getD (2 * i + 1) 0) : Int)) = ((at16 t i).toNat : Int) := by
  have := u8_of_nat (16 * val (t.getD (2 * i) 0) + val (t.getD (2 * i + 1) 0))
  rw [at16, ← this]
  simp
set_option maxRecDepth 10000 in
/-- onionskinref02.Parse. -/
theorem rparse_ch (h : Heap) (s : List UInt8) (hs : s.length < 4611686018427387904) : CH Try.prog 22 #[.string (strOf s)] h fun v h' => v = .tuple #[.agg ((parseD s).1.map B8).toArray, .bool (parseD s).2] ∧ Ext h h' := by
  refine CH.of_body Try.func22 rfl rfl rfl ?_
  intro f hf
  have p0 : f 0 = .string (strOf s) := by rw [hf]; exact fr0_at rfl
  -- region 0
  repeat refine HW.seq ?_
  refine HW.region ?_
  refine HL.one (HO.alloc zr25 ?_)
  intro h1 w1
  intro u2 e2
  refine HL.still (Runs.assign rfl) ?_
  intro u3 e3
  refine HL.nil ?_
  -- region 1
  repeat refine HW.seq ?_
  refine HW.region ?_
  refine HL.one (HO.alloc zr25 ?_)
  intro h2 w2
  intro u4 e4
  refine HL.nil ?_
  have z1 := w1.size
  have z2 := w2.size
  have hb1 : h2[h.size]? = some (.cells (zero32.map B8).toArray 25 (0, 0)) := w2.keep w1.new
  have hb2 : h2[h1.size]? = some (.cells (zero32.map B8).toArray 25 (0, 0)) := w2.new
  have X2 : Ext h h2 := w1.ext.ext w2.ext (Nat.le_refl _)
  by_cases hl : s.length = 71
  · cases hp : (s.take 7 == pre7) with
    | false =>
      skip
      -- region 2
      repeat refine HW.seq ?_
      refine HW.region ?_
      refine HL.still (Runs.move p0) ?_
      intro u8 e8
      refine HL.still (Runs.lenS rfl Try.underlying9 e8) ?_
      intro u9 e9
      refine HL.still (Runs.neq e9 rfl (t := false) (by simp; omega)) ?_
      intro u10 e10
      refine HL.still (Runs.move e10) ?_
      intro u11 e11
      refine HL.stillG rfl rfl e11 (Runs.move p0) ?_
      intro u12 e12
      refine HL.stillG rfl rfl e11 (Runs.sliceS Try.underlying9 e12 (lo := 0) (hi := 7) rfl ⟨_, rfl⟩ (by decide) (by rw [hl]; decide)) ?_
      intro u13 e13
      refine HL.stillG rfl rfl e11 (Runs.neqS e13 rfl (ys := pre7) (t := true) (by rw [List.drop_zero, hp]; rfl)) ?_
      intro u14 e14
      refine HL.still (Runs.pick e11 e14) ?_
      intro u15 e15
      refine HL.nil ?_
      repeat refine HW.seq ?_
      refine HW.yes ?_ ?_
      exact e15
      -- region 3
      repeat refine HW.seq ?_
      refine HW.region ?_
      refine HL.still (Runs.loadAgg Try.underlying25 rfl sz25 e4 (by rfl) (load_blk hb2)) ?_
      intro u16 e16
      refine HL.zero (HO.storeAll sz25 e2 e16 (one_map B8 (fun _ => rfl) _) hb1 rfl rfl ?_)
      intro h3 w3
      refine HL.still (Runs.assign rfl) ?_
      intro u3 e3
      refine HL.nil ?_
      refine HW.ret ?_
      rw [parse_bad (isD_pre hp)]
      exact RT.cellTmp rfl e2 e3 w3.new Try.underlying25 rfl sz25 rfl ⟨rfl, X2.wr w3 (Nat.le_refl _)⟩
    | true =>
      skip
      -- region 2
      repeat refine HW.seq ?_
      refine HW.region ?_
      refine HL.still (Runs.move p0) ?_
      intro u8 e8
      refine HL.still (Runs.lenS rfl Try.underlying9 e8) ?_
      intro u9 e9
      refine HL.still (Runs.neq e9 rfl (t := false) (by simp; omega)) ?_
      intro u10 e10
      refine HL.still (Runs.move e10) ?_
      intro u11 e11
      refine HL.stillG rfl rfl e11 (Runs.move p0) ?_
      intro u12 e12
      refine HL.stillG rfl rfl e11 (Runs.sliceS Try.underlying9 e12 (lo := 0) (hi := 7) rfl ⟨_, rfl⟩ (by decide) (by rw [hl]; decide)) ?_
      intro u13 e13
      refine HL.stillG rfl rfl e11 (Runs.neqS e13 rfl (ys := pre7) (t := false) (by rw [List.drop_zero, hp]; rfl)) ?_
      intro u14 e14
      refine HL.still (Runs.pick e11 e14) ?_
      intro u15 e15
      refine HL.nil ?_
      repeat refine HW.seq ?_
      refine HW.no ?_ ?_
      exact e15
      refine HW.skip ?_
      -- region 4
      repeat refine HW.seq ?_
      refine HW.region ?_
      refine HL.still (Runs.assign rfl) ?_
      intro u5 e5
      refine HL.nil ?_
      have htl : (s.drop 7).length = 64 := by simp; omega
      repeat refine HW.seq ?_
      refine HW.block ?_
      refine HW.loop (fun m f g => ∃ i : Nat, i ≤ 32 ∧ m = 32 - i ∧ f 5 = I64 i ∧ f 0 = .string (strOf s) ∧ f 2 = .pointer (some ⟨h.size, 0, none⟩) ∧ f 4 = .pointer (some ⟨h1.size, 0, none⟩) ∧ (∀ j, j < 2 * i → val ((s.drop 7).getD j 0) < 16) ∧
        g[h.size]? = some (.cells (zero32.map B8).toArray 25 (0, 0)) ∧ g[h1.size]? = some (.cells (((List.range i).map (at16 (s.drop 7)) ++ List.replicate (32 - i) 0).map B8).toArray 25 (0, 0)) ∧ Ext h g ∧ g.size = h2.size) 32
        ⟨0, Nat.zero_le _, rfl, e5, p0, e2, e4, fun j hj => by omega, hb1, hb2, X2, rfl⟩ ?_
      rintro m f g ⟨i, hi, hm, f5, f0, f2, f4, hG, hb1, hb2, hX, hg⟩
      have hol : ((List.range i).map (at16 (s.drop 7)) ++ List.replicate (32 - i) (0 : UInt8)).length = 32 := by simp; omega
      by_cases hlt : i < 32
      · have va := val_le ((s.drop 7).getD (2 * i) 0)
        have vb := val_le ((s.drop 7).getD (2 * i + 1) 0)
        -- region 5
        repeat refine HW.seq ?_
        refine HW.region ?_
        refine HL.still (Runs.move f5) ?_
        intro u17 e17
        refine HL.still (Runs.lss e17 rfl rfl) ?_
        intro u18 e18
        refine HL.nil ?_
        repeat refine HW.seq ?_
        refine HW.yes ?_ ?_
        exact e18.trans (congrArg Value.bool (decide_eq_true (by omega)))
        refine HW.skip ?_
        repeat refine HW.seq ?_
        refine HW.block ?_
        -- region 7
        repeat refine HW.seq ?_
        refine HW.region ?_
        refine HL.still (Runs.move f0) ?_
        intro u21 e21
        refine HL.still (Runs.move f5) ?_
        intro u22 e22
        refine HL.still (Runs.mul rfl e22 (i64w (by omega))) ?_
        intro u23 e23
        refine HL.still (Runs.add rfl e23 (i64w (by omega))) ?_
        intro u24 e24
        refine HL.still (Runs.ixS Try.underlying9 e21 e24 (j := 7 + 2 * i) (by omega) (drop_get (by omega))) ?_
        intro u25 e25
        refine HL.one (HO.call Try.func33 bd33 nm33 (args1 e25) rfl ((value_ch _ _).mono ?_))
        rintro _ _ ⟨rfl, rfl⟩
        intro u26 e26
        refine HL.still (Runs.assign e26) ?_
        intro u6 e6
        refine HL.nil ?_
        -- region 8
        repeat refine HW.seq ?_
        refine HW.region ?_
        refine HL.still (Runs.move f0) ?_
        intro u27 e27
        refine HL.still (Runs.move f5) ?_
        intro u28 e28
        refine HL.still (Runs.mul rfl e28 (i64w (by omega))) ?_
        intro u29 e29
        refine HL.still (Runs.add rfl e29 (i64w (by omega))) ?_
        intro u30 e30
        refine HL.still (Runs.ixS Try.underlying9 e27 e30 (j := 7 + (2 * i + 1)) (by omega) (drop_get (by omega))) ?_
        intro u31 e31
        refine HL.one (HO.call Try.func33 bd33 nm33 (args1 e31) rfl ((value_ch _ _).mono ?_))
        rintro _ _ ⟨rfl, rfl⟩
        intro u32 e32
        refine HL.still (Runs.assign e32) ?_
        intro u7 e7
        refine HL.nil ?_
        by_cases ha : val ((s.drop 7).getD (2 * i) 0) < 16
        · by_cases hb : val ((s.drop 7).getD (2 * i + 1) 0) < 16
          · skip
            -- region 9
            repeat refine HW.seq ?_
            refine HW.region ?_
            refine HL.still (Runs.move e6) ?_
            intro u33 e33
            refine HL.still (Runs.gtr e33 rfl (t := false) (decide_eq_false (by omega))) ?_
            intro u34 e34
            refine HL.still (Runs.move e34) ?_
            intro u35 e35
            refine HL.stillG rfl rfl e35 (Runs.move e7) ?_
            intro u36 e36
            refine HL.stillG rfl rfl e35 (Runs.gtr e36 rfl (t := false) (decide_eq_false (by omega))) ?_
            intro u37 e37
            refine HL.still (Runs.pick e35 e37) ?_
            intro u38 e38
            refine HL.nil ?_
            repeat refine HW.seq ?_
            refine HW.no ?_ ?_
            exact e38
            refine HW.skip ?_
            -- region 11
            repeat refine HW.seq ?_
            refine HW.region ?_
            refine HL.still (Runs.move f5) ?_
            intro u40 e40
            refine HL.still (Runs.move e6) ?_
            intro u41 e41
            refine HL.still (Runs.mul rfl e41 (i64w (by omega))) ?_
            intro u42 e42
            refine HL.still (Runs.move e7) ?_
            intro u43 e43
            refine HL.still (Runs.add e42 e43 (i64w (by omega))) ?_
            intro u44 e44
            refine HL.still (Runs.conv Try.underlying3 Try.underlying5 e44 (at16_conv _ _)) ?_
            intro u45 e45
            refine HL.still (Runs.ixArr (o' := i) Try.underlying25 sz5 f4 e40 (by omega) (by omega) (by omega)) ?_
            intro u46 e46
            refine HL.zero (HO.store (s := 1) sz5 e46 e45 rfl hb2 (by rw [List.length_map, hol]; omega) rfl ?_)
            intro h3 w3
            refine HL.nil ?_
            have hb3 := w3.new
            rw [← List.map_set, fill_step (at16 (s.drop 7)) 32 i 0 hlt] at hb3
            have z3 := w3.size
            -- region 6
            repeat refine HW.seq ?_
            refine HW.region ?_
            refine HL.still (Runs.move f5) ?_
            intro u19 e19
            refine HL.still (Runs.add e19 rfl (i64w (by omega))) ?_
            intro u20 e20
            refine HL.still (Runs.assign e20) ?_
            intro u5 e5
            refine HL.nil ?_
            refine ⟨32 - (i + 1), by omega, i + 1, by omega, rfl, e5, f0, f2, f4, fun j hj => ?_, w3.keep hb1 (by omega), hb3, hX.wr w3 (by omega), by omega⟩
            by_cases h1 : j < 2 * i
            · exact hG j h1
            · by_cases h2 : j = 2 * i
              · rw [h2]; exact ha
              · rw [show j = 2 * i + 1 by omega]; exact hb
          · skip
            -- region 9
            repeat refine HW.seq ?_
            refine HW.region ?_
            refine HL.still (Runs.move e6) ?_
            intro u33 e33
            refine HL.still (Runs.gtr e33 rfl (t := false) (decide_eq_false (by omega))) ?_
            intro u34 e34
            refine HL.still (Runs.move e34) ?_
            intro u35 e35
            refine HL.stillG rfl rfl e35 (Runs.move e7) ?_
            intro u36 e36
            refine HL.stillG rfl rfl e35 (Runs.gtr e36 rfl (t := true) (decide_eq_true (by omega))) ?_
            intro u37 e37
            refine HL.still (Runs.pick e35 e37) ?_
            intro u38 e38
            refine HL.nil ?_
            repeat refine HW.seq ?_
            refine HW.yes ?_ ?_
            exact e38
            -- region 10
            repeat refine HW.seq ?_
            refine HW.region ?_
            refine HL.still (Runs.build (v := .agg (zero32.map B8).toArray) (fun w => by kernel_rfl)) ?_
            intro u39 e39
            refine HL.zero (HO.storeAll sz25 f2 e39 (one_map B8 (fun _ => rfl) _) hb1 rfl rfl ?_)
            intro h3 w3
            refine HL.still (Runs.assign rfl) ?_
            intro u3 e3
            refine HL.nil ?_
            refine HW.ret ?_
            rw [parse_bad (isD_good (bad_of (j := 2 * i + 1) (by omega) hb))]
            exact RT.cellTmp rfl f2 e3 w3.new Try.underlying25 rfl sz25 rfl ⟨rfl, hX.wr w3 (Nat.le_refl _)⟩
        · skip
          -- region 9
          repeat refine HW.seq ?_
          refine HW.region ?_
          refine HL.still (Runs.move e6) ?_
          intro u33 e33
          refine HL.still (Runs.gtr e33 rfl (t := true) (decide_eq_true (by omega))) ?_
          intro u34 e34
          refine HL.still (Runs.move e34) ?_
          intro u35 e35
          refine HL.skipG rfl rfl e35 ?_
          intro u36 e36
          refine HL.skipG rfl rfl e35 ?_
          intro u37 e37
          refine HL.still (Runs.pick e35 rfl) ?_
          intro u38 e38
          refine HL.nil ?_
          repeat refine HW.seq ?_
          refine HW.yes ?_ ?_
          exact e38
          -- region 10
          repeat refine HW.seq ?_
          refine HW.region ?_
          refine HL.still (Runs.build (v := .agg (zero32.map B8).toArray) (fun w => by kernel_rfl)) ?_
          intro u39 e39
          refine HL.zero (HO.storeAll sz25 f2 e39 (one_map B8 (fun _ => rfl) _) hb1 rfl rfl ?_)
          intro h3 w3
          refine HL.still (Runs.assign rfl) ?_
          intro u3 e3
          refine HL.nil ?_
          refine HW.ret ?_
          rw [parse_bad (isD_good (bad_of (j := 2 * i) (by omega) ha))]
          exact RT.cellTmp rfl f2 e3 w3.new Try.underlying25 rfl sz25 rfl ⟨rfl, hX.wr w3 (Nat.le_refl _)⟩
      · have hi32 : i = 32 := by omega
        subst hi32
        -- region 5
        repeat refine HW.seq ?_
        refine HW.region ?_
        refine HL.still (Runs.move f5) ?_
        intro u17 e17
        refine HL.still (Runs.lss e17 rfl rfl) ?_
        intro u18 e18
        refine HL.nil ?_
        repeat refine HW.seq ?_
        refine HW.no ?_ ?_
        exact e18.trans (congrArg Value.bool (decide_eq_false (by omega)))
        refine HW.exitHere ?_
        rw [show (List.range 32).map (at16 (s.drop 7)) ++ List.replicate (32 - 32) (0 : UInt8) = unhex (s.drop 7) by simp [unhex]] at hb2
        -- region 12
        repeat refine HW.seq ?_
        refine HW.region ?_
        refine HL.still (Runs.loadAgg Try.underlying25 rfl sz25 f4 (by rw [List.length_map, unhex_len]) (load_blk hb2)) ?_
        intro u47 e47
        refine HL.zero (HO.storeAll sz25 f2 e47 (one_map B8 (fun _ => rfl) _) hb1 (by rw [List.length_map, unhex_len]) rfl ?_)
        intro h3 w3
        refine HL.still (Runs.assign rfl) ?_
        intro u3 e3
        refine HL.nil ?_
        refine HW.ret ?_
        rw [parse_ok (isD_yes hl hp (good_of fun j hj => hG j (by omega)))]
        exact RT.cellTmp rfl f2 e3 w3.new Try.underlying25 rfl sz25 (by rw [List.length_map, unhex_len]) ⟨rfl, hX.wr w3 (Nat.le_refl _)⟩
  · skip
    -- region 2
    repeat refine HW.seq ?_
    refine HW.region ?_
    refine HL.still (Runs.move p0) ?_
    intro u8 e8
    refine HL.still (Runs.lenS rfl Try.underlying9 e8) ?_
    intro u9 e9
    refine HL.still (Runs.neq e9 rfl (t := true) (by simp; omega)) ?_
    intro u10 e10
    refine HL.still (Runs.move e10) ?_
    intro u11 e11
    refine HL.skipG rfl rfl e11 ?_
    intro u12 e12
    refine HL.skipG rfl rfl e11 ?_
    intro u13 e13
    refine HL.skipG rfl rfl e11 ?_
    intro u14 e14
    refine HL.still (Runs.pick e11 rfl) ?_
    intro u15 e15
    refine HL.nil ?_
    repeat refine HW.seq ?_
    refine HW.yes ?_ ?_
    exact e15
    -- region 3
    repeat refine HW.seq ?_
    refine HW.region ?_
    refine HL.still (Runs.loadAgg Try.underlying25 rfl sz25 e4 (by rfl) (load_blk hb2)) ?_
    intro u16 e16
    refine HL.zero (HO.storeAll sz25 e2 e16 (one_map B8 (fun _ => rfl) _) hb1 rfl rfl ?_)
    intro h3 w3
    refine HL.still (Runs.assign rfl) ?_
    intro u3 e3
    refine HL.nil ?_
    refine HW.ret ?_
    rw [parse_bad (isD_len hl)]
    exact RT.cellTmp rfl e2 e3 w3.new Try.underlying25 rfl sz25 rfl ⟨rfl, X2.wr w3 (Nat.le_refl _)⟩
theorem idx_at (h : Heap) (c : UInt8) : CH Try.prog 32 #[.string (strOf hexd), B8 c] h fun v h' => v = I64 (if val c < 16 then (val c : Int) else -1) ∧ h' = h := by
  rw [← idx_hex]
  exact idx_ch h hexd c
set_option maxRecDepth 10000 in
/-- digest.Parse. -/
theorem parse_ch (h : Heap) (s : List UInt8) (hs : s.length < 4611686018427387904) : CH Try.prog 21 #[.string (strOf s)] h fun v h' => v = .tuple #[.agg ((parseD s).1.map B8).toArray, .bool (parseD s).2] ∧ Ext h h' := by
  refine CH.of_body Try.func21 rfl rfl rfl ?_
  intro f hf
  have p0 : f 0 = .string (strOf s) := by rw [hf]; exact fr0_at rfl
  -- region 0
  repeat refine HW.seq ?_
  refine HW.region ?_
  refine HL.one (HO.alloc zr25 ?_)
  intro h1 w1
  intro u2 e2
  refine HL.still (Runs.assign rfl) ?_
  intro u3 e3
  refine HL.nil ?_
  -- region 1
  repeat refine HW.seq ?_
  refine HW.region ?_
  refine HL.one (HO.alloc zr25 ?_)
  intro h2 w2
  intro u4 e4
  refine HL.nil ?_
  have z1 := w1.size
  have z2 := w2.size
  have hb1 : h2[h.size]? = some (.cells (zero32.map B8).toArray 25 (0, 0)) := w2.keep w1.new
  have hb2 : h2[h1.size]? = some (.cells (zero32.map B8).toArray 25 (0, 0)) := w2.new
  have X2 : Ext h h2 := w1.ext.ext w2.ext (Nat.le_refl _)
  have hcp := cutPrefix_ch h2 s pre7
  cases hp : (decide (pre7.length ≤ s.length) && s.take pre7.length == pre7) with
  | false =>
    rw [hp, if_neg (by decide)] at hcp
    have hq : isD s = false := by
      unfold isD
      simp only [Bool.and_eq_false_iff, decide_eq_false_iff_not] at hp
      rcases hp with hp | hp
      · have : s.length ≠ 71 := by simp [pre7] at hp; omega
        simp [this]
      · have : (s.take 7 == pre7) = false := hp
        simp [this]
    -- region 2
    repeat refine HW.seq ?_
    refine HW.region ?_
    refine HL.still (Runs.move p0) ?_
    intro u10 e10
    refine HL.one (HO.call Try.func31 bd31 nm31 (args2 e10 rfl) rfl ((hcp).mono ?_))
    rintro _ h3 ⟨rfl, hh3⟩
    intro u11 e11
    refine HL.still (Runs.move e11) ?_
    intro u9 e9
    refine HL.still (Runs.extr e9 rfl) ?_
    intro u12 e12
    refine HL.still (Runs.extr e9 rfl) ?_
    intro u13 e13
    refine HL.still (Runs.assign e12) ?_
    intro u5 e5
    refine HL.still (Runs.assign e13) ?_
    intro u6 e6
    refine HL.nil ?_
    subst hh3
    -- region 3
    repeat refine HW.seq ?_
    refine HW.region ?_
    refine HL.still (Runs.move e6) ?_
    intro u14 e14
    refine HL.still (Runs.notb e14 (t := false) (u := true) rfl) ?_
    intro u15 e15
    refine HL.still (Runs.move e15) ?_
    intro u16 e16
    refine HL.skipG rfl rfl e16 ?_
    intro u17 e17
    refine HL.skipG rfl rfl e16 ?_
    intro u18 e18
    refine HL.skipG rfl rfl e16 ?_
    intro u19 e19
    refine HL.still (Runs.pick e16 rfl) ?_
    intro u20 e20
    refine HL.nil ?_
    repeat refine HW.seq ?_
    refine HW.yes ?_ ?_
    exact e20
    -- region 4
    repeat refine HW.seq ?_
    refine HW.region ?_
    refine HL.still (Runs.build (v := .agg (zero32.map B8).toArray) (fun w => by kernel_rfl)) ?_
    intro u21 e21
    refine HL.zero (HO.storeAll sz25 e2 e21 (one_map B8 (fun _ => rfl) _) hb1 rfl rfl ?_)
    intro h3 w3
    refine HL.still (Runs.assign rfl) ?_
    intro u3 e3
    refine HL.nil ?_
    refine HW.ret ?_
    rw [parse_bad hq]
    exact RT.cellTmp rfl e2 e3 w3.new Try.underlying25 rfl sz25 rfl ⟨rfl, X2.wr w3 (Nat.le_refl _)⟩
  | true =>
    rw [hp, if_pos rfl, show pre7.length = 7 from rfl] at hcp
    have hpp : 7 ≤ s.length ∧ (s.take 7 == pre7) = true := by
      simp only [Bool.and_eq_true, decide_eq_true_eq] at hp
      exact hp
    have htl : (s.drop 7).length = s.length - 7 := by simp
    obtain ⟨t, ht⟩ : ∃ t, t = s.drop 7 := ⟨_, rfl⟩
    rw [← ht] at hcp htl
    -- region 2
    repeat refine HW.seq ?_
    refine HW.region ?_
    refine HL.still (Runs.move p0) ?_
    intro u10 e10
    refine HL.one (HO.call Try.func31 bd31 nm31 (args2 e10 rfl) rfl ((hcp).mono ?_))
    rintro _ h3 ⟨rfl, hh3⟩
    intro u11 e11
    refine HL.still (Runs.move e11) ?_
    intro u9 e9
    refine HL.still (Runs.extr e9 rfl) ?_
    intro u12 e12
    refine HL.still (Runs.extr e9 rfl) ?_
    intro u13 e13
    refine HL.still (Runs.assign e12) ?_
    intro u5 e5
    refine HL.still (Runs.assign e13) ?_
    intro u6 e6
    refine HL.nil ?_
    subst hh3
    by_cases hl : s.length = 71
    · skip
      -- region 3
      repeat refine HW.seq ?_
      refine HW.region ?_
      refine HL.still (Runs.move e6) ?_
      intro u14 e14
      refine HL.still (Runs.notb e14 (t := true) (u := false) rfl) ?_
      intro u15 e15
      refine HL.still (Runs.move e15) ?_
      intro u16 e16
      refine HL.stillG rfl rfl e16 (Runs.move e5) ?_
      intro u17 e17
      refine HL.stillG rfl rfl e16 (Runs.lenS rfl Try.underlying9 e17) ?_
      intro u18 e18
      refine HL.stillG rfl rfl e16 (Runs.neq e18 rfl (t := false) (by simp; omega)) ?_
      intro u19 e19
      refine HL.still (Runs.pick e16 e19) ?_
      intro u20 e20
      refine HL.nil ?_
      repeat refine HW.seq ?_
      refine HW.no ?_ ?_
      exact e20
      refine HW.skip ?_
      -- region 5
      repeat refine HW.seq ?_
      refine HW.region ?_
      refine HL.still (Runs.move e5) ?_
      intro u22 e22
      refine HL.still (Runs.lenS rfl Try.underlying9 e22) ?_
      intro u23 e23
      refine HL.still (Runs.move rfl) ?_
      intro u24 e24
      refine HL.nil ?_
      repeat refine HW.seq ?_
      refine HW.block ?_
      refine HW.loop (fun m f g => ∃ k : Nat, k ≤ 64 ∧ m = 64 - k ∧ f 24 = I64 k ∧ f 23 = .int .i64 (t.length : Int) ∧ f 5 = .string (strOf t) ∧ f 2 = .pointer (some ⟨h.size, 0, none⟩) ∧ f 4 = .pointer (some ⟨h1.size, 0, none⟩) ∧ (∀ j, j < k → val (t.getD j 0) < 16) ∧
        g[h.size]? = some (.cells (zero32.map B8).toArray 25 (0, 0)) ∧ g[h1.size]? = some (.cells ((dA t k).map B8).toArray 25 (0, 0)) ∧ Ext h g ∧ g.size = h1.size + 1) 64
        ⟨0, Nat.zero_le _, rfl, e24, e23, e5, e2, e4, fun j hj => by omega, hb1, hb2, X2, z2⟩ ?_
      rintro m f g ⟨k, hk, hm, f24, f23, f5, f2, f4, hG, hb1, hb2, hX, hg⟩
      have hol := dA_len t k
      by_cases hlt : k < 64
      · have va := val_le (t.getD k 0)
        have hget : t[k]? = some (t.getD k 0) := by rw [List.getElem?_eq_getElem (by omega)]; simp [show k < t.length by omega]
        -- region 6
        repeat refine HW.seq ?_
        refine HW.region ?_
        refine HL.still (Runs.lss f24 f23 rfl) ?_
        intro u25 e25
        refine HL.nil ?_
        repeat refine HW.seq ?_
        refine HW.yes ?_ ?_
        exact e25.trans (congrArg Value.bool (decide_eq_true (by omega)))
        refine HW.skip ?_
        repeat refine HW.seq ?_
        refine HW.block ?_
        -- region 7
        repeat refine HW.seq ?_
        refine HW.region ?_
        refine HL.still (Runs.move f24) ?_
        intro u26 e26
        refine HL.still (Runs.assign e26) ?_
        intro u7 e7
        refine HL.nil ?_
        -- region 8
        repeat refine HW.seq ?_
        refine HW.region ?_
        refine HL.still (Runs.move f5) ?_
        intro u27 e27
        refine HL.still (Runs.move e7) ?_
        intro u28 e28
        refine HL.still (Runs.ixS Try.underlying9 e27 e28 (j := k) rfl hget) ?_
        intro u29 e29
        refine HL.one (HO.call Try.func32 bd32 nm32 (args2 rfl e29) rfl ((idx_at _ (t.getD k 0)).mono ?_))
        rintro _ _ ⟨rfl, rfl⟩
        intro u30 e30
        refine HL.still (Runs.assign e30) ?_
        intro u8 e8
        refine HL.nil ?_
        by_cases ha : val (t.getD k 0) < 16
        · rw [if_pos ha] at e8
          -- region 9
          repeat refine HW.seq ?_
          refine HW.region ?_
          refine HL.still (Runs.move e8) ?_
          intro u31 e31
          refine HL.still (Runs.lss e31 rfl rfl) ?_
          intro u32 e32
          refine HL.nil ?_
          repeat refine HW.seq ?_
          refine HW.no ?_ ?_
          exact e32.trans (congrArg Value.bool (decide_eq_false (by omega)))
          refine HW.skip ?_
          -- region 11
          repeat refine HW.seq ?_
          refine HW.region ?_
          refine HL.still (Runs.move e7) ?_
          intro u34 e34
          refine HL.still (Runs.quo e34 rfl (by decide) (quo64 (by omega) (by decide))) ?_
          intro u35 e35
          refine HL.still (Runs.move e7) ?_
          intro u36 e36
          refine HL.still (Runs.quo e36 rfl (by decide) (quo64 (by omega) (by decide))) ?_
          intro u37 e37
          refine HL.still (Runs.ixArr (o' := k / 2) Try.underlying25 sz5 f4 e37 (by omega) (by omega) (by omega)) ?_
          intro u38 e38
          refine HL.still (Runs.load Try.underlying5 rfl e38 (cellH_map (j := k / 2) 0 hb2 (by omega))) ?_
          intro u39 e39
          refine HL.still (Runs.shl e39 rfl (by decide) (shl8c _)) ?_
          intro u40 e40
          refine HL.still (Runs.move e8) ?_
          intro u41 e41
          refine HL.still (Runs.conv Try.underlying3 Try.underlying5 e41 (u8w (by omega))) ?_
          intro u42 e42
          refine HL.still (Runs.or e40 e42 (or8c _ _ ha)) ?_
          intro u43 e43
          refine HL.still (Runs.ixArr (o' := k / 2) Try.underlying25 sz5 f4 e35 (by omega) (by omega) (by omega)) ?_
          intro u44 e44
          refine HL.zero (HO.store (s := 1) sz5 e44 e43 rfl hb2 (by rw [List.length_map, hol]; omega) rfl ?_)
          intro h4 w4
          refine HL.nil ?_
          have hb4 := w4.new
          rw [← List.map_set] at hb4
          have z4 := w4.size
          -- region 12
          repeat refine HW.seq ?_
          refine HW.region ?_
          refine HL.still (Runs.add f24 rfl (i64w (by omega))) ?_
          intro u45 e45
          refine HL.still (Runs.move e45) ?_
          intro u24 e24
          refine HL.nil ?_
          refine ⟨64 - (k + 1), by omega, k + 1, by omega, rfl, e24, f23, f5, f2, f4, fun j hj => ?_, w4.keep hb1 (by omega), hb4, hX.wr w4 (by omega), by omega⟩
          by_cases h1 : j < k
          · exact hG j h1
          · rw [show j = k by omega]; exact ha
        · rw [if_neg ha] at e8
          -- region 9
          repeat refine HW.seq ?_
          refine HW.region ?_
          refine HL.still (Runs.move e8) ?_
          intro u31 e31
          refine HL.still (Runs.lss e31 rfl rfl) ?_
          intro u32 e32
          refine HL.nil ?_
          repeat refine HW.seq ?_
          refine HW.yes ?_ ?_
          exact e32.trans (congrArg Value.bool (by decide))
          -- region 10
          repeat refine HW.seq ?_
          refine HW.region ?_
          refine HL.still (Runs.build (v := .agg (zero32.map B8).toArray) (fun w => by kernel_rfl)) ?_
          intro u33 e33
          refine HL.zero (HO.storeAll sz25 f2 e33 (one_map B8 (fun _ => rfl) _) hb1 rfl rfl ?_)
          intro h4 w4
          refine HL.still (Runs.assign rfl) ?_
          intro u3 e3
          refine HL.nil ?_
          refine HW.ret ?_
          rw [parse_bad (isD_good (bad_of (j := k) (by rw [← ht]; omega) (by rw [← ht]; exact ha)))]
          exact RT.cellTmp rfl f2 e3 w4.new Try.underlying25 rfl sz25 rfl ⟨rfl, hX.wr w4 (Nat.le_refl _)⟩
      · have hk64 : k = 64 := by omega
        subst hk64
        -- region 6
        repeat refine HW.seq ?_
        refine HW.region ?_
        refine HL.still (Runs.lss f24 f23 rfl) ?_
        intro u25 e25
        refine HL.nil ?_
        repeat refine HW.seq ?_
        refine HW.no ?_ ?_
        exact e25.trans (congrArg Value.bool (decide_eq_false (by omega)))
        refine HW.exitHere ?_
        rw [dA_unhex, ht] at hb2
        -- region 13
        repeat refine HW.seq ?_
        refine HW.region ?_
        refine HL.still (Runs.loadAgg Try.underlying25 rfl sz25 f4 (by rw [List.length_map, unhex_len]) (load_blk hb2)) ?_
        intro u46 e46
        refine HL.zero (HO.storeAll sz25 f2 e46 (one_map B8 (fun _ => rfl) _) hb1 (by rw [List.length_map, unhex_len]) rfl ?_)
        intro h4 w4
        refine HL.still (Runs.assign rfl) ?_
        intro u3 e3
        refine HL.nil ?_
        refine HW.ret ?_
        rw [parse_ok (isD_yes hl hpp.2 (good_of fun j hj => by rw [← ht] at hj ⊢; exact hG j (by omega)))]
        exact RT.cellTmp rfl f2 e3 w4.new Try.underlying25 rfl sz25 (by rw [List.length_map, unhex_len]) ⟨rfl, hX.wr w4 (Nat.le_refl _)⟩
    · skip
      -- region 3
      repeat refine HW.seq ?_
      refine HW.region ?_
      refine HL.still (Runs.move e6) ?_
      intro u14 e14
      refine HL.still (Runs.notb e14 (t := true) (u := false) rfl) ?_
      intro u15 e15
      refine HL.still (Runs.move e15) ?_
      intro u16 e16
      refine HL.stillG rfl rfl e16 (Runs.move e5) ?_
      intro u17 e17
      refine HL.stillG rfl rfl e16 (Runs.lenS rfl Try.underlying9 e17) ?_
      intro u18 e18
      refine HL.stillG rfl rfl e16 (Runs.neq e18 rfl (t := true) (by simp; omega)) ?_
      intro u19 e19
      refine HL.still (Runs.pick e16 e19) ?_
      intro u20 e20
      refine HL.nil ?_
      repeat refine HW.seq ?_
      refine HW.yes ?_ ?_
      exact e20
      -- region 4
      repeat refine HW.seq ?_
      refine HW.region ?_
      refine HL.still (Runs.build (v := .agg (zero32.map B8).toArray) (fun w => by kernel_rfl)) ?_
      intro u21 e21
      refine HL.zero (HO.storeAll sz25 e2 e21 (one_map B8 (fun _ => rfl) _) hb1 rfl rfl ?_)
      intro h3 w3
      refine HL.still (Runs.assign rfl) ?_
      intro u3 e3
      refine HL.nil ?_
      refine HW.ret ?_
      rw [parse_bad (isD_len hl)]
      exact RT.cellTmp rfl e2 e3 w3.new Try.underlying25 rfl sz25 rfl ⟨rfl, X2.wr w3 (Nat.le_refl _)⟩
end Go.Proofs.Ytbfmkjfpialihaa
