/- onionskinlaw01.ShaLong returns true. -/
import Derived.Test.YtbfmkjfpialihaaWh
namespace Go.Proofs.Ytbfmkjfpialihaa
set_option linter.unnecessarySimpa false
set_option linter.unusedSimpArgs false
set_option linter.unusedVariables false
open Go.RowKit
theorem lawLong_ch (h : Heap) (n : Int) (c : UInt8) : CH Try.prog 5 #[.int .i64 n, B8 c] h fun v h' => v = .bool true ∧ Ext h h' := by
  refine CH.of_body Try.func5 rfl rfl rfl ?_
  intro f hf
  have p0 : f 0 = .int .i64 n := by rw [hf]; exact fr0_at rfl
  have p1 : f 1 = B8 c := by rw [hf]; exact fr0_at rfl
  -- region 0
  repeat refine HW.seq ?_
  refine HW.region ?_
  refine HL.still (Runs.assign rfl) ?_
  intro u4 e4
  refine HL.nil ?_
  -- region 1
  repeat refine HW.seq ?_
  refine HW.region ?_
  refine HL.one (HO.call Try.func13 bd13 nm13 (args0) rfl ((small_ch _).mono ?_))
  rintro _ h1 ⟨rfl, E1⟩
  intro u8 e8
  refine HL.still (Runs.assign e8) ?_
  intro u5 e5
  refine HL.nil ?_
  by_cases hneg : n < 0
  · skip
    -- region 2
    repeat refine HW.seq ?_
    refine HW.region ?_
    refine HL.still (Runs.move p0) ?_
    intro u9 e9
    refine HL.still (Runs.lss e9 rfl (t := true) (decide_eq_true hneg)) ?_
    intro u10 e10
    refine HL.still (Runs.move e10) ?_
    intro u11 e11
    refine HL.skipG rfl rfl e11 ?_
    intro u12 e12
    refine HL.skipG rfl rfl e11 ?_
    intro u13 e13
    refine HL.still (Runs.pick e11 rfl) ?_
    intro u14 e14
    refine HL.nil ?_
    repeat refine HW.seq ?_
    refine HW.yes ?_ ?_
    exact e14
    -- region 3
    repeat refine HW.seq ?_
    refine HW.region ?_
    refine HL.still (Runs.move e5) ?_
    intro u15 e15
    refine HL.still (Runs.assign e15) ?_
    intro u4 e4
    refine HL.nil ?_
    refine HW.ret ?_
    exact RT.one rfl e4 ⟨rfl, E1⟩
  · by_cases hbig : n > 700
    · skip
      -- region 2
      repeat refine HW.seq ?_
      refine HW.region ?_
      refine HL.still (Runs.move p0) ?_
      intro u9 e9
      refine HL.still (Runs.lss e9 rfl (t := false) (decide_eq_false hneg)) ?_
      intro u10 e10
      refine HL.still (Runs.move e10) ?_
      intro u11 e11
      refine HL.stillG rfl rfl e11 (Runs.move p0) ?_
      intro u12 e12
      refine HL.stillG rfl rfl e11 (Runs.gtr e12 rfl (t := true) (decide_eq_true hbig)) ?_
      intro u13 e13
      refine HL.still (Runs.pick e11 e13) ?_
      intro u14 e14
      refine HL.nil ?_
      repeat refine HW.seq ?_
      refine HW.yes ?_ ?_
      exact e14
      -- region 3
      repeat refine HW.seq ?_
      refine HW.region ?_
      refine HL.still (Runs.move e5) ?_
      intro u15 e15
      refine HL.still (Runs.assign e15) ?_
      intro u4 e4
      refine HL.nil ?_
      refine HW.ret ?_
      exact RT.one rfl e4 ⟨rfl, E1⟩
    · skip
      -- region 2
      repeat refine HW.seq ?_
      refine HW.region ?_
      refine HL.still (Runs.move p0) ?_
      intro u9 e9
      refine HL.still (Runs.lss e9 rfl (t := false) (decide_eq_false hneg)) ?_
      intro u10 e10
      refine HL.still (Runs.move e10) ?_
      intro u11 e11
      refine HL.stillG rfl rfl e11 (Runs.move p0) ?_
      intro u12 e12
      refine HL.stillG rfl rfl e11 (Runs.gtr e12 rfl (t := false) (decide_eq_false hbig)) ?_
      intro u13 e13
      refine HL.still (Runs.pick e11 e13) ?_
      intro u14 e14
      refine HL.nil ?_
      repeat refine HW.seq ?_
      refine HW.no ?_ ?_
      exact e14
      refine HW.skip ?_
      obtain ⟨m, rfl⟩ : ∃ m : Nat, n = (m : Int) := ⟨n.toNat, by omega⟩
      -- region 4
      repeat refine HW.seq ?_
      refine HW.region ?_
      refine HL.still (Runs.move p0) ?_
      intro u16 e16
      refine HL.one (HO.makeB Try.underlying22 in5 e16 e16 (by omega) ?_)
      intro h2 w2
      intro u17 e17
      refine HL.still (Runs.assign e17) ?_
      intro u6 e6
      refine HL.nil ?_
      have z1 := E1.size
      have z2 := w2.size
      -- region 5
      repeat refine HW.seq ?_
      refine HW.region ?_
      refine HL.still (Runs.assign rfl) ?_
      intro u7 e7
      refine HL.nil ?_
      repeat refine HW.seq ?_
      refine HW.block ?_
      refine HW.loop (fun k f g => ∃ i : Nat, i ≤ m ∧ k = m - i ∧ f 7 = I64 i ∧ f 0 = .int .i64 (m : Int) ∧ f 1 = B8 c ∧ f 5 = .bool true ∧ f 6 = .slice (some ⟨h1.size, 0, none⟩) m m ∧
        g[h1.size]? = some (.cells (((List.range i).map (fun _ => c) ++ List.replicate (m - i) 0).map B8).toArray 5 (0, 0)) ∧ Bel h.size h g ∧ g.size = h2.size) m
        ⟨0, Nat.zero_le _, rfl, e7, p0, p1, e5, e6, w2.new, E1.ext w2.ext (Nat.le_refl _), rfl⟩ ?_
      rintro k f g ⟨i, hi, hk, f7, f0, f1, f5, f6, hb, hB, hg⟩
      have hbl : ((List.range i).map (fun _ => c) ++ List.replicate (m - i) (0 : UInt8)).length = m := by simp; omega
      by_cases hlt : i < m
      · skip
        -- region 6
        repeat refine HW.seq ?_
        refine HW.region ?_
        refine HL.still (Runs.move f7) ?_
        intro u18 e18
        refine HL.still (Runs.move f0) ?_
        intro u19 e19
        refine HL.still (Runs.lss e18 e19 rfl) ?_
        intro u20 e20
        refine HL.nil ?_
        repeat refine HW.seq ?_
        refine HW.yes ?_ ?_
        exact e20.trans (congrArg Value.bool (decide_eq_true (by omega)))
        refine HW.skip ?_
        repeat refine HW.seq ?_
        refine HW.block ?_
        -- region 8
        repeat refine HW.seq ?_
        refine HW.region ?_
        refine HL.still (Runs.move f6) ?_
        intro u23 e23
        refine HL.still (Runs.move f7) ?_
        intro u24 e24
        refine HL.still (Runs.move f1) ?_
        intro u25 e25
        refine HL.still (Runs.ixSl (o' := i) Try.underlying22 sz5 e23 e24 (by omega) (by omega) (by omega)) ?_
        intro u26 e26
        refine HL.zero (HO.store (s := 1) sz5 e26 e25 rfl hb (by rw [List.length_map, hbl]; omega) rfl ?_)
        intro h3 w3
        refine HL.nil ?_
        have hb3 := w3.new
        rw [← List.map_set, fill_step (fun _ => c) m i 0 hlt] at hb3
        have z3 := w3.size
        -- region 7
        repeat refine HW.seq ?_
        refine HW.region ?_
        refine HL.still (Runs.move f7) ?_
        intro u21 e21
        refine HL.still (Runs.add e21 rfl (i64w (by omega))) ?_
        intro u22 e22
        refine HL.still (Runs.assign e22) ?_
        intro u7 e7
        refine HL.nil ?_
        exact ⟨m - (i + 1), by omega, i + 1, by omega, rfl, e7, f0, f1, f5, f6, hb3, hB.wr w3 (by omega), by omega⟩
      · have him : i = m := by omega
        subst him
        -- region 6
        repeat refine HW.seq ?_
        refine HW.region ?_
        refine HL.still (Runs.move f7) ?_
        intro u18 e18
        refine HL.still (Runs.move f0) ?_
        intro u19 e19
        refine HL.still (Runs.lss e18 e19 rfl) ?_
        intro u20 e20
        refine HL.nil ?_
        repeat refine HW.seq ?_
        refine HW.no ?_ ?_
        exact e20.trans (congrArg Value.bool (decide_eq_false (by omega)))
        refine HW.exitHere ?_
        obtain ⟨xs, hxs⟩ : ∃ xs, xs = (List.range i).map (fun _ => c) ++ List.replicate (i - i) (0 : UInt8) := ⟨_, rfl⟩
        rw [← hxs] at hb hbl
        rw [← hbl] at f6
        -- region 9
        repeat refine HW.seq ?_
        refine HW.region ?_
        refine HL.still (Runs.move f5) ?_
        intro u27 e27
        refine HL.still (Runs.move e27) ?_
        intro u28 e28
        refine HL.stillG rfl rfl e28 (Runs.move f6) ?_
        intro u29 e29
        refine HL.oneG rfl rfl e28 (HO.call Try.func14 bd14 nm14 (args1 e29) rfl ((sum_ch g xs _ xs.length (byt_block hb) (Nat.le_refl _) (by omega)).mono ?_))
        rintro _ h4 ⟨rfl, E4⟩
        intro u30 e30
        refine HL.stillG rfl rfl e28 (Runs.move f6) ?_
        intro u31 e31
        refine HL.oneG rfl rfl e28 (HO.call Try.func15 bd15 nm15 (args1 e31) rfl ((rsum_ch h4 xs _ xs.length ((byt_block hb).ext E4) (by omega)).mono ?_))
        rintro _ h5 ⟨rfl, E5⟩
        intro u32 e32
        refine HL.stillG rfl rfl e28 (Runs.eqBytes Try.underlying25 Try.underlying5 sz5 eg25 e30 e32 (t := true) (SHA_len _) (SHA_len _) (beq_self_eq_true _)) ?_
        intro u33 e33
        refine HL.still (Runs.pick e28 e33) ?_
        intro u34 e34
        refine HL.still (Runs.assign e34) ?_
        intro u4 e4
        refine HL.nil ?_
        refine HW.ret ?_
        exact RT.one rfl e4 ⟨rfl, (hB.ext E4 (Nat.le_refl _)).ext E5 (Nat.le_refl _)⟩
end Go.Proofs.Ytbfmkjfpialihaa
