/- The law StoreOrder, walked. -/
import Derived.Test.YtklelhfgbjpifaaSx4
namespace Go.Proofs.Ytklelhfgbjpifaa
set_option linter.unnecessarySimpa false
set_option linter.unusedSimpArgs false
set_option linter.unusedVariables false
open Go.RowKit
set_option maxRecDepth 10000 in
set_option maxHeartbeats 1000000 in
theorem lawOrder_ch (h : Heap) (l : List (Option Addr × Nat × List UInt8)) (a : Option Addr) (cap : Nat) (hB : Byts h a l) (hl : l.length ≤ maxLen) (hz : ∀ x ∈ l, x.2.2.length ≤ 140737488355328) :
    CH Try.prog 8 #[.slice a l.length cap] h fun v h' => v = .bool true ∧ Ext h h' := by
  refine CH.of_body Try.func8 rfl rfl rfl ?_
  intro f hf
  have p0 : f 0 = .slice a l.length cap := by rw [hf]; exact fr0_at rfl
  -- region 0
  repeat refine HW.seq ?_
  refine HW.region ?_
  refine HL.still (Runs.assign rfl) ?_
  intro u2 e2
  refine HL.nil ?_
  -- region 1
  repeat refine HW.seq ?_
  refine HW.region ?_
  refine HL.one (HO.call Try.func14 bd14 nm14 (args0) rfl ((small_ch h).mono ?_))
  rintro _ h1 ⟨rfl, X1⟩
  intro u9 e9
  refine HL.still (Runs.assign e9) ?_
  intro u3 e3
  refine HL.nil ?_
  -- region 2
  repeat refine HW.seq ?_
  refine HW.region ?_
  refine HL.still (Runs.move p0) ?_
  intro u10 e10
  refine HL.one (HO.call Try.func15 bd15 nm15 (args1 e10) rfl ((few_ch h1 l a l.length cap rfl (hB.ext X1) hl hz).mono ?_))
  rintro _ h2 ⟨rfl, rfl⟩
  intro u11 e11
  refine HL.still (Runs.assign e11) ?_
  intro u4 e4
  refine HL.nil ?_
  -- region 3
  repeat refine HW.seq ?_
  refine HW.region ?_
  refine HL.one (HO.call Try.func16 bd16 nm16 (args1 rfl) rfl ((newS_ch h2 1048576).mono ?_))
  rintro _ h3 ⟨rfl, S3, X3⟩
  intro u12 e12
  refine HL.still (Runs.assign e12) ?_
  intro u5 e5
  refine HL.nil ?_
  have XA : Ext h h3 := X1.ext X3 (Nat.le_refl _)
  have z1 := X1.size
  have g3 : u3 = .bool true := e3
  obtain ⟨s, hs⟩ : ∃ s, s = h2.size + 1 := ⟨_, rfl⟩
  obtain ⟨b, hb⟩ : ∃ b, b = h2.size := ⟨_, rfl⟩
  rw [← hb] at S3 hs e5
  rw [← hs] at S3 e5
  have S3 : Sto (fun _ => True) h3 s b 1048576 [] := S3.weaken fun _ _ _ => trivial
  cases hfew : fewO l with
  | false =>
    have g4 : u4 = .bool false := e4.trans (congrArg Value.bool hfew)
    -- region 4
    repeat refine HW.seq ?_
    refine HW.region ?_
    refine HL.still (Runs.move e5) ?_
    intro u13 e13
    refine HL.still (Runs.eqNil Try.underlying25 e13 rfl) ?_
    intro u14 e14
    refine HL.still (Runs.move e14) ?_
    intro u15 e15
    refine HL.stillG rfl rfl e15 (Runs.move g4) ?_
    intro u16 e16
    refine HL.stillG rfl rfl e15 (Runs.notb e16 (t := false) (u := true) rfl) ?_
    intro u17 e17
    refine HL.still (Runs.pick e15 e17) ?_
    intro u18 e18
    refine HL.nil ?_
    refine HW.yes e18 ?_
    -- region 5
    repeat refine HW.seq ?_
    refine HW.region ?_
    refine HL.still (Runs.move g3) ?_
    intro u19 e19
    refine HL.still (Runs.move e19) ?_
    intro u20 e20
    refine HL.stillG rfl rfl e20 (Runs.move e5) ?_
    intro u21 e21
    refine HL.stillG rfl rfl e20 (Runs.neqNil Try.underlying25 e21 rfl) ?_
    intro u22 e22
    refine HL.still (Runs.pick e20 e22) ?_
    intro u23 e23
    refine HL.still (Runs.assign e23) ?_
    intro u2 e2
    refine HL.nil ?_
    refine HW.ret ?_
    exact RT.one rfl e2 ⟨rfl, XA⟩
  | true =>
    obtain ⟨h40, h2000⟩ := few_of hfew
    have g4 : u4 = .bool true := e4.trans (congrArg Value.bool hfew)
    -- region 4
    repeat refine HW.seq ?_
    refine HW.region ?_
    refine HL.still (Runs.move e5) ?_
    intro u13 e13
    refine HL.still (Runs.eqNil Try.underlying25 e13 rfl) ?_
    intro u14 e14
    refine HL.still (Runs.move e14) ?_
    intro u15 e15
    refine HL.stillG rfl rfl e15 (Runs.move g4) ?_
    intro u16 e16
    refine HL.stillG rfl rfl e15 (Runs.notb e16 (t := true) (u := false) rfl) ?_
    intro u17 e17
    refine HL.still (Runs.pick e15 e17) ?_
    intro u18 e18
    refine HL.nil ?_
    refine HW.no e18 ?_
    refine HW.skip ?_
    -- region 6
    repeat refine HW.seq ?_
    refine HW.region ?_
    refine HL.still (Runs.assign rfl) ?_
    intro u6 e6
    refine HL.nil ?_
    repeat refine HW.seq ?_
    refine HW.block ?_
    refine HW.loop (fun m f u => ∃ k : Nat, k ≤ l.length ∧ m = l.length - k ∧ f 6 = I64 k ∧ f 0 = .slice a l.length cap ∧ f 3 = .bool true ∧ f 5 = .pointer (some ⟨s, 0, none⟩) ∧ Ext h u ∧ ∃ M, Sto (fun _ => True) u s b 1048576 M ∧ Good 1048576 M k) l.length
      ⟨0, Nat.zero_le _, rfl, e6, p0, g3, e5, XA, [], S3, Good.nil (by decide)⟩ ?_
    clear e3 e4 e5 e6 g3 g4
    rintro m f u ⟨k, hk, hm, f6, f0, f3, f5, hX, M, hS, hG⟩
    by_cases hlt : k < l.length
    · obtain ⟨sb, so, rfl, b1, c1, xs, hx, hcell, hby, hle⟩ := (hB.ext hX).at hlt
      have hxl := lens_mem hx
      -- region 7
      repeat refine HW.seq ?_
      refine HW.region ?_
      refine HL.still (Runs.move f6) ?_
      intro u24 e24
      refine HL.still (Runs.move f0) ?_
      intro u25 e25
      refine HL.still (Runs.lenSl rfl Try.underlying22 e25) ?_
      intro u26 e26
      refine HL.still (Runs.lss e24 e26 rfl) ?_
      intro u27 e27
      refine HL.nil ?_
      repeat refine HW.seq ?_
      refine HW.yes ?_ ?_
      exact e27.trans (congrArg Value.bool (decide_eq_true (by omega)))
      refine HW.skip ?_
      repeat refine HW.seq ?_
      refine HW.block ?_
      -- region 9
      repeat refine HW.seq ?_
      refine HW.region ?_
      refine HL.still (Runs.move f5) ?_
      intro u30 e30
      refine HL.still (Runs.move f0) ?_
      intro u31 e31
      refine HL.still (Runs.move f6) ?_
      intro u32 e32
      refine HL.still (Runs.ixSl (o' := so + k) Try.underlying22 sz29 e31 e32 (by omega) (by omega) (by omega)) ?_
      intro u33 e33
      refine HL.still (Runs.load Try.underlying29 rfl e33 hcell) ?_
      intro u34 e34
      refine HL.one (HO.call Try.func18 bd18 nm18 (args2 e30 e34) rfl ((putS_ch u s b 1048576 M xs b1 c1 hS hby hle (by omega) (by decide) (by decide) hG.fits).mono ?_))
      rintro _ h9 ⟨rfl, S9, X9⟩
      intro u35 e35
      refine HL.nil ?_
      -- region 8
      repeat refine HW.seq ?_
      refine HW.region ?_
      refine HL.still (Runs.move f6) ?_
      intro u28 e28
      refine HL.still (Runs.add e28 rfl (i64w (by omega))) ?_
      intro u29 e29
      refine HL.still (Runs.assign e29) ?_
      intro u6 e6
      refine HL.nil ?_
      exact ⟨l.length - (k + 1), by omega, k + 1, by omega, rfl, e6, f0, f3, f5, hX.ex2 X9 (Nat.le_refl _) (by omega) (by omega), _, S9.weaken fun _ _ _ => trivial, hG.put xs⟩
    · have hkl : k = l.length := by omega
      subst hkl
      -- region 7
      repeat refine HW.seq ?_
      refine HW.region ?_
      refine HL.still (Runs.move f6) ?_
      intro u24 e24
      refine HL.still (Runs.move f0) ?_
      intro u25 e25
      refine HL.still (Runs.lenSl rfl Try.underlying22 e25) ?_
      intro u26 e26
      refine HL.still (Runs.lss e24 e26 rfl) ?_
      intro u27 e27
      refine HL.nil ?_
      repeat refine HW.seq ?_
      refine HW.no ?_ ?_
      exact e27.trans (congrArg Value.bool (decide_eq_false (by omega)))
      refine HW.exitHere ?_
      have hMl := hG.len
      -- region 10
      repeat refine HW.seq ?_
      refine HW.region ?_
      refine HL.still (Runs.move f5) ?_
      intro u36 e36
      refine HL.one (HO.call Try.func29 bd29 nm29 (args1 e36) rfl ((keysS_ch u s b 1048576 M hS (by omega)).mono ?_))
      rintro _ h10 ⟨ka, kc, ks, rfl, D, kp, kq, X10⟩
      intro u37 e37
      refine HL.still (Runs.assign e37) ?_
      intro u7 e7
      refine HL.nil ?_
      have hks : ks.length = M.length := by rw [kp.length_eq, List.length_map]
      have hri := keys_rise hG kp kq
      have hX10 : Ext h h10 := hX.ext X10 (Nat.le_refl _)
      -- region 11
      repeat refine HW.seq ?_
      refine HW.region ?_
      refine HL.still (Runs.assign rfl) ?_
      intro u8 e8
      refine HL.nil ?_
      repeat refine HW.seq ?_
      refine HW.block ?_
      refine HW.loop (fun m f v => ∃ k : Nat, 1 ≤ k ∧ m = ks.length - k ∧ f 8 = I64 k ∧ k ≤ ks.length + 1 ∧ f 0 = .slice a l.length cap ∧ f 3 = .bool true ∧ f 7 = .slice ka ks.length kc ∧ Ext h10 v) _
        ⟨1, Nat.le_refl _, rfl, e8, by omega, f0, f3, e7, Bel.refl _ _⟩ ?_
      clear e7 e8 f0 f3
      rintro m f v ⟨k, hk1, hm, f8, hkk, f0, f3, f7, hXv⟩
      by_cases hlt : k < ks.length
      · obtain ⟨sb, so, rfl, hc⟩ := (D.dgs.ext hXv).at (show k < ks.length from hlt)
        have hc' : ∀ i v', (encD (ks.getD (k - 1) zD))[i]? = some v' → cellH v sb (so + (k - 1) * 32 + i) = some v' := by
          obtain ⟨sb', so', q, hq⟩ := (D.dgs.ext hXv).at (show k - 1 < ks.length by omega)
          cases q
          exact hq
        have hless := rises_at hri (show k - 1 < k by omega) hlt
        -- region 12
        repeat refine HW.seq ?_
        refine HW.region ?_
        refine HL.still (Runs.move f8) ?_
        intro u38 e38
        refine HL.still (Runs.move f7) ?_
        intro u39 e39
        refine HL.still (Runs.lenSl rfl Try.underlying41 e39) ?_
        intro u40 e40
        refine HL.still (Runs.lss e38 e40 rfl) ?_
        intro u41 e41
        refine HL.nil ?_
        repeat refine HW.seq ?_
        refine HW.yes ?_ ?_
        exact e41.trans (congrArg Value.bool (decide_eq_true (by omega)))
        refine HW.skip ?_
        repeat refine HW.seq ?_
        refine HW.block ?_
        -- region 14
        repeat refine HW.seq ?_
        refine HW.grow #[0, 0, 2, 7, 15, 0, 0, 96, 224, 511, 1023] (fun a b => Ext a b) mixed (by kernel_rfl) (fun _ => Bel.refl _ _) (fun _ _ _ x y => Bel.ext x y (Nat.le_refl _)) ?_
        refine HM.still (fun _ => Bel.refl _ _) (fun f h K => Runs.move ((K.keep (by kernel_rfl)).trans f7)) ?_
        refine HM.still (fun _ => Bel.refl _ _) (fun f h K => Runs.move ((K.keep (by kernel_rfl)).trans f8)) ?_
        refine HM.still (fun _ => Bel.refl _ _) (fun f h K => Runs.sub (K.at 1 45 rfl rfl) rfl (c := ((k - 1 : Nat) : Int)) (by rw [i64w (by omega)]; omega)) ?_
        refine HM.still (fun _ => Bel.refl _ _) (fun f h K => Runs.ixSl (o' := so + (k - 1) * 32) Try.underlying41 sz31 (K.at 0 44 rfl rfl) (K.at 2 46 rfl rfl) (by omega) (by omega) (by omega)) ?_
        refine HM.still (fun _ => Bel.refl _ _) (fun f h K => Runs.loadAgg Try.underlying31 rfl sz31 (K.at 3 47 rfl rfl) (encD_len (ks.getD (k - 1) zD)) (fun i v' hv => by rw [cellH_keep (Bel.old K.grown sb (lt_of_cellH (hc' i v' hv)))]; exact hc' i v' hv)) ?_
        refine HM.still (fun _ => Bel.refl _ _) (fun f h K => Runs.move ((K.keep (by kernel_rfl)).trans f7)) ?_
        refine HM.still (fun _ => Bel.refl _ _) (fun f h K => Runs.move ((K.keep (by kernel_rfl)).trans f8)) ?_
        refine HM.still (fun _ => Bel.refl _ _) (fun f h K => Runs.ixSl (o' := so + k * 32) Try.underlying41 sz31 (K.at 5 49 rfl rfl) (K.at 6 50 rfl rfl) (by omega) (by omega) (by omega)) ?_
        refine HM.still (fun _ => Bel.refl _ _) (fun f h K => Runs.loadAgg Try.underlying31 rfl sz31 (K.at 7 51 rfl rfl) (encD_len (ks.getD k zD)) (fun i v' hv => by rw [cellH_keep (Bel.old K.grown sb (lt_of_cellH (hc i v' hv)))]; exact hc i v' hv)) ?_
        refine HM.one (fun x _ => x = _) (fun _ _ _ _ e => e) (fun f h K => HO.call Try.func33 bd33 nm33 (args2 (K.at 4 48 rfl rfl) (K.at 8 52 rfl rfl)) rfl ((less_ch h (ks.getD (k - 1) zD).1 (ks.getD k zD).1 (ks.getD (k - 1) zD).2 (ks.getD k zD).2).mono fun _ _ q => ⟨q.2, q.1⟩)) ?_
        refine HM.still (v := .bool false) (fun _ => Bel.refl _ _) (fun f h K => Runs.notb (t := true) ((show f 53 = .bool (lessL (ks.getD (k - 1) zD).1 (ks.getD k zD).1) from K.at 9 53 rfl rfl).trans (congrArg Value.bool hless)) rfl) ?_
        intro f' h' hR2 V O
        have q0 := (last_keep O (s := 0) (by kernel_rfl)).trans f0
        have q3 := (last_keep O (s := 3) (by kernel_rfl)).trans f3
        have q7 := (last_keep O (s := 7) (by kernel_rfl)).trans f7
        have q8 := (last_keep O (s := 8) (by kernel_rfl)).trans f8
        have g54 : f' 54 = .bool false := last_at V 10 54 rfl
        refine HW.no g54 ?_
        refine HW.skip ?_
        -- region 13
        repeat refine HW.seq ?_
        refine HW.region ?_
        refine HL.still (Runs.move q8) ?_
        intro u42 e42
        refine HL.still (Runs.add e42 rfl (i64w (by omega))) ?_
        intro u43 e43
        refine HL.still (Runs.assign e43) ?_
        intro u8 e8
        refine HL.nil ?_
        exact ⟨ks.length - (k + 1), by omega, k + 1, by omega, rfl, e8, by omega, q0, q3, q7, hXv.ext hR2 (Nat.le_refl _)⟩
      · skip
        -- region 12
        repeat refine HW.seq ?_
        refine HW.region ?_
        refine HL.still (Runs.move f8) ?_
        intro u38 e38
        refine HL.still (Runs.move f7) ?_
        intro u39 e39
        refine HL.still (Runs.lenSl rfl Try.underlying41 e39) ?_
        intro u40 e40
        refine HL.still (Runs.lss e38 e40 rfl) ?_
        intro u41 e41
        refine HL.nil ?_
        repeat refine HW.seq ?_
        refine HW.no ?_ ?_
        exact e41.trans (congrArg Value.bool (decide_eq_false (by omega)))
        refine HW.exitHere ?_
        -- region 16
        repeat refine HW.seq ?_
        refine HW.region ?_
        refine HL.still (Runs.move f3) ?_
        intro u55 e55
        refine HL.still (Runs.move e55) ?_
        intro u56 e56
        refine HL.stillG rfl rfl e56 (Runs.move f7) ?_
        intro u57 e57
        refine HL.stillG rfl rfl e56 (Runs.lenSl rfl Try.underlying41 e57) ?_
        intro u58 e58
        refine HL.stillG rfl rfl e56 (Runs.move f0) ?_
        intro u59 e59
        refine HL.stillG rfl rfl e56 (Runs.lenSl rfl Try.underlying22 e59) ?_
        intro u60 e60
        refine HL.stillG rfl rfl e56 (Runs.leq e58 e60 (t := true) (decide_eq_true (by omega))) ?_
        intro u61 e61
        refine HL.still (Runs.pick e56 e61) ?_
        intro u62 e62
        refine HL.still (Runs.assign e62) ?_
        intro u2 e2
        refine HL.nil ?_
        refine HW.ret ?_
        exact RT.one rfl e2 ⟨rfl, hX10.ext hXv (Nat.le_refl _)⟩
end Go.Proofs.Ytklelhfgbjpifaa
