/- The law StoreCopy, walked. -/
import Derived.Test.YtklelhfgbjpifaaSx4
namespace Go.Proofs.Ytklelhfgbjpifaa
set_option linter.unnecessarySimpa false
set_option linter.unusedSimpArgs false
set_option linter.unusedVariables false
open Go.RowKit
set_option maxRecDepth 10000 in
set_option maxHeartbeats 2000000 in
theorem lawCopy_ch (h : Heap) (r : Int) (l : List (Option Addr × Nat × List UInt8)) (a : Option Addr) (cap : Nat) (hB : Byts h a l) (hl : l.length ≤ maxLen) (hz : ∀ x ∈ l, x.2.2.length ≤ 140737488355328) (m : List (Option Addr × Nat × List UInt8)) (am : Option Addr) (capm : Nat) (hBm : Byts h am m) (hlm : m.length ≤ maxLen) (hzm : ∀ x ∈ m, x.2.2.length ≤ 140737488355328) :
    CH Try.prog 6 #[I64 r, .slice a l.length cap, .slice am m.length capm] h fun v h' => v = .bool true ∧ Ext h h' := by
  refine CH.of_body Try.func6 rfl rfl rfl ?_
  intro f hf
  have p0 : f 0 = I64 r := by rw [hf]; exact fr0_at rfl
  have p1 : f 1 = .slice a l.length cap := by rw [hf]; exact fr0_at rfl
  have p2 : f 2 = .slice am m.length capm := by rw [hf]; exact fr0_at rfl
  -- region 0
  repeat refine HW.seq ?_
  refine HW.region ?_
  refine HL.still (Runs.assign rfl) ?_
  intro u6 e6
  refine HL.nil ?_
  -- region 1
  repeat refine HW.seq ?_
  refine HW.region ?_
  refine HL.one (HO.call Try.func14 bd14 nm14 (args0) rfl ((small_ch h).mono ?_))
  rintro _ h1 ⟨rfl, X1⟩
  intro u17 e17
  refine HL.still (Runs.assign e17) ?_
  intro u7 e7
  refine HL.nil ?_
  -- region 2
  repeat refine HW.seq ?_
  refine HW.region ?_
  refine HL.still (Runs.move p1) ?_
  intro u18 e18
  refine HL.one (HO.call Try.func15 bd15 nm15 (args1 e18) rfl ((few_ch h1 l a l.length cap rfl (hB.ext X1) hl hz).mono ?_))
  rintro _ h2 ⟨rfl, hh2⟩
  intro u19 e19
  refine HL.still (Runs.assign e19) ?_
  intro u8 e8
  refine HL.nil ?_
  subst hh2
  -- region 3
  repeat refine HW.seq ?_
  refine HW.region ?_
  refine HL.still (Runs.move p2) ?_
  intro u20 e20
  refine HL.one (HO.call Try.func15 bd15 nm15 (args1 e20) rfl ((few_ch h2 m am m.length capm rfl (hBm.ext X1) hlm hzm).mono ?_))
  rintro _ h2' ⟨rfl, hh2⟩
  intro u21 e21
  refine HL.still (Runs.assign e21) ?_
  intro u9 e9
  refine HL.nil ?_
  subst hh2
  -- region 4
  repeat refine HW.seq ?_
  refine HW.region ?_
  refine HL.still (Runs.move p0) ?_
  intro u22 e22
  refine HL.one (HO.call Try.func16 bd16 nm16 (args1 e22) rfl ((newS_ch h2' r).mono ?_))
  rintro _ h3 ⟨rfl, S3, X3⟩
  intro u23 e23
  refine HL.still (Runs.assign e23) ?_
  intro u10 e10
  refine HL.nil ?_
  have XA : Ext h h3 := X1.ext X3 (Nat.le_refl _)
  have z1 := X1.size
  have g7 : u7 = .bool true := e7
  obtain ⟨s, hs⟩ : ∃ s, s = h2'.size + 1 := ⟨_, rfl⟩
  obtain ⟨b, hb⟩ : ∃ b, b = h2'.size := ⟨_, rfl⟩
  rw [← hb] at S3 hs e10
  rw [← hs] at S3 e10
  obtain ⟨room, hroom⟩ : ∃ room, room = roomO r := ⟨_, rfl⟩
  have hr0 := roomO_0 r
  have hr1 := roomO_top r
  rw [← hroom] at S3 hr0 hr1
  have S3 : Sto (fun _ => True) h3 s b room [] := S3.weaken fun _ _ _ => trivial
  cases hfew : fewO l with
  | false =>
    have g8 : u8 = .bool false := e8.trans (congrArg Value.bool hfew)
    -- region 5
    repeat refine HW.seq ?_
    refine HW.region ?_
    refine HL.still (Runs.move e10) ?_
    intro u24 e24
    refine HL.still (Runs.eqNil Try.underlying25 e24 rfl) ?_
    intro u25 e25
    refine HL.still (Runs.move e25) ?_
    intro u26 e26
    refine HL.stillG rfl rfl e26 (Runs.move g8) ?_
    intro u27 e27
    refine HL.stillG rfl rfl e26 (Runs.notb e27 (t := false) (u := true) rfl) ?_
    intro u28 e28
    refine HL.still (Runs.pick e26 e28) ?_
    intro u29 e29
    refine HL.still (Runs.move e29) ?_
    intro u30 e30
    refine HL.skipG rfl rfl e30 ?_
    intro u31 e31
    refine HL.skipG rfl rfl e30 ?_
    intro u32 e32
    refine HL.still (Runs.pick e30 rfl) ?_
    intro u33 e33
    refine HL.nil ?_
    refine HW.yes e33 ?_
    -- region 6
    repeat refine HW.seq ?_
    refine HW.region ?_
    refine HL.still (Runs.move g7) ?_
    intro u34 e34
    refine HL.still (Runs.move e34) ?_
    intro u35 e35
    refine HL.stillG rfl rfl e35 (Runs.move e10) ?_
    intro u36 e36
    refine HL.stillG rfl rfl e35 (Runs.neqNil Try.underlying25 e36 rfl) ?_
    intro u37 e37
    refine HL.still (Runs.pick e35 e37) ?_
    intro u38 e38
    refine HL.still (Runs.assign e38) ?_
    intro u6 e6
    refine HL.nil ?_
    refine HW.ret ?_
    exact RT.one rfl e6 ⟨rfl, XA⟩
  | true =>
  cases hfm : fewO m with
  | false =>
    have g8 : u8 = .bool true := e8.trans (congrArg Value.bool hfew)
    have g9 : u9 = .bool false := e9.trans (congrArg Value.bool hfm)
    -- region 5
    repeat refine HW.seq ?_
    refine HW.region ?_
    refine HL.still (Runs.move e10) ?_
    intro u24 e24
    refine HL.still (Runs.eqNil Try.underlying25 e24 rfl) ?_
    intro u25 e25
    refine HL.still (Runs.move e25) ?_
    intro u26 e26
    refine HL.stillG rfl rfl e26 (Runs.move g8) ?_
    intro u27 e27
    refine HL.stillG rfl rfl e26 (Runs.notb e27 (t := true) (u := false) rfl) ?_
    intro u28 e28
    refine HL.still (Runs.pick e26 e28) ?_
    intro u29 e29
    refine HL.still (Runs.move e29) ?_
    intro u30 e30
    refine HL.stillG rfl rfl e30 (Runs.move g9) ?_
    intro u31 e31
    refine HL.stillG rfl rfl e30 (Runs.notb e31 (t := false) (u := true) rfl) ?_
    intro u32 e32
    refine HL.still (Runs.pick e30 e32) ?_
    intro u33 e33
    refine HL.nil ?_
    refine HW.yes e33 ?_
    -- region 6
    repeat refine HW.seq ?_
    refine HW.region ?_
    refine HL.still (Runs.move g7) ?_
    intro u34 e34
    refine HL.still (Runs.move e34) ?_
    intro u35 e35
    refine HL.stillG rfl rfl e35 (Runs.move e10) ?_
    intro u36 e36
    refine HL.stillG rfl rfl e35 (Runs.neqNil Try.underlying25 e36 rfl) ?_
    intro u37 e37
    refine HL.still (Runs.pick e35 e37) ?_
    intro u38 e38
    refine HL.still (Runs.assign e38) ?_
    intro u6 e6
    refine HL.nil ?_
    refine HW.ret ?_
    exact RT.one rfl e6 ⟨rfl, XA⟩
  | true =>
    obtain ⟨h40, h2000⟩ := few_of hfew
    obtain ⟨m40, m2000⟩ := few_of hfm
    have g8 : u8 = .bool true := e8.trans (congrArg Value.bool hfew)
    have g9 : u9 = .bool true := e9.trans (congrArg Value.bool hfm)
    -- region 5
    repeat refine HW.seq ?_
    refine HW.region ?_
    refine HL.still (Runs.move e10) ?_
    intro u24 e24
    refine HL.still (Runs.eqNil Try.underlying25 e24 rfl) ?_
    intro u25 e25
    refine HL.still (Runs.move e25) ?_
    intro u26 e26
    refine HL.stillG rfl rfl e26 (Runs.move g8) ?_
    intro u27 e27
    refine HL.stillG rfl rfl e26 (Runs.notb e27 (t := true) (u := false) rfl) ?_
    intro u28 e28
    refine HL.still (Runs.pick e26 e28) ?_
    intro u29 e29
    refine HL.still (Runs.move e29) ?_
    intro u30 e30
    refine HL.stillG rfl rfl e30 (Runs.move g9) ?_
    intro u31 e31
    refine HL.stillG rfl rfl e30 (Runs.notb e31 (t := true) (u := false) rfl) ?_
    intro u32 e32
    refine HL.still (Runs.pick e30 e32) ?_
    intro u33 e33
    refine HL.nil ?_
    refine HW.no e33 ?_
    refine HW.skip ?_
    -- region 7
    repeat refine HW.seq ?_
    refine HW.region ?_
    refine HL.still (Runs.assign rfl) ?_
    intro u11 e11
    refine HL.nil ?_
    repeat refine HW.seq ?_
    refine HW.block ?_
    refine HW.loop (fun n f u => ∃ k : Nat, k ≤ l.length ∧ n = l.length - k ∧ f 11 = I64 k ∧ f 1 = .slice a l.length cap ∧ f 2 = .slice am m.length capm ∧ f 7 = .bool true ∧ f 10 = .pointer (some ⟨s, 0, none⟩) ∧ Ext h u ∧ ∃ M, Sto (fun _ => True) u s b room M ∧ Good room M k) l.length
      ⟨0, Nat.zero_le _, rfl, e11, p1, p2, g7, e10, XA, [], S3, Good.nil hr0⟩ ?_
    clear e6 e7 e8 e9 e10 e11 g7 g8 g9
    rintro n f u ⟨k, hk, hn, f11, f1, f2, f7, f10, hX, M, hS, hG⟩
    by_cases hlt : k < l.length
    · obtain ⟨sb, so, hsa, b1, c1, xs, hx, hcell, hby, hle⟩ := (hB.ext hX).at hlt
      have hxl := lens_mem hx
      subst hsa
      -- region 8
      repeat refine HW.seq ?_
      refine HW.region ?_
      refine HL.still (Runs.move f11) ?_
      intro u39 e39
      refine HL.still (Runs.move f1) ?_
      intro u40 e40
      refine HL.still (Runs.lenSl rfl Try.underlying22 e40) ?_
      intro u41 e41
      refine HL.still (Runs.lss e39 e41 rfl) ?_
      intro u42 e42
      refine HL.nil ?_
      repeat refine HW.seq ?_
      refine HW.yes ?_ ?_
      exact e42.trans (congrArg Value.bool (decide_eq_true (by omega)))
      refine HW.skip ?_
      repeat refine HW.seq ?_
      refine HW.block ?_
      -- region 10
      repeat refine HW.seq ?_
      refine HW.region ?_
      refine HL.still (Runs.move f10) ?_
      intro u45 e45
      refine HL.still (Runs.move f1) ?_
      intro u46 e46
      refine HL.still (Runs.move f11) ?_
      intro u47 e47
      refine HL.still (Runs.ixSl (o' := so + k) Try.underlying22 sz29 e46 e47 (by omega) (by omega) (by omega)) ?_
      intro u48 e48
      refine HL.still (Runs.load Try.underlying29 rfl e48 hcell) ?_
      intro u49 e49
      refine HL.one (HO.call Try.func18 bd18 nm18 (args2 e45 e49) rfl ((putS_ch u s b room M xs b1 c1 hS hby hle (by omega) hr1 hr0 hG.fits).mono ?_))
      rintro _ h9 ⟨rfl, S9, X9⟩
      intro u50 e50
      refine HL.nil ?_
      -- region 9
      repeat refine HW.seq ?_
      refine HW.region ?_
      refine HL.still (Runs.move f11) ?_
      intro u43 e43
      refine HL.still (Runs.add e43 rfl (i64w (by omega))) ?_
      intro u44 e44
      refine HL.still (Runs.assign e44) ?_
      intro u11 e11
      refine HL.nil ?_
      exact ⟨l.length - (k + 1), by omega, k + 1, by omega, rfl, e11, f1, f2, f7, f10, hX.ex2 X9 (Nat.le_refl _) (by omega) (by omega), _, S9.weaken fun _ _ _ => trivial, hG.put xs⟩
    · have hkl : k = l.length := by omega
      subst hkl
      have hMl := hG.len
      have zu := hX.size
      have slu := hS.lt
      -- region 8
      repeat refine HW.seq ?_
      refine HW.region ?_
      refine HL.still (Runs.move f11) ?_
      intro u39 e39
      refine HL.still (Runs.move f1) ?_
      intro u40 e40
      refine HL.still (Runs.lenSl rfl Try.underlying22 e40) ?_
      intro u41 e41
      refine HL.still (Runs.lss e39 e41 rfl) ?_
      intro u42 e42
      refine HL.nil ?_
      repeat refine HW.seq ?_
      refine HW.no ?_ ?_
      exact e42.trans (congrArg Value.bool (decide_eq_false (by omega)))
      refine HW.exitHere ?_
      clear hn
      -- region 11
      repeat refine HW.seq ?_
      refine HW.region ?_
      refine HL.still (Runs.move f10) ?_
      intro u51 e51
      refine HL.one (HO.call Try.func32 bd32 nm32 (args1 e51) rfl ((copyS_ch u s b room M hS).mono ?_))
      rintro _ ha ⟨s', b', rfl, hs', hb', Xa, Ca⟩
      intro u52 e52
      refine HL.still (Runs.assign e52) ?_
      intro u12 e12
      refine HL.nil ?_
      have za := Xa.size
      have Sa : Sto (fun j => j ≠ s' ∧ j ≠ b') ha s b room M := (hS.weaken fun j hj _ => ⟨by omega, by omega⟩).ext Xa
      have hbu : b < u.size := by
        obtain ⟨E, _, _, q, _⟩ := hS
        exact q.lt
      have Ca : Sto (fun j => j ≠ s ∧ j ≠ b) ha s' b' room M := Ca.weaken fun j hj q => (by
        rcases q with q | q
        · exact q.2
        · exact ⟨by omega, by omega⟩)
      have hs'l := Ca.lt
      have hb'l : b' < ha.size := by
        obtain ⟨E, _, _, q, _⟩ := Ca
        exact q.lt
      -- region 12
      repeat refine HW.seq ?_
      refine HW.region ?_
      refine HL.still (Runs.move e12) ?_
      intro u53 e53
      refine HL.still (Runs.eqNil Try.underlying25 e53 rfl) ?_
      intro u54 e54
      refine HL.still (Runs.move e54) ?_
      intro u55 e55
      refine HL.stillG rfl rfl e55 (Runs.move e12) ?_
      intro u56 e56
      refine HL.oneG rfl rfl e55 (HO.call Try.func26 bd26 nm26 (args1 e56) rfl ((usedX_ch ha s' b' room M (tot M) Ca rfl).mono ?_))
      rintro _ hb1 ⟨rfl, Xb1⟩
      intro u57 e57
      refine HL.stillG rfl rfl e55 (Runs.move f10) ?_
      intro u58 e58
      refine HL.oneG rfl rfl e55 (HO.call Try.func26 bd26 nm26 (args1 e58) rfl ((usedX_ch hb1 s b room M (tot M) (Sa.ext Xb1) rfl).mono ?_))
      rintro _ hb2 ⟨rfl, Xb2⟩
      intro u59 e59
      refine HL.stillG rfl rfl e55 (Runs.neq e57 e59 (t := false) (by simp)) ?_
      intro u60 e60
      refine HL.still (Runs.pick e55 e60) ?_
      intro u61 e61
      refine HL.still (Runs.move e61) ?_
      intro u62 e62
      refine HL.stillG rfl rfl e62 (Runs.move e12) ?_
      intro u63 e63
      refine HL.oneG rfl rfl e62 (HO.call Try.func28 bd28 nm28 (args1 e63) rfl ((roomX_ch hb2 s' b' room M ((Ca.ext Xb1).ext Xb2)).mono ?_))
      rintro _ hb3 ⟨rfl, Xb3⟩
      intro u64 e64
      refine HL.stillG rfl rfl e62 (Runs.move f10) ?_
      intro u65 e65
      refine HL.oneG rfl rfl e62 (HO.call Try.func28 bd28 nm28 (args1 e65) rfl ((roomX_ch hb3 s b room M (((Sa.ext Xb1).ext Xb2).ext Xb3)).mono ?_))
      rintro _ hb4 ⟨rfl, Xb4⟩
      intro u66 e66
      refine HL.stillG rfl rfl e62 (Runs.neq e64 e66 (t := false) (by simp)) ?_
      intro u67 e67
      refine HL.still (Runs.pick e62 e67) ?_
      intro u68 e68
      refine HL.nil ?_
      have Xb : Ext ha hb4 := ((Xb1.ext Xb2 (Nat.le_refl _)).ext Xb3 (Nat.le_refl _)).ext Xb4 (Nat.le_refl _)
      refine HW.no e68 ?_
      refine HW.skip ?_
      have Sb := Sa.ext Xb
      have zb := Xb.size
      -- region 14
      repeat refine HW.seq ?_
      refine HW.region ?_
      refine HL.still (Runs.move f10) ?_
      intro u69 e69
      refine HL.one (HO.call Try.func29 bd29 nm29 (args1 e69) rfl ((keysS_ch hb4 s b room M Sb (by omega)).mono ?_))
      rintro _ hc ⟨ka, kc, ks, rfl, D, kp, kq, Xc⟩
      intro u70 e70
      refine HL.still (Runs.assign e70) ?_
      intro u13 e13
      refine HL.nil ?_
      have hksl : ks.length = M.length := by rw [kp.length_eq, List.length_map]
      have hri := keys_rise hG kp kq
      have zc := Xc.size
      have Sc := Sb.ext Xc
      have Cc := (Ca.ext Xb).ext Xc
      have hXc : Ext h hc := ((hX.ext Xa (Nat.le_refl _)).ext Xb (Nat.le_refl _)).ext Xc (Nat.le_refl _)
      -- region 15
      repeat refine HW.seq ?_
      refine HW.region ?_
      refine HL.still (Runs.assign rfl) ?_
      intro u14 e14
      refine HL.nil ?_
      repeat refine HW.seq ?_
      refine HW.block ?_
      refine HW.loop (fun n f v => ∃ k : Nat, k ≤ m.length ∧ n = m.length - k ∧ f 14 = I64 k ∧ f 2 = .slice am m.length capm ∧ f 7 = .bool true ∧ f 10 = .pointer (some ⟨s, 0, none⟩) ∧ f 12 = .pointer (some ⟨s', 0, none⟩) ∧ f 13 = .slice ka ks.length kc ∧ Ex2 s' b' hc v ∧ ∃ Mc, Sto (fun j => j ≠ s ∧ j ≠ b) v s' b' room Mc ∧ Good room Mc (l.length + k)) m.length
        ⟨0, Nat.zero_le _, rfl, e14, f2, f7, f10, e12, e13, .of_ext (Bel.refl _ _), M, Cc, hG⟩ ?_
      clear e12 e13 e14 f2 f7 f10 f1 f11
      rintro n f v ⟨k, hk, hn, f14, f2, f7, f10, f12, f13, hXv, Mc, hC, hGc⟩
      have hXh : Ext h v := hXc.ex2 hXv (Nat.le_refl _) (by omega) (by omega)
      have zv := hXv.size
      by_cases hlt : k < m.length
      · obtain ⟨sb, so, hsa, b1, c1, xs, hx, hcell, hby, hle⟩ := (hBm.ext hXh).at hlt
        have hxl := lens_mem hx
        subst hsa
        -- region 16
        repeat refine HW.seq ?_
        refine HW.region ?_
        refine HL.still (Runs.move f14) ?_
        intro u71 e71
        refine HL.still (Runs.move f2) ?_
        intro u72 e72
        refine HL.still (Runs.lenSl rfl Try.underlying22 e72) ?_
        intro u73 e73
        refine HL.still (Runs.lss e71 e73 rfl) ?_
        intro u74 e74
        refine HL.nil ?_
        repeat refine HW.seq ?_
        refine HW.yes ?_ ?_
        exact e74.trans (congrArg Value.bool (decide_eq_true (by omega)))
        refine HW.skip ?_
        repeat refine HW.seq ?_
        refine HW.block ?_
        by_cases hpar : ((k : Int) % 2 == 0) = true
        · skip
          -- region 18
          repeat refine HW.seq ?_
          refine HW.region ?_
          refine HL.still (Runs.move f14) ?_
          intro u77 e77
          refine HL.still (Runs.rem e77 rfl (by decide) (rem64 (by omega) (by decide))) ?_
          intro u78 e78
          refine HL.still (Runs.eql e78 rfl (t := true) hpar) ?_
          intro u79 e79
          refine HL.nil ?_
          refine HW.yes e79 ?_
          -- region 19
          repeat refine HW.seq ?_
          refine HW.region ?_
          refine HL.still (Runs.move f12) ?_
          intro u80 e80
          refine HL.still (Runs.move f2) ?_
          intro u81 e81
          refine HL.still (Runs.move f14) ?_
          intro u82 e82
          refine HL.still (Runs.ixSl (o' := so + k) Try.underlying22 sz29 e81 e82 (by omega) (by omega) (by omega)) ?_
          intro u83 e83
          refine HL.still (Runs.load Try.underlying29 rfl e83 hcell) ?_
          intro u84 e84
          refine HL.one (HO.call Try.func18 bd18 nm18 (args2 e80 e84) rfl ((putS_ch v s' b' room Mc xs b1 c1 hC hby hle (by omega) hr1 hr0 hGc.fits).mono ?_))
          rintro _ h9 ⟨rfl, S9, X9⟩
          intro u85 e85
          refine HL.nil ?_
          -- region 17
          repeat refine HW.seq ?_
          refine HW.region ?_
          refine HL.still (Runs.move f14) ?_
          intro u75 e75
          refine HL.still (Runs.add e75 rfl (i64w (by omega))) ?_
          intro u76 e76
          refine HL.still (Runs.assign e76) ?_
          intro u14 e14
          refine HL.nil ?_
          exact ⟨m.length - (k + 1), by omega, k + 1, by omega, rfl, e14, f2, f7, f10, f12, f13, hXv.trans X9, _, S9.weaken fun j hj q => (by
            rcases q with q | q
            · exact q
            · exact ⟨by omega, by omega⟩), hGc.put xs⟩
        · skip
          -- region 18
          repeat refine HW.seq ?_
          refine HW.region ?_
          refine HL.still (Runs.move f14) ?_
          intro u77 e77
          refine HL.still (Runs.rem e77 rfl (by decide) (rem64 (by omega) (by decide))) ?_
          intro u78 e78
          refine HL.still (Runs.eql e78 rfl (t := false) (by simpa using hpar)) ?_
          intro u79 e79
          refine HL.nil ?_
          refine HW.no e79 ?_
          refine HW.skip ?_
          -- region 17
          repeat refine HW.seq ?_
          refine HW.region ?_
          refine HL.still (Runs.move f14) ?_
          intro u75 e75
          refine HL.still (Runs.add e75 rfl (i64w (by omega))) ?_
          intro u76 e76
          refine HL.still (Runs.assign e76) ?_
          intro u14 e14
          refine HL.nil ?_
          exact ⟨m.length - (k + 1), by omega, k + 1, by omega, rfl, e14, f2, f7, f10, f12, f13, hXv, _, hC, hGc.more (by omega)⟩
      · have hkl : k = m.length := by omega
        subst hkl
        have hMcl := hGc.len
        clear hn
        have Sv := Sc.keep zv fun j hj q => hXv.old j hj q.1 q.2
        have Dv : Dgs v ka ks := by
          refine D.dgs.keep fun sb so e => ?_
          rcases D.blk with ⟨q, _⟩ | ⟨g, q, q1, q2⟩
          · rw [q] at e; cases e
          · rw [q] at e
            cases e
            exact hXv.old _ q2 (by omega) (by omega)
        -- region 16
        repeat refine HW.seq ?_
        refine HW.region ?_
        refine HL.still (Runs.move f14) ?_
        intro u71 e71
        refine HL.still (Runs.move f2) ?_
        intro u72 e72
        refine HL.still (Runs.lenSl rfl Try.underlying22 e72) ?_
        intro u73 e73
        refine HL.still (Runs.lss e71 e73 rfl) ?_
        intro u74 e74
        refine HL.nil ?_
        repeat refine HW.seq ?_
        refine HW.no ?_ ?_
        exact e74.trans (congrArg Value.bool (decide_eq_false (by omega)))
        refine HW.exitHere ?_
        -- region 20
        repeat refine HW.seq ?_
        refine HW.region ?_
        refine HL.still (Runs.move f13) ?_
        intro u86 e86
        refine HL.still (Runs.move f10) ?_
        intro u87 e87
        refine HL.one (HO.call Try.func29 bd29 nm29 (args1 e87) rfl ((keysS_ch v s b room M Sv (by omega)).mono ?_))
        rintro _ hd ⟨ka2, kc2, ks2, rfl, D2, kp2, kq2, Xd⟩
        intro u88 e88
        refine HL.one (HO.call Try.func30 bd30 nm30 (args2 e86 e88) rfl ((keys_ch hd ks ks2 ka ka2 _ _ kc kc2 rfl rfl (Dv.ext Xd) D2.dgs (by omega) (by rw [kp2.length_eq, List.length_map]; omega)).mono ?_))
        rintro _ he ⟨rfl, hhe⟩
        intro u89 e89
        refine HL.still (Runs.notb (t := true) (u := false) (e89.trans (congrArg Value.bool (by rw [rises_unique hri (keys_rise hG kp2 kq2) (kp.trans kp2.symm)]; simp))) rfl) ?_
        intro u90 e90
        refine HL.nil ?_
        subst hhe
        refine HW.no e90 ?_
        refine HW.skip ?_
        have Cd := hC.ext Xd
        have Sd := Sv.ext Xd
        have zd := Xd.size
        -- region 22
        repeat refine HW.seq ?_
        refine HW.region ?_
        refine HL.still (Runs.move f12) ?_
        intro u91 e91
        refine HL.one (HO.call Try.func29 bd29 nm29 (args1 e91) rfl ((keysS_ch he s' b' room Mc Cd (by omega)).mono ?_))
        rintro _ hg ⟨na, nc, ns, rfl, Dn, np, nq, Xg⟩
        intro u92 e92
        refine HL.still (Runs.assign e92) ?_
        intro u15 e15
        refine HL.nil ?_
        have hnsl : ns.length = Mc.length := by rw [np.length_eq, List.length_map]
        have hrin := keys_rise hGc np nq
        have zg := Xg.size
        have Cg := Cd.ext Xg
        have Sg := Sd.ext Xg
        have hXg : Ext h hg := (hXh.ext Xd (Nat.le_refl _)).ext Xg (Nat.le_refl _)
        -- region 23
        repeat refine HW.seq ?_
        refine HW.region ?_
        refine HL.still (Runs.assign rfl) ?_
        intro u16 e16
        refine HL.nil ?_
        repeat refine HW.seq ?_
        refine HW.block ?_
        refine HW.loop (fun n f w => ∃ k : Nat, k ≤ m.length ∧ n = m.length - k ∧ f 16 = I64 k ∧ f 2 = .slice am m.length capm ∧ f 7 = .bool true ∧ f 10 = .pointer (some ⟨s, 0, none⟩) ∧ f 12 = .pointer (some ⟨s', 0, none⟩) ∧ f 15 = .slice na ns.length nc ∧ Ex2 s b hg w ∧ ∃ Ms, Sto (fun j => j ≠ s' ∧ j ≠ b') w s b room Ms ∧ Good room Ms (l.length + k)) m.length
          ⟨0, Nat.zero_le _, rfl, e16, f2, f7, f10, f12, e15, .of_ext (Bel.refl _ _), M, Sg, hG⟩ ?_
        clear e15 e16 f2 f7 f10 f12 f13 f14
        rintro n f w ⟨k, hk, hn, f16, f2, f7, f10, f12, f15, hXw, Ms, hSs, hGs⟩
        have hXh' : Ext h w := hXg.ex2 hXw (Nat.le_refl _) (by omega) (by omega)
        have zw := hXw.size
        by_cases hlt : k < m.length
        · obtain ⟨sb, so, hsa, b1, c1, xs, hx, hcell, hby, hle⟩ := (hBm.ext hXh').at hlt
          have hxl := lens_mem hx
          subst hsa
          -- region 24
          repeat refine HW.seq ?_
          refine HW.region ?_
          refine HL.still (Runs.move f16) ?_
          intro u93 e93
          refine HL.still (Runs.move f2) ?_
          intro u94 e94
          refine HL.still (Runs.lenSl rfl Try.underlying22 e94) ?_
          intro u95 e95
          refine HL.still (Runs.lss e93 e95 rfl) ?_
          intro u96 e96
          refine HL.nil ?_
          repeat refine HW.seq ?_
          refine HW.yes ?_ ?_
          exact e96.trans (congrArg Value.bool (decide_eq_true (by omega)))
          refine HW.skip ?_
          repeat refine HW.seq ?_
          refine HW.block ?_
          -- region 26
          repeat refine HW.seq ?_
          refine HW.region ?_
          refine HL.still (Runs.move f10) ?_
          intro u99 e99
          refine HL.still (Runs.move f2) ?_
          intro u100 e100
          refine HL.still (Runs.move f16) ?_
          intro u101 e101
          refine HL.still (Runs.ixSl (o' := so + k) Try.underlying22 sz29 e100 e101 (by omega) (by omega) (by omega)) ?_
          intro u102 e102
          refine HL.still (Runs.load Try.underlying29 rfl e102 hcell) ?_
          intro u103 e103
          refine HL.one (HO.call Try.func18 bd18 nm18 (args2 e99 e103) rfl ((putS_ch w s b room Ms xs b1 c1 hSs hby hle (by omega) hr1 hr0 hGs.fits).mono ?_))
          rintro _ h9 ⟨rfl, S9, X9⟩
          intro u104 e104
          refine HL.nil ?_
          -- region 25
          repeat refine HW.seq ?_
          refine HW.region ?_
          refine HL.still (Runs.move f16) ?_
          intro u97 e97
          refine HL.still (Runs.add e97 rfl (i64w (by omega))) ?_
          intro u98 e98
          refine HL.still (Runs.assign e98) ?_
          intro u16 e16
          refine HL.nil ?_
          exact ⟨m.length - (k + 1), by omega, k + 1, by omega, rfl, e16, f2, f7, f10, f12, f15, hXw.trans X9, _, S9.weaken fun j hj q => (by
            rcases q with q | q
            · exact q
            · exact ⟨by omega, by omega⟩), hGs.put xs⟩
        · skip
          have Cw := Cg.keep zw fun j hj q => hXw.old j hj q.1 q.2
          have Dw : Dgs w na ns := by
            refine Dn.dgs.keep fun sb so e => ?_
            rcases Dn.blk with ⟨q, _⟩ | ⟨g, q, q1, q2⟩
            · rw [q] at e; cases e
            · rw [q] at e
              cases e
              exact hXw.old _ q2 (by omega) (by omega)
          -- region 24
          repeat refine HW.seq ?_
          refine HW.region ?_
          refine HL.still (Runs.move f16) ?_
          intro u93 e93
          refine HL.still (Runs.move f2) ?_
          intro u94 e94
          refine HL.still (Runs.lenSl rfl Try.underlying22 e94) ?_
          intro u95 e95
          refine HL.still (Runs.lss e93 e95 rfl) ?_
          intro u96 e96
          refine HL.nil ?_
          repeat refine HW.seq ?_
          refine HW.no ?_ ?_
          exact e96.trans (congrArg Value.bool (decide_eq_false (by omega)))
          refine HW.exitHere ?_
          -- region 27
          repeat refine HW.seq ?_
          refine HW.region ?_
          refine HL.still (Runs.move f7) ?_
          intro u105 e105
          refine HL.still (Runs.move e105) ?_
          intro u106 e106
          refine HL.stillG rfl rfl e106 (Runs.move f15) ?_
          intro u107 e107
          refine HL.stillG rfl rfl e106 (Runs.move f12) ?_
          intro u108 e108
          refine HL.oneG rfl rfl e106 (HO.call Try.func29 bd29 nm29 (args1 e108) rfl ((keysS_ch w s' b' room Mc Cw (by omega)).mono ?_))
          rintro _ hi ⟨na2, nc2, ns2, rfl, Dn2, np2, nq2, Xi⟩
          intro u109 e109
          refine HL.oneG rfl rfl e106 (HO.call Try.func30 bd30 nm30 (args2 e107 e109) rfl ((keys_ch hi ns ns2 na na2 _ _ nc nc2 rfl rfl (Dw.ext Xi) Dn2.dgs (by omega) (by rw [np2.length_eq, List.length_map]; omega)).mono ?_))
          rintro _ hj ⟨rfl, hhj⟩
          intro u110 e110
          refine HL.still (Runs.pick e106 e110) ?_
          intro u111 e111
          refine HL.still (Runs.assign e111) ?_
          intro u6 e6
          refine HL.nil ?_
          subst hhj
          refine HW.ret ?_
          exact RT.one rfl e6 ⟨by rw [rises_unique hrin (keys_rise hGc np2 nq2) (np.trans np2.symm)]; simp, hXh'.ext Xi (Nat.le_refl _)⟩
end Go.Proofs.Ytklelhfgbjpifaa
