/- The law StoreTwice, walked. -/
import Derived.Test.YtklelhfgbjpifaaSx4
namespace Go.Proofs.Ytklelhfgbjpifaa
set_option linter.unnecessarySimpa false
set_option linter.unusedSimpArgs false
set_option linter.unusedVariables false
open Go.RowKit
theorem put_twice (room : Int) (M : Blobs) (xs : List UInt8) {M' : Blobs} {d : Dg} {e : Int} (hp : putO room M xs = (M', d, e)) : putO room M' xs = (M', d, e) := by
  unfold putO at hp
  by_cases h1 : (lookM M (shaD xs)).isSome = true
  · rw [if_pos h1] at hp
    cases hp
    unfold putO
    rw [if_pos h1]
  · rw [if_neg h1] at hp
    by_cases h2 : (xs.length : Int) > room - tot M
    · rw [if_pos h2] at hp
      cases hp
      unfold putO
      rw [if_neg h1, if_pos h2]
    · rw [if_neg h2] at hp
      cases hp
      unfold putO
      rw [if_pos]
      rw [lookM_isSome, List.map_append]
      simp
set_option maxRecDepth 10000 in
set_option maxHeartbeats 1000000 in
theorem lawTwice_ch (h : Heap) (r : Int) (l : List (Option Addr × Nat × List UInt8)) (a : Option Addr) (cap : Nat) (hB : Byts h a l) (hl : l.length ≤ maxLen) (hz : ∀ x ∈ l, x.2.2.length ≤ 140737488355328) :
    CH Try.prog 7 #[I64 r, .slice a l.length cap] h fun v h' => v = .bool true ∧ Ext h h' := by
  refine CH.of_body Try.func7 rfl rfl rfl ?_
  intro f hf
  have p0 : f 0 = I64 r := by rw [hf]; exact fr0_at rfl
  have p1 : f 1 = .slice a l.length cap := by rw [hf]; exact fr0_at rfl
  -- region 0
  repeat refine HW.seq ?_
  refine HW.region ?_
  refine HL.still (Runs.assign rfl) ?_
  intro u4 e4
  refine HL.nil ?_
  -- region 1
  repeat refine HW.seq ?_
  refine HW.region ?_
  refine HL.one (HO.call Try.func14 bd14 nm14 (args0) rfl ((small_ch h).mono ?_))
  rintro _ h1 ⟨rfl, X1⟩
  intro u15 e15
  refine HL.still (Runs.assign e15) ?_
  intro u5 e5
  refine HL.nil ?_
  -- region 2
  repeat refine HW.seq ?_
  refine HW.region ?_
  refine HL.still (Runs.move p1) ?_
  intro u16 e16
  refine HL.one (HO.call Try.func15 bd15 nm15 (args1 e16) rfl ((few_ch h1 l a l.length cap rfl (hB.ext X1) hl hz).mono ?_))
  rintro _ h2 ⟨rfl, rfl⟩
  intro u17 e17
  refine HL.still (Runs.assign e17) ?_
  intro u6 e6
  refine HL.nil ?_
  -- region 3
  repeat refine HW.seq ?_
  refine HW.region ?_
  refine HL.still (Runs.move p0) ?_
  intro u18 e18
  refine HL.one (HO.call Try.func16 bd16 nm16 (args1 e18) rfl ((newS_ch h2 r).mono ?_))
  rintro _ h3 ⟨rfl, S3, X3⟩
  intro u19 e19
  refine HL.still (Runs.assign e19) ?_
  intro u7 e7
  refine HL.nil ?_
  have XA : Ext h h3 := X1.ext X3 (Nat.le_refl _)
  have z1 := X1.size
  have g5 : u5 = .bool true := e5
  obtain ⟨s, hs⟩ : ∃ s, s = h2.size + 1 := ⟨_, rfl⟩
  obtain ⟨b, hb⟩ : ∃ b, b = h2.size := ⟨_, rfl⟩
  rw [← hb] at S3 hs e7
  rw [← hs] at S3 e7
  obtain ⟨room, hroom⟩ : ∃ room, room = roomO r := ⟨_, rfl⟩
  have hr0 := roomO_0 r
  have hr1 := roomO_top r
  rw [← hroom] at S3 hr0 hr1
  have S3 : Sto (fun _ => True) h3 s b room [] := S3.weaken fun _ _ _ => trivial
  cases hfew : fewO l with
  | false =>
    have g6 : u6 = .bool false := e6.trans (congrArg Value.bool hfew)
    -- region 4
    repeat refine HW.seq ?_
    refine HW.region ?_
    refine HL.still (Runs.move e7) ?_
    intro u20 e20
    refine HL.still (Runs.eqNil Try.underlying25 e20 rfl) ?_
    intro u21 e21
    refine HL.still (Runs.move e21) ?_
    intro u22 e22
    refine HL.stillG rfl rfl e22 (Runs.move g6) ?_
    intro u23 e23
    refine HL.stillG rfl rfl e22 (Runs.notb e23 (t := false) (u := true) rfl) ?_
    intro u24 e24
    refine HL.still (Runs.pick e22 e24) ?_
    intro u25 e25
    refine HL.nil ?_
    refine HW.yes e25 ?_
    -- region 5
    repeat refine HW.seq ?_
    refine HW.region ?_
    refine HL.still (Runs.move g5) ?_
    intro u26 e26
    refine HL.still (Runs.move e26) ?_
    intro u27 e27
    refine HL.stillG rfl rfl e27 (Runs.move e7) ?_
    intro u28 e28
    refine HL.stillG rfl rfl e27 (Runs.neqNil Try.underlying25 e28 rfl) ?_
    intro u29 e29
    refine HL.still (Runs.pick e27 e29) ?_
    intro u30 e30
    refine HL.still (Runs.assign e30) ?_
    intro u4 e4
    refine HL.nil ?_
    refine HW.ret ?_
    exact RT.one rfl e4 ⟨rfl, XA⟩
  | true =>
    obtain ⟨h40, h2000⟩ := few_of hfew
    have g6 : u6 = .bool true := e6.trans (congrArg Value.bool hfew)
    -- region 4
    repeat refine HW.seq ?_
    refine HW.region ?_
    refine HL.still (Runs.move e7) ?_
    intro u20 e20
    refine HL.still (Runs.eqNil Try.underlying25 e20 rfl) ?_
    intro u21 e21
    refine HL.still (Runs.move e21) ?_
    intro u22 e22
    refine HL.stillG rfl rfl e22 (Runs.move g6) ?_
    intro u23 e23
    refine HL.stillG rfl rfl e22 (Runs.notb e23 (t := true) (u := false) rfl) ?_
    intro u24 e24
    refine HL.still (Runs.pick e22 e24) ?_
    intro u25 e25
    refine HL.nil ?_
    refine HW.no e25 ?_
    refine HW.skip ?_
    -- region 6
    repeat refine HW.seq ?_
    refine HW.region ?_
    refine HL.still (Runs.assign rfl) ?_
    intro u8 e8
    refine HL.nil ?_
    repeat refine HW.seq ?_
    refine HW.block ?_
    refine HW.loop (fun m f u => ∃ k : Nat, k ≤ l.length ∧ m = l.length - k ∧ f 8 = I64 k ∧ f 1 = .slice a l.length cap ∧ f 5 = .bool true ∧ f 7 = .pointer (some ⟨s, 0, none⟩) ∧ Ext h u ∧ ∃ M, Sto (fun _ => True) u s b room M ∧ Good room M k) l.length
      ⟨0, Nat.zero_le _, rfl, e8, p1, g5, e7, XA, [], S3, Good.nil hr0⟩ ?_
    clear e4 e5 e6 e7 e8 g5 g6
    rintro m f u ⟨k, hk, hm, f8, f1, f5, f7, hX, M, hS, hG⟩
    by_cases hlt : k < l.length
    · obtain ⟨sb, so, hsa, b1, c1, xs, hx, hcell, hby, hle⟩ := (hB.ext hX).at hlt
      have hxl := lens_mem hx
      obtain ⟨M', d, e, hp⟩ : ∃ M' d e, putO room M xs = (M', d, e) := ⟨_, _, _, rfl⟩
      have hG' : Good room M' (k + 1) := by have := hG.put xs; rw [hp] at this; exact this
      have hMl := hG'.len
      have hu := hX.size
      subst hsa
      -- region 7
      repeat refine HW.seq ?_
      refine HW.region ?_
      refine HL.still (Runs.move f8) ?_
      intro u31 e31
      refine HL.still (Runs.move f1) ?_
      intro u32 e32
      refine HL.still (Runs.lenSl rfl Try.underlying22 e32) ?_
      intro u33 e33
      refine HL.still (Runs.lss e31 e33 rfl) ?_
      intro u34 e34
      refine HL.nil ?_
      repeat refine HW.seq ?_
      refine HW.yes ?_ ?_
      exact e34.trans (congrArg Value.bool (decide_eq_true (by omega)))
      refine HW.skip ?_
      repeat refine HW.seq ?_
      refine HW.block ?_
      -- region 9
      repeat refine HW.seq ?_
      refine HW.region ?_
      refine HL.still (Runs.move f7) ?_
      intro u38 e38
      refine HL.still (Runs.move f1) ?_
      intro u39 e39
      refine HL.still (Runs.move f8) ?_
      intro u40 e40
      refine HL.still (Runs.ixSl (o' := so + k) Try.underlying22 sz29 e39 e40 (by omega) (by omega) (by omega)) ?_
      intro u41 e41
      refine HL.still (Runs.load Try.underlying29 rfl e41 hcell) ?_
      intro u42 e42
      refine HL.one (HO.call Try.func18 bd18 nm18 (args2 e38 e42) rfl ((putX_ch u s b room M M' xs d e b1 c1 hp hS hby hle (by omega) hr1 hr0 hG.fits).mono ?_))
      rintro _ h9 ⟨rfl, S9, X9⟩
      intro u43 e43
      refine HL.still (Runs.move e43) ?_
      intro u37 e37
      refine HL.still (Runs.extr e37 rfl) ?_
      intro u44 e44
      refine HL.still (Runs.extr e37 rfl) ?_
      intro u45 e45
      refine HL.one (HO.alloc zr31 ?_)
      intro ha wa
      intro u9 e9
      refine HL.zero (HO.storeAll sz31 e9 e44 (encD_one d) wa.new (encD_len _) (by simp) ?_)
      intro hc wc
      refine HL.still (Runs.assign e45) ?_
      intro u10 e10
      refine HL.nil ?_
      have x9 := X9.size
      have sl := S9.lt
      have XB : Ext h9 hc := wa.ext.wr wc (Nat.le_refl _)
      have S10 : Sto (fun _ => True) hc s b room M' := (S9.ext XB).weaken fun _ _ _ => trivial
      have kd : hc[h9.size]? = some (.cells (encD d).toArray 31 (0, 0)) := wc.new
      have hXc : Ext h hc := (hX.ex2 X9 (Nat.le_refl _) (by omega) (by omega)).ext XB (Nat.le_refl _)
      have d9 : u9 = .pointer (some ⟨h9.size, 0, none⟩) := e9
      have d10 : u10 = I64 e := e10
      -- region 10
      repeat refine HW.seq ?_
      refine HW.region ?_
      refine HL.still (Runs.move f7) ?_
      intro u46 e46
      refine HL.one (HO.call Try.func26 bd26 nm26 (args1 e46) rfl ((usedX_ch hc s b room M' (tot M') S10 rfl).mono ?_))
      rintro _ hd ⟨rfl, Xd⟩
      intro u47 e47
      refine HL.still (Runs.assign e47) ?_
      intro u11 e11
      refine HL.nil ?_
      have S11 := S10.ext Xd
      -- region 11
      repeat refine HW.seq ?_
      refine HW.region ?_
      refine HL.still (Runs.move f7) ?_
      intro u48 e48
      refine HL.one (HO.call Try.func29 bd29 nm29 (args1 e48) rfl ((keysS_ch hd s b room M' S11 (by omega)).mono ?_))
      rintro _ he ⟨ka, kc, ks, rfl, D, kp, kq, Xe⟩
      intro u49 e49
      refine HL.still (Runs.assign e49) ?_
      intro u12 e12
      refine HL.nil ?_
      have S12 := S11.ext Xe
      have hXe : Ext h he := (hXc.ext Xd (Nat.le_refl _)).ext Xe (Nat.le_refl _)
      obtain ⟨sb', so', hsa', b1', c1', xs', hx', hcell', hby', hle'⟩ := (hB.ext hXe).at hlt
      rw [hx] at hx'
      cases hx'
      cases hsa'
      have kd2 := Xe.keepE (Xd.keepE kd)
      have xd := Xd.size
      have xe := Xe.size
      have xB := XB.size
      -- region 12
      repeat refine HW.seq ?_
      refine HW.region ?_
      refine HL.still (Runs.move f7) ?_
      intro u51 e51
      refine HL.still (Runs.move f1) ?_
      intro u52 e52
      refine HL.still (Runs.move f8) ?_
      intro u53 e53
      refine HL.still (Runs.ixSl (o' := so + k) Try.underlying22 sz29 e52 e53 (by omega) (by omega) (by omega)) ?_
      intro u54 e54
      refine HL.still (Runs.load Try.underlying29 rfl e54 hcell') ?_
      intro u55 e55
      refine HL.one (HO.call Try.func18 bd18 nm18 (args2 e51 e55) rfl ((putX_ch he s b room M' M' xs d e b1 c1 (put_twice room M xs hp) S12 hby' hle' (by omega) hr1 hr0 hG'.fits).mono ?_))
      rintro _ hf' ⟨rfl, S13, X13⟩
      intro u56 e56
      refine HL.still (Runs.move e56) ?_
      intro u50 e50
      refine HL.still (Runs.extr e50 rfl) ?_
      intro u57 e57
      refine HL.still (Runs.extr e50 rfl) ?_
      intro u58 e58
      refine HL.one (HO.alloc zr31 ?_)
      intro hg wg
      intro u13 e13
      refine HL.zero (HO.storeAll sz31 e13 e57 (encD_one d) wg.new (encD_len _) (by simp) ?_)
      intro hi wi
      refine HL.still (Runs.assign e58) ?_
      intro u14 e14
      refine HL.nil ?_
      have XD : Ext hf' hi := wg.ext.wr wi (Nat.le_refl _)
      have S14 : Sto (fun _ => True) hi s b room M' := (S13.ext XD).weaken fun _ _ _ => trivial
      have x13 := X13.size
      have kdl := lt_of_some kd
      have hbl : b ≤ h2.size := by omega
      have sl0 := hS.lt
      have kd3 : hi[h9.size]? = some (.cells (encD d).toArray 31 (0, 0)) := XD.keepE (ex2_off X13 kd2 (by omega) (by omega))
      have kd4 : hi[hf'.size]? = some (.cells (encD d).toArray 31 (0, 0)) := wi.new
      have D2 : Dgs hi ka ks := by
        refine D.dgs.keep fun sb so e => ?_
        rcases D.blk with ⟨q, _⟩ | ⟨g, q, q1, q2⟩
        · rw [q] at e; cases e
        · rw [q] at e
          cases e
          exact (XD.old _ (by omega)).trans (X13.old _ (by omega) (by omega) (by omega))
      have hXi : Ext h hi := (hXe.ex2 X13 (Nat.le_refl _) (by omega) (by omega)).ext XD (Nat.le_refl _)
      have d13 : u13 = .pointer (some ⟨hf'.size, 0, none⟩) := e13
      have d11 : u11 = I64 (tot M') := e11
      have d14 : u14 = I64 e := e14
      have d12 : u12 = .slice ka ks.length kc := e12
      have hri := keys_rise hG' kp kq
      have hksl : ks.length = M'.length := by rw [kp.length_eq, List.length_map]
      repeat refine HW.seq ?_
      -- region 13
      repeat refine HW.seq ?_
      refine HW.region ?_
      refine HL.still (Runs.loadAgg Try.underlying31 rfl sz31 d9 (encD_len d) (load_blk kd3)) ?_
      intro u59 e59
      refine HL.still (Runs.loadAgg Try.underlying31 rfl sz31 d13 (encD_len d) (load_blk kd4)) ?_
      intro u60 e60
      refine HL.still (Runs.neqBytes Try.underlying31 Try.underlying5 sz5 eg31 e59 e60 (t := false) d.2 d.2 (by simp)) ?_
      intro u61 e61
      refine HL.still (Runs.move e61) ?_
      intro u62 e62
      refine HL.stillG rfl rfl e62 (Runs.move d10) ?_
      intro u63 e63
      refine HL.stillG rfl rfl e62 (Runs.move d14) ?_
      intro u64 e64
      refine HL.stillG rfl rfl e62 (Runs.neq e63 e64 (t := false) (by simp)) ?_
      intro u65 e65
      refine HL.still (Runs.pick e62 e65) ?_
      intro u66 e66
      refine HL.still (Runs.move e66) ?_
      intro u67 e67
      refine HL.stillG rfl rfl e67 (Runs.move f7) ?_
      intro u68 e68
      refine HL.oneG rfl rfl e67 (HO.call Try.func26 bd26 nm26 (args1 e68) rfl ((usedX_ch hi s b room M' (tot M') S14 rfl).mono ?_))
      rintro _ hj ⟨rfl, Xj⟩
      intro u69 e69
      refine HL.stillG rfl rfl e67 (Runs.move d11) ?_
      intro u70 e70
      refine HL.stillG rfl rfl e67 (Runs.neq e69 e70 (t := false) (by simp)) ?_
      intro u71 e71
      refine HL.still (Runs.pick e67 e71) ?_
      intro u72 e72
      refine HL.still (Runs.move e72) ?_
      intro u73 e73
      refine HL.stillG rfl rfl e73 (Runs.move d12) ?_
      intro u74 e74
      refine HL.stillG rfl rfl e73 (Runs.move f7) ?_
      intro u75 e75
      refine HL.oneG rfl rfl e73 (HO.call Try.func29 bd29 nm29 (args1 e75) rfl ((keysS_ch hj s b room M' (S14.ext Xj) (by omega)).mono ?_))
      rintro _ hk' ⟨ka2, kc2, ks2, rfl, Dk, kp2, kq2, Xk⟩
      intro u76 e76
      refine HL.oneG rfl rfl e73 (HO.call Try.func30 bd30 nm30 (args2 e74 e76) rfl ((keys_ch hk' ks ks2 ka ka2 _ _ kc kc2 rfl rfl ((D2.ext Xj).ext Xk) Dk.dgs (by omega) (by rw [kp2.length_eq, List.length_map]; omega)).mono ?_))
      rintro _ hm' ⟨rfl, hhm⟩
      intro u77 e77
      refine HL.stillG rfl rfl e73 (Runs.notb (t := true) (u := false) (e77.trans (congrArg Value.bool (by rw [rises_unique hri (keys_rise hG' kp2 kq2) (kp.trans kp2.symm)]; simp))) rfl) ?_
      intro u78 e78
      refine HL.still (Runs.pick e73 e78) ?_
      intro u79 e79
      refine HL.nil ?_
      refine HW.no e79 ?_
      refine HW.skip ?_
      -- region 8
      repeat refine HW.seq ?_
      refine HW.region ?_
      refine HL.still (Runs.move f8) ?_
      intro u35 e35
      refine HL.still (Runs.add e35 rfl (i64w (by omega))) ?_
      intro u36 e36
      refine HL.still (Runs.assign e36) ?_
      intro u8 e8
      refine HL.nil ?_
      rw [hhm]
      exact ⟨l.length - (k + 1), by omega, k + 1, by omega, rfl, e8, f1, f5, f7, (hXi.ext Xj (Nat.le_refl _)).ext Xk (Nat.le_refl _), M', (S14.ext Xj).ext Xk, hG'⟩
    · have hkl : k = l.length := by omega
      subst hkl
      -- region 7
      repeat refine HW.seq ?_
      refine HW.region ?_
      refine HL.still (Runs.move f8) ?_
      intro u31 e31
      refine HL.still (Runs.move f1) ?_
      intro u32 e32
      refine HL.still (Runs.lenSl rfl Try.underlying22 e32) ?_
      intro u33 e33
      refine HL.still (Runs.lss e31 e33 rfl) ?_
      intro u34 e34
      refine HL.nil ?_
      repeat refine HW.seq ?_
      refine HW.no ?_ ?_
      exact e34.trans (congrArg Value.bool (decide_eq_false (by omega)))
      refine HW.exitHere ?_
      -- region 15
      repeat refine HW.seq ?_
      refine HW.region ?_
      refine HL.still (Runs.move f5) ?_
      intro u80 e80
      refine HL.still (Runs.assign e80) ?_
      intro u4 e4
      refine HL.nil ?_
      refine HW.ret ?_
      exact RT.one rfl e4 ⟨rfl, hX⟩
end Go.Proofs.Ytklelhfgbjpifaa
