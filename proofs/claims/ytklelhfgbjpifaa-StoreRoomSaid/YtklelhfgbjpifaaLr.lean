/- The law StoreRoom, walked. -/
import Derived.Test.YtklelhfgbjpifaaSx4
namespace Go.Proofs.Ytklelhfgbjpifaa
set_option linter.unnecessarySimpa false
set_option linter.unusedSimpArgs false
set_option linter.unusedVariables false
open Go.RowKit
set_option maxRecDepth 10000 in
set_option maxHeartbeats 1000000 in
theorem lawRoom_ch (h : Heap) (r : Int) (l : List (Option Addr × Nat × List UInt8)) (a : Option Addr) (cap : Nat) (hB : Byts h a l) (hl : l.length ≤ maxLen) (hz : ∀ x ∈ l, x.2.2.length ≤ 140737488355328) :
    CH Try.prog 5 #[I64 r, .slice a l.length cap] h fun v h' => v = .bool true ∧ Ext h h' := by
  refine CH.of_body Try.func5 rfl rfl rfl ?_
  intro f hf
  have p0 : f 0 = I64 r := by rw [hf]; exact fr0_at rfl
  have p1 : f 1 = .slice a l.length cap := by rw [hf]; exact fr0_at rfl
  -- region 0
  repeat refine HW.seq ?_
  refine HW.region ?_
  refine HL.still (Runs.assign rfl) ?_
  intro u4 e4
  refine HL.nil ?_
  -- region 1
  repeat refine HW.seq ?_
  refine HW.region ?_
  refine HL.one (HO.call Try.func14 bd14 nm14 (args0) rfl ((small_ch h).mono ?_))
  rintro _ h1 ⟨rfl, X1⟩
  intro u17 e17
  refine HL.still (Runs.assign e17) ?_
  intro u5 e5
  refine HL.nil ?_
  -- region 2
  repeat refine HW.seq ?_
  refine HW.region ?_
  refine HL.still (Runs.move p1) ?_
  intro u18 e18
  refine HL.one (HO.call Try.func15 bd15 nm15 (args1 e18) rfl ((few_ch h1 l a l.length cap rfl (hB.ext X1) hl hz).mono ?_))
  rintro _ h2 ⟨rfl, rfl⟩
  intro u19 e19
  refine HL.still (Runs.assign e19) ?_
  intro u6 e6
  refine HL.nil ?_
  -- region 3
  repeat refine HW.seq ?_
  refine HW.region ?_
  refine HL.still (Runs.move p0) ?_
  intro u20 e20
  refine HL.one (HO.call Try.func16 bd16 nm16 (args1 e20) rfl ((newS_ch h2 r).mono ?_))
  rintro _ h3 ⟨rfl, S3, X3⟩
  intro u21 e21
  refine HL.still (Runs.assign e21) ?_
  intro u7 e7
  refine HL.nil ?_
  have XA : Ext h h3 := X1.ext X3 (Nat.le_refl _)
  have z1 := X1.size
  have g5 : u5 = .bool true := e5
  obtain ⟨s, hs⟩ : ∃ s, s = h2.size + 1 := ⟨_, rfl⟩
  obtain ⟨b, hb⟩ : ∃ b, b = h2.size := ⟨_, rfl⟩
  rw [← hb] at S3 hs e7
  rw [← hs] at S3 e7
  obtain ⟨room, hroom⟩ : ∃ room, room = roomO r := ⟨_, rfl⟩
  have hr0 := roomO_0 r
  have hr1 := roomO_top r
  rw [← hroom] at S3 hr0 hr1
  have S3 : Sto (fun _ => True) h3 s b room [] := S3.weaken fun _ _ _ => trivial
  cases hfew : fewO l with
  | false =>
    have g6 : u6 = .bool false := e6.trans (congrArg Value.bool hfew)
    -- region 4
    repeat refine HW.seq ?_
    refine HW.region ?_
    refine HL.still (Runs.move e7) ?_
    intro u22 e22
    refine HL.still (Runs.eqNil Try.underlying25 e22 rfl) ?_
    intro u23 e23
    refine HL.still (Runs.move e23) ?_
    intro u24 e24
    refine HL.stillG rfl rfl e24 (Runs.move g6) ?_
    intro u25 e25
    refine HL.stillG rfl rfl e24 (Runs.notb e25 (t := false) (u := true) rfl) ?_
    intro u26 e26
    refine HL.still (Runs.pick e24 e26) ?_
    intro u27 e27
    refine HL.nil ?_
    refine HW.yes e27 ?_
    -- region 5
    repeat refine HW.seq ?_
    refine HW.region ?_
    refine HL.still (Runs.move g5) ?_
    intro u28 e28
    refine HL.still (Runs.move e28) ?_
    intro u29 e29
    refine HL.stillG rfl rfl e29 (Runs.move e7) ?_
    intro u30 e30
    refine HL.stillG rfl rfl e29 (Runs.neqNil Try.underlying25 e30 rfl) ?_
    intro u31 e31
    refine HL.still (Runs.pick e29 e31) ?_
    intro u32 e32
    refine HL.still (Runs.assign e32) ?_
    intro u4 e4
    refine HL.nil ?_
    refine HW.ret ?_
    exact RT.one rfl e4 ⟨rfl, XA⟩
  | true =>
    obtain ⟨h40, h2000⟩ := few_of hfew
    have g6 : u6 = .bool true := e6.trans (congrArg Value.bool hfew)
    -- region 4
    repeat refine HW.seq ?_
    refine HW.region ?_
    refine HL.still (Runs.move e7) ?_
    intro u22 e22
    refine HL.still (Runs.eqNil Try.underlying25 e22 rfl) ?_
    intro u23 e23
    refine HL.still (Runs.move e23) ?_
    intro u24 e24
    refine HL.stillG rfl rfl e24 (Runs.move g6) ?_
    intro u25 e25
    refine HL.stillG rfl rfl e24 (Runs.notb e25 (t := true) (u := false) rfl) ?_
    intro u26 e26
    refine HL.still (Runs.pick e24 e26) ?_
    intro u27 e27
    refine HL.nil ?_
    refine HW.no e27 ?_
    refine HW.skip ?_
    -- region 6
    repeat refine HW.seq ?_
    refine HW.region ?_
    refine HL.still (Runs.move p0) ?_
    intro u33 e33
    refine HL.still (Runs.minI e33 rfl rfl) ?_
    intro u34 e34
    refine HL.still (Runs.maxI (a := 0) (c := roomO r) rfl e34 rfl) ?_
    intro u35 e35
    refine HL.still (Runs.assign e35) ?_
    intro u8 e8
    refine HL.nil ?_
    have g8 : u8 = I64 room := e8.trans (congrArg (Value.int .i64) hroom.symm)
    -- region 7
    repeat refine HW.seq ?_
    refine HW.region ?_
    refine HL.still (Runs.assign rfl) ?_
    intro u9 e9
    refine HL.nil ?_
    repeat refine HW.seq ?_
    refine HW.block ?_
    refine HW.loop (fun m f u => ∃ k : Nat, k ≤ l.length ∧ m = l.length - k ∧ f 9 = I64 k ∧ f 1 = .slice a l.length cap ∧ f 5 = .bool true ∧ f 7 = .pointer (some ⟨s, 0, none⟩) ∧ f 8 = I64 room ∧ Ext h u ∧ ∃ M, Sto (fun _ => True) u s b room M ∧ Good room M k) l.length
      ⟨0, Nat.zero_le _, rfl, e9, p1, g5, e7, g8, XA, [], S3, Good.nil hr0⟩ ?_
    clear e4 e5 e6 e7 e8 e9 g5 g6 g8
    rintro m f u ⟨k, hk, hm, f9, f1, f5, f7, f8, hX, M, hS, hG⟩
    by_cases hlt : k < l.length
    · obtain ⟨sb, so, hsa, b1, c1, xs, hx, hcell, hby, hle⟩ := (hB.ext hX).at hlt
      have hxl := lens_mem hx
      obtain ⟨M', d, e, hp⟩ : ∃ M' d e, putO room M xs = (M', d, e) := ⟨_, _, _, rfl⟩
      have hG' : Good room M' (k + 1) := by have := hG.put xs; rw [hp] at this; exact this
      have hok := put_ok hp
      have hfit := hG.fits
      have hfit' := hG'.fits
      have hu := hX.size
      subst hsa
      -- region 8
      repeat refine HW.seq ?_
      refine HW.region ?_
      refine HL.still (Runs.move f9) ?_
      intro u36 e36
      refine HL.still (Runs.move f1) ?_
      intro u37 e37
      refine HL.still (Runs.lenSl rfl Try.underlying22 e37) ?_
      intro u38 e38
      refine HL.still (Runs.lss e36 e38 rfl) ?_
      intro u39 e39
      refine HL.nil ?_
      repeat refine HW.seq ?_
      refine HW.yes ?_ ?_
      exact e39.trans (congrArg Value.bool (decide_eq_true (by omega)))
      refine HW.skip ?_
      repeat refine HW.seq ?_
      refine HW.block ?_
      obtain ⟨t1, ht1⟩ : ∃ t1, t1 = decide ((tot M : Int) + xs.length ≤ room) := ⟨_, rfl⟩
      obtain ⟨t2, ht2⟩ : ∃ t2, t2 = (lookM M (shaD xs)).isSome := ⟨_, rfl⟩
      rw [← ht1, ← ht2] at hok
      -- region 10
      repeat refine HW.seq ?_
      refine HW.grow #[0, 1, 0, 0, 12, 28, 60, 127, 0, 511, 1023] (fun a b => Ext a b) mixed (by kernel_rfl) (fun _ => Bel.refl _ _) (fun _ _ _ x y => Bel.ext x y (Nat.le_refl _)) ?_
      refine HM.still (fun _ => Bel.refl _ _) (fun f h K => Runs.move ((K.keep (by kernel_rfl)).trans f7)) ?_
      refine HM.one (fun x _ => x = _) (fun _ _ _ _ e => e) (fun f h K => HO.call Try.func26 bd26 nm26 (args1 (K.at 0 42 rfl rfl)) rfl ((usedX_ch h s b room M (tot M) (hS.ext K.grown) rfl).mono fun _ _ q => ⟨q.2, q.1⟩)) ?_
      refine HM.still (fun _ => Bel.refl _ _) (fun f h K => Runs.move ((K.keep (by kernel_rfl)).trans f1)) ?_
      refine HM.still (fun _ => Bel.refl _ _) (fun f h K => Runs.move ((K.keep (by kernel_rfl)).trans f9)) ?_
      refine HM.still (fun _ => Bel.refl _ _) (fun f h K => Runs.ixSl (o' := so + k) Try.underlying22 sz29 (K.at 2 44 rfl rfl) (K.at 3 45 rfl rfl) (by omega) (by omega) (by omega)) ?_
      refine HM.still (fun _ => Bel.refl _ _) (fun f h K => Runs.load Try.underlying29 rfl (K.at 4 46 rfl rfl) (by rw [cellH_keep (Bel.old K.grown sb (lt_of_cellH hcell))]; exact hcell)) ?_
      refine HM.still (fun _ => Bel.refl _ _) (fun f h K => Runs.lenSl rfl Try.underlying29 (K.at 5 47 rfl rfl)) ?_
      refine HM.still (fun _ => Bel.refl _ _) (fun f h K => Runs.add (K.at 1 43 rfl rfl) (K.at 6 48 rfl rfl) (i64w (by omega))) ?_
      refine HM.still (fun _ => Bel.refl _ _) (fun f h K => Runs.move ((K.keep (by kernel_rfl)).trans f8)) ?_
      refine HM.still (fun _ => Bel.refl _ _) (fun f h K => Runs.leq (K.at 7 49 rfl rfl) (K.at 8 50 rfl rfl) (t := t1) ht1.symm) ?_
      refine HM.still (fun _ => Bel.refl _ _) (fun f h K => Runs.assign (K.at 9 51 rfl rfl)) ?_
      intro f' ha hR2 V O
      have hEa : Ext u ha := hR2
      have q1 := (last_keep O (s := 1) (by kernel_rfl)).trans f1
      have q5 := (last_keep O (s := 5) (by kernel_rfl)).trans f5
      have q7 := (last_keep O (s := 7) (by kernel_rfl)).trans f7
      have q8 := (last_keep O (s := 8) (by kernel_rfl)).trans f8
      have q9 := (last_keep O (s := 9) (by kernel_rfl)).trans f9
      have q10 : f' 10 = .bool t1 := last_at V 10 10 rfl
      clear V O
      have hca : cellH ha sb (so + k) = some (.slice b1 xs.length c1) := by rw [cellH_keep (Bel.old hEa sb (lt_of_cellH hcell))]; exact hcell
      -- region 11
      repeat refine HW.seq ?_
      refine HW.region ?_
      refine HL.still (Runs.move q7) ?_
      intro u52 e52
      refine HL.still (Runs.move q1) ?_
      intro u53 e53
      refine HL.still (Runs.move q9) ?_
      intro u54 e54
      refine HL.still (Runs.ixSl (o' := so + k) Try.underlying22 sz29 e53 e54 (by omega) (by omega) (by omega)) ?_
      intro u55 e55
      refine HL.still (Runs.load Try.underlying29 rfl e55 hca) ?_
      intro u56 e56
      refine HL.one (HO.call Try.func31 bd31 nm31 (args1 e56) rfl ((of_ch ha xs b1 c1 (hby.ext hEa) hle (by omega)).mono ?_))
      rintro _ hb' ⟨rfl, Xb⟩
      intro u57 e57
      refine HL.one (HO.call Try.func23 bd23 nm23 (args2 e52 e57) rfl ((hasX_ch hb' s b room M (shaD xs) t2 ((hS.ext hEa).ext Xb) ht2.symm).mono ?_))
      rintro _ hc ⟨rfl, Xc⟩
      intro u58 e58
      refine HL.still (Runs.assign e58) ?_
      intro u11 e11
      refine HL.nil ?_
      have hEc : Ext u hc := (hEa.ext Xb (Nat.le_refl _)).ext Xc (Nat.le_refl _)
      have hcc : cellH hc sb (so + k) = some (.slice b1 xs.length c1) := by rw [cellH_keep (Bel.old hEc sb (lt_of_cellH hcell))]; exact hcell
      have q11 : u11 = .bool t2 := e11
      -- region 12
      repeat refine HW.seq ?_
      refine HW.region ?_
      refine HL.still (Runs.move q7) ?_
      intro u60 e60
      refine HL.still (Runs.move q1) ?_
      intro u61 e61
      refine HL.still (Runs.move q9) ?_
      intro u62 e62
      refine HL.still (Runs.ixSl (o' := so + k) Try.underlying22 sz29 e61 e62 (by omega) (by omega) (by omega)) ?_
      intro u63 e63
      refine HL.still (Runs.load Try.underlying29 rfl e63 hcc) ?_
      intro u64 e64
      refine HL.one (HO.call Try.func18 bd18 nm18 (args2 e60 e64) rfl ((putX_ch hc s b room M M' xs d e b1 c1 hp (hS.ext hEc) (hby.ext hEc) hle (by omega) hr1 hr0 hG.fits).mono ?_))
      rintro _ hd ⟨rfl, Sd, Xd⟩
      intro u65 e65
      refine HL.still (Runs.move e65) ?_
      intro u59 e59
      refine HL.still (Runs.extr e59 rfl) ?_
      intro u66 e66
      refine HL.still (Runs.extr e59 rfl) ?_
      intro u67 e67
      refine HL.one (HO.alloc zr31 ?_)
      intro he we
      intro u12 e12
      refine HL.zero (HO.storeAll sz31 e12 e66 (encD_one d) we.new (encD_len _) (by simp) ?_)
      intro hf' wf
      refine HL.still (Runs.assign e67) ?_
      intro u13 e13
      refine HL.nil ?_
      have xd := Xd.size
      have xc := hEc.size
      have Xf : Ext hd hf' := we.ext.wr wf (Nat.le_refl _)
      have Sf : Sto (fun _ => True) hf' s b room M' := (Sd.ext Xf).weaken fun _ _ _ => trivial
      have sl0 := hS.lt
      have hXf : Ext h hf' := ((hX.ext hEc (Nat.le_refl _)).ex2 Xd (Nat.le_refl _) (by omega) (by omega)).ext Xf (Nat.le_refl _)
      have q13 : u13 = I64 e := e13
      -- region 13
      repeat refine HW.seq ?_
      refine HW.region ?_
      refine HL.still (Runs.move q13) ?_
      intro u68 e68
      refine HL.still (Runs.eql e68 rfl (t := e == 0) rfl) ?_
      intro u69 e69
      refine HL.still (Runs.move q10) ?_
      intro u70 e70
      refine HL.still (Runs.move e70) ?_
      intro u71 e71
      refine HL.anyG rfl rfl e71 (fun hg => Runs.move q11) ?_
      intro u72 e72
      refine HL.still (Runs.pick e71 (or_pick e72)) ?_
      intro u73 e73
      refine HL.still (Runs.neqB Try.underlying4 e69 e73 (b := false) (by rw [hok]; simp)) ?_
      intro u74 e74
      refine HL.still (Runs.move e74) ?_
      intro u75 e75
      refine HL.stillG rfl rfl e75 (Runs.move q7) ?_
      intro u76 e76
      refine HL.oneG rfl rfl e75 (HO.call Try.func26 bd26 nm26 (args1 e76) rfl ((usedX_ch hf' s b room M' (tot M') Sf rfl).mono ?_))
      rintro _ hg ⟨rfl, Xg⟩
      intro u77 e77
      refine HL.stillG rfl rfl e75 (Runs.move q8) ?_
      intro u78 e78
      refine HL.stillG rfl rfl e75 (Runs.gtr e77 e78 (t := false) (decide_eq_false (by omega))) ?_
      intro u79 e79
      refine HL.still (Runs.pick e75 e79) ?_
      intro u80 e80
      refine HL.still (Runs.move e80) ?_
      intro u81 e81
      refine HL.stillG rfl rfl e81 (Runs.move q7) ?_
      intro u82 e82
      refine HL.oneG rfl rfl e81 (HO.call Try.func26 bd26 nm26 (args1 e82) rfl ((usedX_ch hg s b room M' (tot M') (Sf.ext Xg) rfl).mono ?_))
      rintro _ hh ⟨rfl, Xh⟩
      intro u83 e83
      refine HL.stillG rfl rfl e81 (Runs.lss e83 rfl (t := false) (decide_eq_false (by omega))) ?_
      intro u84 e84
      refine HL.still (Runs.pick e81 e84) ?_
      intro u85 e85
      refine HL.nil ?_
      refine HW.no e85 ?_
      refine HW.skip ?_
      -- region 9
      repeat refine HW.seq ?_
      refine HW.region ?_
      refine HL.still (Runs.move q9) ?_
      intro u40 e40
      refine HL.still (Runs.add e40 rfl (i64w (by omega))) ?_
      intro u41 e41
      refine HL.still (Runs.assign e41) ?_
      intro u9 e9
      refine HL.nil ?_
      exact ⟨l.length - (k + 1), by omega, k + 1, by omega, rfl, e9, q1, q5, q7, q8, (hXf.ext Xg (Nat.le_refl _)).ext Xh (Nat.le_refl _), M', (Sf.ext Xg).ext Xh, hG'⟩
    · have hkl : k = l.length := by omega
      subst hkl
      have hMl := hG.len
      -- region 8
      repeat refine HW.seq ?_
      refine HW.region ?_
      refine HL.still (Runs.move f9) ?_
      intro u36 e36
      refine HL.still (Runs.move f1) ?_
      intro u37 e37
      refine HL.still (Runs.lenSl rfl Try.underlying22 e37) ?_
      intro u38 e38
      refine HL.still (Runs.lss e36 e38 rfl) ?_
      intro u39 e39
      refine HL.nil ?_
      repeat refine HW.seq ?_
      refine HW.no ?_ ?_
      exact e39.trans (congrArg Value.bool (decide_eq_false (by omega)))
      refine HW.exitHere ?_
      -- region 15
      repeat refine HW.seq ?_
      refine HW.region ?_
      refine HL.still (Runs.assign rfl) ?_
      intro u14 e14
      refine HL.nil ?_
      -- region 16
      repeat refine HW.seq ?_
      refine HW.region ?_
      refine HL.still (Runs.move f7) ?_
      intro u86 e86
      refine HL.one (HO.call Try.func29 bd29 nm29 (args1 e86) rfl ((keysS_ch u s b room M hS (by omega)).mono ?_))
      rintro _ ha ⟨ka, kc, ks, rfl, D, kp, kq, Xa⟩
      intro u87 e87
      refine HL.still (Runs.assign e87) ?_
      intro u15 e15
      refine HL.nil ?_
      have hksl : ks.length = M.length := by rw [kp.length_eq, List.length_map]
      have hin : ∀ x ∈ ks, x ∈ M.map (·.1) := fun x hx => kp.mem_iff.1 hx
      have hall : szs M ks = tot M := by rw [szs_perm M kp, szs_all hG.nodup]
      have hSa := hS.ext Xa
      have hfit := hG.fits
      -- region 17
      repeat refine HW.seq ?_
      refine HW.region ?_
      refine HL.still (Runs.assign rfl) ?_
      intro u16 e16
      refine HL.nil ?_
      repeat refine HW.seq ?_
      refine HW.block ?_
      refine HW.loop (fun m f v => ∃ k : Nat, k ≤ ks.length ∧ m = ks.length - k ∧ f 16 = I64 k ∧ f 5 = .bool true ∧ f 7 = .pointer (some ⟨s, 0, none⟩) ∧ f 15 = .slice ka ks.length kc ∧ f 14 = I64 (szs M (ks.take k)) ∧ Ext ha v) _
        ⟨0, Nat.zero_le _, rfl, e16, f5, f7, e15, e14, Bel.refl _ _⟩ ?_
      clear e14 e15 e16 f5 f7
      rintro m f v ⟨k, hk, hm, f16, f5, f7, f15, f14, hXv⟩
      by_cases hlt : k < ks.length
      · obtain ⟨sb, so, rfl, hc⟩ := (D.dgs.ext hXv).at hlt
        have hst := szs_take M ks hlt
        have hs1 := szs_take_le hin (k + 1)
        have hs0 := szs_nonneg (M := M) (l := ks.take k) fun x hx => hin x (List.mem_of_mem_take hx)
        have hsn := size_in (hin (ks.getD k zD) (by rw [List.getD_eq_getElem?_getD, List.getElem?_eq_getElem hlt]; exact List.getElem_mem hlt))
        -- region 18
        repeat refine HW.seq ?_
        refine HW.region ?_
        refine HL.still (Runs.move f16) ?_
        intro u88 e88
        refine HL.still (Runs.move f15) ?_
        intro u89 e89
        refine HL.still (Runs.lenSl rfl Try.underlying41 e89) ?_
        intro u90 e90
        refine HL.still (Runs.lss e88 e90 rfl) ?_
        intro u91 e91
        refine HL.nil ?_
        repeat refine HW.seq ?_
        refine HW.yes ?_ ?_
        exact e91.trans (congrArg Value.bool (decide_eq_true (by omega)))
        refine HW.skip ?_
        repeat refine HW.seq ?_
        refine HW.block ?_
        -- region 20
        repeat refine HW.seq ?_
        refine HW.region ?_
        refine HL.still (Runs.move f14) ?_
        intro u94 e94
        refine HL.still (Runs.move f7) ?_
        intro u95 e95
        refine HL.still (Runs.move f15) ?_
        intro u96 e96
        refine HL.still (Runs.move f16) ?_
        intro u97 e97
        refine HL.still (Runs.ixSl (o' := so + k * 32) Try.underlying41 sz31 e96 e97 (by omega) (by omega) (by omega)) ?_
        intro u98 e98
        refine HL.still (Runs.loadAgg Try.underlying31 rfl sz31 e98 (encD_len (ks.getD k zD)) hc) ?_
        intro u99 e99
        refine HL.one (HO.call Try.func24 bd24 nm24 (args2 e95 e99) rfl ((sizeX_ch v s b room M (ks.getD k zD) (sizeO M (ks.getD k zD)) (hSa.ext hXv) rfl).mono ?_))
        rintro _ hw ⟨rfl, Xw⟩
        intro u100 e100
        refine HL.still (Runs.add e94 e100 (i64w (by omega))) ?_
        intro u101 e101
        refine HL.still (Runs.assign e101) ?_
        intro u14 e14
        refine HL.nil ?_
        -- region 19
        repeat refine HW.seq ?_
        refine HW.region ?_
        refine HL.still (Runs.move f16) ?_
        intro u92 e92
        refine HL.still (Runs.add e92 rfl (i64w (by omega))) ?_
        intro u93 e93
        refine HL.still (Runs.assign e93) ?_
        intro u16 e16
        refine HL.nil ?_
        exact ⟨ks.length - (k + 1), by omega, k + 1, by omega, rfl, e16, f5, f7, f15, e14.trans (congrArg (Value.int .i64) hst.symm), hXv.ext Xw (Nat.le_refl _)⟩
      · have hkl : k = ks.length := by omega
        subst hkl
        rw [List.take_of_length_le (Nat.le_refl _), hall] at f14
        -- region 18
        repeat refine HW.seq ?_
        refine HW.region ?_
        refine HL.still (Runs.move f16) ?_
        intro u88 e88
        refine HL.still (Runs.move f15) ?_
        intro u89 e89
        refine HL.still (Runs.lenSl rfl Try.underlying41 e89) ?_
        intro u90 e90
        refine HL.still (Runs.lss e88 e90 rfl) ?_
        intro u91 e91
        refine HL.nil ?_
        repeat refine HW.seq ?_
        refine HW.no ?_ ?_
        exact e91.trans (congrArg Value.bool (decide_eq_false (by omega)))
        refine HW.exitHere ?_
        -- region 21
        repeat refine HW.seq ?_
        refine HW.region ?_
        refine HL.still (Runs.move f5) ?_
        intro u102 e102
        refine HL.still (Runs.move e102) ?_
        intro u103 e103
        refine HL.stillG rfl rfl e103 (Runs.move f14) ?_
        intro u104 e104
        refine HL.stillG rfl rfl e103 (Runs.move f7) ?_
        intro u105 e105
        refine HL.oneG rfl rfl e103 (HO.call Try.func26 bd26 nm26 (args1 e105) rfl ((usedX_ch v s b room M (tot M) (hSa.ext hXv) rfl).mono ?_))
        rintro _ hw ⟨rfl, Xw⟩
        intro u106 e106
        refine HL.stillG rfl rfl e103 (Runs.eql e104 e106 (t := true) (by simp)) ?_
        intro u107 e107
        refine HL.still (Runs.pick e103 e107) ?_
        intro u108 e108
        refine HL.still (Runs.assign e108) ?_
        intro u4 e4
        refine HL.nil ?_
        refine HW.ret ?_
        exact RT.one rfl e4 ⟨rfl, ((hX.ext Xa (Nat.le_refl _)).ext hXv (Nat.le_refl _)).ext Xw (Nat.le_refl _)⟩
end Go.Proofs.Ytklelhfgbjpifaa
