/- The law StorePlays, walked. -/
import Derived.Test.YtklelhfgbjpifaaPc
namespace Go.Proofs.Ytklelhfgbjpifaa
set_option linter.unnecessarySimpa false
set_option linter.unusedSimpArgs false
set_option linter.unusedVariables false
open Go.RowKit
set_option maxRecDepth 10000 in
set_option maxHeartbeats 4000000 in
theorem lawPlays_ch (h : Heap) (r : Int) (l : List (Option Addr × Nat × List UInt8)) (a : Option Addr) (cap : Nat) (hB : Byts h a l) (hl : l.length ≤ maxLen) (hz : ∀ x ∈ l, x.2.2.length ≤ 140737488355328) :
    CH Try.prog 3 #[I64 r, .slice a l.length cap] h fun v h' => v = .bool true ∧ Ext h h' := by
  refine CH.of_body Try.func3 rfl rfl rfl ?_
  intro f hf
  have p0 : f 0 = I64 r := by rw [hf]; exact fr0_at rfl
  have p1 : f 1 = .slice a l.length cap := by rw [hf]; exact fr0_at rfl
  -- region 0
  repeat refine HW.seq ?_
  refine HW.region ?_
  refine HL.still (Runs.assign rfl) ?_
  intro u4 e4
  refine HL.nil ?_
  -- region 1
  repeat refine HW.seq ?_
  refine HW.region ?_
  refine HL.one (HO.call Try.func14 bd14 nm14 (args0) rfl ((small_ch h).mono ?_))
  rintro _ h1 ⟨rfl, X1⟩
  intro u24 e24
  refine HL.still (Runs.assign e24) ?_
  intro u5 e5
  refine HL.nil ?_
  -- region 2
  repeat refine HW.seq ?_
  refine HW.region ?_
  refine HL.still (Runs.move p1) ?_
  intro u25 e25
  refine HL.one (HO.call Try.func15 bd15 nm15 (args1 e25) rfl ((few_ch h1 l a l.length cap rfl (hB.ext X1) hl hz).mono ?_))
  rintro _ h2 ⟨rfl, hh2⟩
  intro u26 e26
  refine HL.still (Runs.assign e26) ?_
  intro u6 e6
  refine HL.nil ?_
  subst hh2
  -- region 3
  repeat refine HW.seq ?_
  refine HW.region ?_
  refine HL.still (Runs.move p0) ?_
  intro u27 e27
  refine HL.one (HO.call Try.func16 bd16 nm16 (args1 e27) rfl ((newS_ch h2 r).mono ?_))
  rintro _ h3 ⟨rfl, S3, X3⟩
  intro u28 e28
  refine HL.still (Runs.assign e28) ?_
  intro u7 e7
  refine HL.nil ?_
  -- region 4
  repeat refine HW.seq ?_
  refine HW.region ?_
  refine HL.still (Runs.move p0) ?_
  intro u29 e29
  refine HL.one (HO.call Try.func17 bd17 nm17 (args1 e29) rfl ((new_ref_ch h3 r).mono ?_))
  rintro _ h4 ⟨rfl, R4, X4⟩
  intro u30 e30
  refine HL.still (Runs.assign e30) ?_
  intro u8 e8
  refine HL.nil ?_
  have XA : Ext h h4 := (X1.ext X3 (Nat.le_refl _)).ext X4 (Nat.le_refl _)
  have z1 := X1.size
  have z3 := X3.size
  have z4 := X4.size
  have g5 : u5 = .bool true := e5
  obtain ⟨s, hs⟩ : ∃ s, s = h2.size + 1 := ⟨_, rfl⟩
  obtain ⟨b, hb⟩ : ∃ b, b = h2.size := ⟨_, rfl⟩
  obtain ⟨y, hy⟩ : ∃ y, y = h3.size := ⟨_, rfl⟩
  have hs3 := S3.lt
  rw [← hb] at S3 hs e7 hs3
  rw [← hs] at S3 e7 hs3
  rw [← hy] at R4 e8
  obtain ⟨room, hroom⟩ : ∃ room, room = roomO r := ⟨_, rfl⟩
  have hr0 := roomO_0 r
  have hr1 := roomO_top r
  rw [← hroom] at S3 R4 hr0 hr1
  have S4 : Sto (fun j => j ≠ y) h4 s b room [] := (S3.weaken fun j hj _ => (by omega)).ext X4
  have R4 : Rst (fun j => j ≠ s ∧ j ≠ b) h4 y room [] := R4.weaken fun j hj q => ⟨by omega, by omega⟩
  cases hfew : fewO l with
  | false =>
    have g6 : u6 = .bool false := e6.trans (congrArg Value.bool hfew)
    -- region 5
    repeat refine HW.seq ?_
    refine HW.region ?_
    refine HL.still (Runs.move e7) ?_
    intro u31 e31
    refine HL.still (Runs.eqNil Try.underlying25 e31 rfl) ?_
    intro u32 e32
    refine HL.still (Runs.move e32) ?_
    intro u33 e33
    refine HL.stillG rfl rfl e33 (Runs.move g6) ?_
    intro u34 e34
    refine HL.stillG rfl rfl e33 (Runs.notb e34 (t := false) (u := true) rfl) ?_
    intro u35 e35
    refine HL.still (Runs.pick e33 e35) ?_
    intro u36 e36
    refine HL.nil ?_
    refine HW.yes e36 ?_
    -- region 6
    repeat refine HW.seq ?_
    refine HW.region ?_
    refine HL.still (Runs.move g5) ?_
    intro u37 e37
    refine HL.still (Runs.move e37) ?_
    intro u38 e38
    refine HL.stillG rfl rfl e38 (Runs.move e7) ?_
    intro u39 e39
    refine HL.stillG rfl rfl e38 (Runs.neqNil Try.underlying25 e39 rfl) ?_
    intro u40 e40
    refine HL.still (Runs.pick e38 e40) ?_
    intro u41 e41
    refine HL.still (Runs.assign e41) ?_
    intro u4 e4
    refine HL.nil ?_
    refine HW.ret ?_
    exact RT.one rfl e4 ⟨rfl, XA⟩
  | true =>
    obtain ⟨h40, h2000⟩ := few_of hfew
    have g6 : u6 = .bool true := e6.trans (congrArg Value.bool hfew)
    -- region 5
    repeat refine HW.seq ?_
    refine HW.region ?_
    refine HL.still (Runs.move e7) ?_
    intro u31 e31
    refine HL.still (Runs.eqNil Try.underlying25 e31 rfl) ?_
    intro u32 e32
    refine HL.still (Runs.move e32) ?_
    intro u33 e33
    refine HL.stillG rfl rfl e33 (Runs.move g6) ?_
    intro u34 e34
    refine HL.stillG rfl rfl e33 (Runs.notb e34 (t := true) (u := false) rfl) ?_
    intro u35 e35
    refine HL.still (Runs.pick e33 e35) ?_
    intro u36 e36
    refine HL.nil ?_
    refine HW.no e36 ?_
    refine HW.skip ?_
    -- region 7
    repeat refine HW.seq ?_
    refine HW.region ?_
    refine HL.still (Runs.assign rfl) ?_
    intro u9 e9
    refine HL.nil ?_
    repeat refine HW.seq ?_
    refine HW.block ?_
    refine HW.loop (fun m f u => ∃ k : Nat, k ≤ l.length ∧ m = l.length - k ∧ f 9 = I64 k ∧ f 1 = .slice a l.length cap ∧ f 5 = .bool true ∧ f 7 = .pointer (some ⟨s, 0, none⟩) ∧ f 8 = .pointer (some ⟨y, 0, none⟩) ∧ Ext h u ∧ ∃ M R, Sto (fun j => j ≠ y) u s b room M ∧ Rst (fun j => j ≠ s ∧ j ≠ b) u y room R ∧ Rel M R ∧ Good room M k ∧ tot M ≤ lens (l.take k)) l.length
      ⟨0, Nat.zero_le _, rfl, e9, p1, g5, e7, e8, XA, [], [], S4, R4, Rel.nil, Good.nil hr0, Nat.zero_le _⟩ ?_
    clear e4 e5 e6 e7 e8 e9 g5 g6
    rintro m f u ⟨k, hk, hm, f9, f1, f5, f7, f8, hX, M, R, hS, hR, hrel, hG, htot⟩
    by_cases hlt : k < l.length
    · obtain ⟨sb, so, hsa, b1, c1, xs, hx, hcell, hby, hle⟩ := (hB.ext hX).at hlt
      have hdec : l.length - (k + 1) < m := by rw [hm]; omega
      have hxl := lens_mem hx
      have hlt1 := lens_take l hx
      have hlt2 := lens_take_le l (k + 1)
      obtain ⟨M', d, e, hp⟩ : ∃ M' d e, putO room M xs = (M', d, e) := ⟨_, _, _, rfl⟩
      have hG' : Good room M' (k + 1) := by have := hG.put xs; rw [hp] at this; exact this
      have htot' : tot M' ≤ lens (l.take (k + 1)) := by have := put_tot_le room M xs; rw [hp] at this; simp only at this; omega
      have hMl := hG.len
      have hMl' := hG'.len
      have hu := hX.size
      have slu := hS.lt
      have blu : b < u.size := by
        obtain ⟨E, _, _, q, _⟩ := hS
        exact q.lt
      have ylu := hR.lt
      have hsy : s ≠ y := hS.foot.1
      have hby' : b ≠ y := hS.foot.2
      subst hsa
      have hrow : ∀ hh : Heap, Ext h hh → cellH hh sb (so + k) = some (.slice b1 xs.length c1) ∧ Byt hh b1 xs := fun hh X => by
        obtain ⟨sb', so', q, b2, c2, xs2, q2, q3, q4, _⟩ := (hB.ext X).at hlt
        rw [hx] at q2
        cases q
        cases q2
        exact ⟨q3, q4⟩
      -- region 8
      repeat refine HW.seq ?_
      refine HW.region ?_
      refine HL.still (Runs.move f9) ?_
      intro u42 e42
      refine HL.still (Runs.move f1) ?_
      intro u43 e43
      refine HL.still (Runs.lenSl rfl Try.underlying22 e43) ?_
      intro u44 e44
      refine HL.still (Runs.lss e42 e44 rfl) ?_
      intro u45 e45
      refine HL.nil ?_
      repeat refine HW.seq ?_
      refine HW.yes ?_ ?_
      exact e45.trans (congrArg Value.bool (decide_eq_true (by omega)))
      refine HW.skip ?_
      repeat refine HW.seq ?_
      refine HW.block ?_
      -- in: a copy
      -- region 10
      repeat refine HW.seq ?_
      refine HW.region ?_
      refine HL.one (HO.bytes0 ?_)
      intro ha wa
      intro u48 e48
      refine HL.still (Runs.move f1) ?_
      intro u49 e49
      refine HL.still (Runs.move f9) ?_
      intro u50 e50
      refine HL.still (Runs.ixSl (o' := so + k) Try.underlying22 sz29 e49 e50 (by omega) (by omega) (by omega)) ?_
      intro u51 e51
      refine HL.still (Runs.load Try.underlying29 rfl e51 (hrow ha (hX.ext wa.ext (Nat.le_refl _))).1) ?_
      intro u52 e52
      refine HL.one (HO.app Try.underlying29 in5 rfl e48 e52 rfl rfl (Bs.lit (xs := []) wa (Nat.le_refl _) (Nat.zero_le _)) (hrow ha (hX.ext wa.ext (Nat.le_refl _))).2 (by simp; omega) (by rw [wa.size]; omega) ?_)
      intro ia ic hi Bi Gi
      intro u53 e53
      refine HL.still (Runs.assign e53) ?_
      intro u10 e10
      refine HL.nil ?_
      have Bi : Bs hi u.size 5 ia ic xs := Bi
      have q10 : u10 = .slice ia xs.length ic := e10
      have Ei : Ext u hi := Gi.bel wa.ext (Bs.lit (xs := []) wa (Nat.le_refl _) (Nat.zero_le _)) (Nat.le_refl _) (Nat.le_refl _)
      have zi := Ei.size
      obtain ⟨gi, hgi, hgd⟩ : ∃ gi, u.size ≤ gi ∧ (xs.length = 0 ∨ ∃ cur : List Value, ia = some ⟨gi, 0, none⟩ ∧ gi < hi.size ∧ hi[gi]? = some (.cells cur.toArray 5 (0, 0)) ∧ xs.length ≤ cur.length) := by
        rcases Bi.blk with q | ⟨g, q, q1, q2⟩
        · refine ⟨u.size, Nat.le_refl _, .inl ?_⟩
          have := Bi.byt
          rw [q] at this
          rcases this with w | ⟨_, _, w, _⟩
          · rw [w]; rfl
          · cases w
        · subst q
          obtain ⟨cur, w1, w2, _⟩ := Bi.blkAt
          exact ⟨g, q1, .inr ⟨cur, rfl, q2, w1, by rw [w2]; exact Bi.2⟩⟩
      have Si : Sto (fun j => j ≠ y ∧ j ≠ gi) hi s b room M := (hS.weaken fun j hj q => ⟨q, by omega⟩).ext Ei
      have Ri : Rst (fun j => (j ≠ s ∧ j ≠ b) ∧ j ≠ gi) hi y room R := (hR.weaken fun j hj q => ⟨q, by omega⟩).ext Ei
      have hXi : Ext h hi := hX.ext Ei (Nat.le_refl _)
      -- both take it
      -- region 11
      repeat refine HW.seq ?_
      refine HW.region ?_
      refine HL.still (Runs.move f7) ?_
      intro u55 e55
      refine HL.still (Runs.move q10) ?_
      intro u56 e56
      refine HL.one (HO.call Try.func18 bd18 nm18 (args2 e55 e56) rfl ((putX_ch hi s b room M M' xs d e ia ic hp Si Bi.byt Bi.2 (by omega) hr1 hr0 hG.fits).mono ?_))
      rintro _ hj ⟨rfl, Sj, Xj⟩
      intro u57 e57
      refine HL.still (Runs.move e57) ?_
      intro u54 e54
      refine HL.still (Runs.extr e54 rfl) ?_
      intro u58 e58
      refine HL.still (Runs.extr e54 rfl) ?_
      intro u59 e59
      refine HL.one (HO.alloc zr31 ?_)
      intro hk1 wk1
      intro u11 e11
      refine HL.zero (HO.storeAll sz31 e11 e58 (encD_one d) wk1.new (encD_len _) (by simp) ?_)
      intro hk2 wk2
      refine HL.still (Runs.assign e59) ?_
      intro u12 e12
      refine HL.nil ?_
      have Ek : Ext hj hk2 := wk1.ext.wr wk2 (Nat.le_refl _)
      have zj := Xj.size
      have zk := Ek.size
      have hXk : Ext h hk2 := (hXi.ex2 Xj (Nat.le_refl _) (by omega) (by omega)).ext Ek (Nat.le_refl _)
      have Sk : Sto (fun j => j ≠ y ∧ (j ≠ gi ∨ hi.size ≤ j)) hk2 s b room M' := (Sj.ext Ek).weaken fun j hj q => by
        rcases q with q | q
        · exact ⟨q.1, .inl q.2⟩
        · exact ⟨by omega, .inr q⟩
      have Rk : Rst (fun j => (j ≠ s ∧ j ≠ b) ∧ j ≠ gi) hk2 y room R := (Ri.keep Xj.size fun j hj q => Xj.old j hj q.1.1 q.1.2).ext Ek
      have kd11 : hk2[hj.size]? = some (.cells (encD d).toArray 31 (0, 0)) := wk2.new
      have q11 : u11 = .pointer (some ⟨hj.size, 0, none⟩) := e11
      have q12 : u12 = I64 e := e12
      -- region 12
      repeat refine HW.seq ?_
      refine HW.region ?_
      refine HL.still (Runs.move f8) ?_
      intro u61 e61
      refine HL.still (Runs.move f1) ?_
      intro u62 e62
      refine HL.still (Runs.move f9) ?_
      intro u63 e63
      refine HL.still (Runs.ixSl (o' := so + k) Try.underlying22 sz29 e62 e63 (by omega) (by omega) (by omega)) ?_
      intro u64 e64
      refine HL.still (Runs.load Try.underlying29 rfl e64 (hrow hk2 hXk).1) ?_
      intro u65 e65
      refine HL.one (HO.call Try.func19 bd19 nm19 (args2 e61 e65) rfl ((putRX_ch hk2 y room M R M' xs d e b1 c1 hrel hp Rk (hrow hk2 hXk).2 hle (by omega) (by omega) (by omega)).mono ?_))
      rintro _ hl1 ⟨rfl, R', hrel', Rl, Xl⟩
      intro u66 e66
      refine HL.still (Runs.move e66) ?_
      intro u60 e60
      refine HL.still (Runs.extr e60 rfl) ?_
      intro u67 e67
      refine HL.still (Runs.extr e60 rfl) ?_
      intro u68 e68
      refine HL.one (HO.alloc zr31 ?_)
      intro hm1 wm1
      intro u13 e13
      refine HL.zero (HO.storeAll sz31 e13 e67 (encD_one d) wm1.new (encD_len _) (by simp) ?_)
      intro hm2 wm2
      refine HL.still (Runs.assign e68) ?_
      intro u14 e14
      refine HL.nil ?_
      have Em : Ext hl1 hm2 := wm1.ext.wr wm2 (Nat.le_refl _)
      have zl := Xl.size
      have zm := Em.size
      have hgl : gi < hi.size ∨ xs.length = 0 := by
        rcases hgd with q | ⟨cur, _, q, _⟩
        · exact .inr q
        · exact .inl q
      have hXm : Ext h hm2 := (⟨Nat.le_trans hXk.size zl, fun j hj => (Xl.old j (by have := hXk.size; omega) (by omega)).trans (hXk.old j hj)⟩ : Ext h hl1).ext Em (Nat.le_refl _)
      have Sm : Sto (fun j => j ≠ y ∧ (j ≠ gi ∨ hi.size ≤ j)) hm2 s b room M' := (Sk.keep zl fun j hj q => Xl.old j hj q.1).ext Em
      have Rm : Rst (fun j => (j ≠ s ∧ j ≠ b) ∧ (j ≠ gi ∨ hi.size ≤ j)) hm2 y room R' := (Rl.ext Em).weaken fun j hj q => by
        rcases q with q | q
        · exact ⟨q.1, .inl q.2⟩
        · exact ⟨⟨by omega, by omega⟩, .inr (by omega)⟩
      have kd11m : hm2[hj.size]? = some (.cells (encD d).toArray 31 (0, 0)) := Em.keepE (Xl.keep kd11 (by omega))
      have kd13m : hm2[hl1.size]? = some (.cells (encD d).toArray 31 (0, 0)) := wm2.new
      have q13 : u13 = .pointer (some ⟨hl1.size, 0, none⟩) := e13
      have q14 : u14 = I64 e := e14
      have hgm : xs.length = 0 ∨ ∃ cur : List Value, ia = some ⟨gi, 0, none⟩ ∧ gi < hi.size ∧ hm2[gi]? = some (.cells cur.toArray 5 (0, 0)) ∧ xs.length ≤ cur.length := by
        rcases hgd with q | ⟨cur, q1, q2, q3, q4⟩
        · exact .inl q
        · exact .inr ⟨cur, q1, q2, (Em.old _ (by omega)).trans ((Xl.old _ (by omega) (by omega)).trans ((Ek.old _ (by omega)).trans ((Xj.old _ q2 (by omega) (by omega)).trans q3))), q4⟩
      -- what came in is written over
      -- region 13
      repeat refine HW.seq ?_
      refine HW.region ?_
      refine HL.still (Runs.assign rfl) ?_
      intro u15 e15
      refine HL.nil ?_
      clear e10 e11 e12 e13 e14
      repeat refine HW.seq ?_
      refine HW.mono (N := fun f v => f 1 = .slice (some ⟨sb, so, none⟩) l.length cap ∧ f 5 = .bool true ∧ f 7 = .pointer (some ⟨s, 0, none⟩) ∧ f 8 = .pointer (some ⟨y, 0, none⟩) ∧ f 9 = I64 k ∧ f 11 = .pointer (some ⟨hj.size, 0, none⟩) ∧ f 12 = I64 e ∧ f 13 = .pointer (some ⟨hl1.size, 0, none⟩) ∧ f 14 = I64 e ∧ ∃ g, u.size ≤ g ∧ (g < hi.size ∨ hm2 = v) ∧ ExB g hm2 v ∧ (g = gi ∨ hm2 = v)) ?_ ?_ (fun _ _ _ q => q) (fun _ _ q => q)
      · refine HW.block ?_
        refine HW.loop (fun n f v => ∃ j : Nat, j ≤ xs.length ∧ n = xs.length - j ∧ f 15 = I64 j ∧ f 10 = .slice ia xs.length ic ∧ (f 1 = .slice (some ⟨sb, so, none⟩) l.length cap ∧ f 5 = .bool true ∧ f 7 = .pointer (some ⟨s, 0, none⟩) ∧ f 8 = .pointer (some ⟨y, 0, none⟩) ∧ f 9 = I64 k ∧ f 11 = .pointer (some ⟨hj.size, 0, none⟩) ∧ f 12 = I64 e ∧ f 13 = .pointer (some ⟨hl1.size, 0, none⟩) ∧ f 14 = I64 e) ∧ ExB gi hm2 v ∧ (xs.length = 0 ∧ v = hm2 ∨ ∃ cur : List Value, ia = some ⟨gi, 0, none⟩ ∧ gi < hi.size ∧ v[gi]? = some (.cells cur.toArray 5 (0, 0)) ∧ xs.length ≤ cur.length)) _
          ⟨0, Nat.zero_le _, rfl, e15, q10, ⟨f1, f5, f7, f8, f9, q11, q12, q13, q14⟩, ExB.refl _ _, hgm.imp (fun q => ⟨q, rfl⟩) id⟩ ?_
        rintro n f v ⟨j, hj', hn, f15, f10, hfs, hXv, hcur⟩
        by_cases hjl : j < xs.length
        · obtain ⟨cur, rfl, hgl2, hcv, hcl⟩ : ∃ cur : List Value, ia = some ⟨gi, 0, none⟩ ∧ gi < hi.size ∧ v[gi]? = some (.cells cur.toArray 5 (0, 0)) ∧ xs.length ≤ cur.length := by
            rcases hcur with ⟨q, _⟩ | q
            · omega
            · exact q
          -- region 14
          repeat refine HW.seq ?_
          refine HW.region ?_
          refine HL.still (Runs.move f15) ?_
          intro u69 e69
          refine HL.still (Runs.move f10) ?_
          intro u70 e70
          refine HL.still (Runs.lenSl rfl Try.underlying29 e70) ?_
          intro u71 e71
          refine HL.still (Runs.lss e69 e71 rfl) ?_
          intro u72 e72
          refine HL.nil ?_
          repeat refine HW.seq ?_
          refine HW.yes ?_ ?_
          exact e72.trans (congrArg Value.bool (decide_eq_true (by omega)))
          refine HW.skip ?_
          repeat refine HW.seq ?_
          refine HW.block ?_
          -- region 16
          repeat refine HW.seq ?_
          refine HW.region ?_
          refine HL.still (Runs.move f10) ?_
          intro u75 e75
          refine HL.still (Runs.move f15) ?_
          intro u76 e76
          refine HL.still (Runs.ixSl (o' := 0 + j) Try.underlying29 sz5 e75 e76 (by omega) (by omega) (by omega)) ?_
          intro u77 e77
          refine HL.zero (HO.store (s := 1) sz5 e77 rfl rfl hcv (by omega) rfl ?_)
          intro hw ww
          refine HL.nil ?_
          -- region 15
          repeat refine HW.seq ?_
          refine HW.region ?_
          refine HL.still (Runs.move f15) ?_
          intro u73 e73
          refine HL.still (Runs.add e73 rfl (i64w (by omega))) ?_
          intro u74 e74
          refine HL.still (Runs.assign e74) ?_
          intro u15 e15
          refine HL.nil ?_
          exact ⟨xs.length - (j + 1), by omega, j + 1, by omega, rfl, e15, f10, hfs, hXv.trans (.of_wr ww), .inr ⟨_, rfl, hgl2, ww.new, by simp; omega⟩⟩
        · skip
          -- region 14
          repeat refine HW.seq ?_
          refine HW.region ?_
          refine HL.still (Runs.move f15) ?_
          intro u69 e69
          refine HL.still (Runs.move f10) ?_
          intro u70 e70
          refine HL.still (Runs.lenSl rfl Try.underlying29 e70) ?_
          intro u71 e71
          refine HL.still (Runs.lss e69 e71 rfl) ?_
          intro u72 e72
          refine HL.nil ?_
          repeat refine HW.seq ?_
          refine HW.no ?_ ?_
          exact e72.trans (congrArg Value.bool (decide_eq_false (by omega)))
          refine HW.exitHere ?_
          obtain ⟨t1, t2, t3, t4, t5, t6, t7, t8, t9⟩ := hfs
          rcases hcur with ⟨q, rfl⟩ | ⟨cur, _, q, _⟩
          · exact ⟨t1, t2, t3, t4, t5, t6, t7, t8, t9, gi, hgi, .inr rfl, hXv, .inl rfl⟩
          · exact ⟨t1, t2, t3, t4, t5, t6, t7, t8, t9, gi, hgi, .inl q, hXv, .inl rfl⟩
      clear e15 f1 f5 f7 f8 f9 q10 q11 q12 q13 q14
      rintro f v ⟨f1, f5, f7, f8, f9, f11, f12, f13, f14, g, hgu, hgs, hXv, hgg⟩
      have zv := hXv.size
      have same : ∀ j, j < hm2.size → (j ≠ gi ∨ hi.size ≤ j) → v[j]? = hm2[j]? := fun j hj q => by
        rcases hgg with rfl | rfl
        · rcases hgs with q2 | rfl
          · exact hXv.old j hj (by omega)
          · rfl
        · rfl
      have Sv : Sto (fun j => j ≠ y) v s b room M' := (Sm.keep zv fun j hj q => same j hj q.2).weaken fun _ _ q => q.1
      have Rv : Rst (fun j => j ≠ s ∧ j ≠ b) v y room R' := (Rm.keep zv fun j hj q => same j hj q.2).weaken fun _ _ q => q.1
      have hXv' : Ext h v := ⟨Nat.le_trans hXm.size zv, fun j hj => (same j (by have := hXm.size; omega) (.inl (by omega))).trans (hXm.old j hj)⟩
      have kd11 : v[hj.size]? = some (.cells (encD d).toArray 31 (0, 0)) := (same _ (lt_of_some kd11m) (.inr (by omega))).trans kd11m
      have kd13 : v[hl1.size]? = some (.cells (encD d).toArray 31 (0, 0)) := (same _ (lt_of_some kd13m) (.inr (by omega))).trans kd13m
      obtain ⟨D0, hD0⟩ : ∃ D0, D0 = shaD xs := ⟨_, rfl⟩
      have hD1 : (SHA xs).map B8 = encD D0 := by rw [hD0]; rfl
      clear hgm hgd hgl hXv hgg hgs same Sm Rm kd11m kd13m Sk Rk Si Ri Rl Sj
      -- got from both
      -- region 17
      repeat refine HW.seq ?_
      refine HW.region ?_
      refine HL.still (Runs.move f1) ?_
      intro u78 e78
      refine HL.still (Runs.move f9) ?_
      intro u79 e79
      refine HL.still (Runs.ixSl (o' := so + k) Try.underlying22 sz29 e78 e79 (by omega) (by omega) (by omega)) ?_
      intro u80 e80
      refine HL.still (Runs.load Try.underlying29 rfl e80 (hrow v hXv').1) ?_
      intro u81 e81
      refine HL.one (HO.call Try.func20 bd20 nm20 (args1 e81) rfl ((rsum_ch v xs b1 c1 (hrow v hXv').2 (by omega)).mono ?_))
      rintro _ hn1 ⟨rfl, Xn⟩
      intro u82 e82
      refine HL.one (HO.alloc zr31 ?_)
      intro hn2 wn2
      intro u16 e16
      refine HL.zero (HO.storeAll sz31 e16 e82 (one_map B8 (fun _ => rfl) _) wn2.new (by rw [List.length_map, SHA_len]) (by simp) ?_)
      intro hn3 wn3
      refine HL.nil ?_
      have En : Ext v hn3 := (Xn.ext wn2.ext (Nat.le_refl _)).wr wn3 (Xn.size)
      have zn := En.size
      have zn1 := Xn.size
      have Sn := Sv.ext En
      have Rn := Rv.ext En
      have hXn : Ext h hn3 := hXv'.ext En (Nat.le_refl _)
      have kd16 : hn3[hn1.size]? = some (.cells (encD D0).toArray 31 (0, 0)) := by rw [← hD1]; exact wn3.new
      have q16 : u16 = .pointer (some ⟨hn1.size, 0, none⟩) := e16
      have kd11n := En.keepE kd11
      have kd13n := En.keepE kd13
      obtain ⟨bs, hbs⟩ : ∃ bs, bs = (lookM M' D0).getD [] := ⟨_, rfl⟩
      obtain ⟨t3, ht3⟩ : ∃ t3, t3 = (lookM M' D0).isSome := ⟨_, rfl⟩
      -- region 18
      repeat refine HW.seq ?_
      refine HW.region ?_
      refine HL.still (Runs.move f7) ?_
      intro u84 e84
      refine HL.still (Runs.loadAgg Try.underlying31 rfl sz31 q16 (encD_len D0) (load_blk kd16)) ?_
      intro u85 e85
      refine HL.one (HO.call Try.func21 bd21 nm21 (args2 e84 e85) rfl ((getS_ch hn3 s b room M' D0 Sn (hG'.small hr1)).mono ?_))
      rintro _ ho ⟨ba, bc, rfl, Bb, Xo⟩
      intro u86 e86
      refine HL.still (Runs.move e86) ?_
      intro u83 e83
      refine HL.still (Runs.extr e83 rfl) ?_
      intro u87 e87
      refine HL.still (Runs.extr e83 rfl) ?_
      intro u88 e88
      refine HL.still (Runs.assign e87) ?_
      intro u17 e17
      refine HL.still (Runs.assign e88) ?_
      intro u18 e18
      refine HL.nil ?_
      rw [← hbs] at Bb
      have q17 : u17 = .slice ba bs.length bc := by rw [hbs]; exact e17
      have q18 : u18 = .bool t3 := by rw [ht3]; exact e18
      have zo := Xo.size
      have So' := Sn.ext Xo
      have Ro := Rn.ext Xo
      -- region 19
      repeat refine HW.seq ?_
      refine HW.region ?_
      refine HL.still (Runs.move f8) ?_
      intro u90 e90
      refine HL.still (Runs.loadAgg Try.underlying31 rfl sz31 q16 (encD_len D0) (load_blk (Xo.keepE kd16))) ?_
      intro u91 e91
      refine HL.one (HO.call Try.func22 bd22 nm22 (args2 e90 e91) rfl ((getRX_ch ho y room M' R' D0 hrel' Ro (by omega)).mono ?_))
      rintro _ hp1 ⟨ca, cc, rfl, hcb, hcc, Xp⟩
      intro u92 e92
      refine HL.still (Runs.move e92) ?_
      intro u89 e89
      refine HL.still (Runs.extr e89 rfl) ?_
      intro u93 e93
      refine HL.still (Runs.extr e89 rfl) ?_
      intro u94 e94
      refine HL.still (Runs.assign e93) ?_
      intro u19 e19
      refine HL.still (Runs.assign e94) ?_
      intro u20 e20
      refine HL.nil ?_
      rw [← hbs] at hcb hcc
      have q19 : u19 = .slice ca bs.length cc := by rw [hbs]; exact e19
      have q20 : u20 = .bool t3 := by rw [ht3]; exact e20
      have zp := Xp.size
      have Sp1 := So'.ext Xp
      have Rp := Ro.ext Xp
      have EnP : Ext hn3 hp1 := Xo.ext Xp (Nat.le_refl _)
      have hXp : Ext h hp1 := hXn.ext EnP (Nat.le_refl _)
      have kd11p := EnP.keepE kd11n
      have kd13p := EnP.keepE kd13n
      have kd16p := EnP.keepE kd16
      have Bp := Bb.ext Xp
      obtain ⟨ka, kc, ra, rc, rl, hy0, hK0, hkc, _, _, _, _, hKl, _, _⟩ := id Rp
      have hroomY : ∀ hh : Heap, Ext hp1 hh → cellH hh y 2 = some (I64 room) := fun hh X => by rw [cellH_of (X.keepE hy0)]; rfl
      clear e16 e17 e18 e19 e20
      -- region 20
      repeat refine HW.seq ?_
      refine HW.grow #[0, 0, 3, 7, 15, 15, 63, 127, 255, 511, 1023, 511, 2559, 8191, 16383, 32767, 65535, 65535, 262143, 524287, 1048575, 2097151, 2097151, 8388607, 2097151, 33554431, 67108863, 134217727, 268435455, 268435455, 1073741823, 268435455, 268435455, 8589934591, 17179869183, 34359738367, 68719476735, 137438953471, 274877906943, 137438953471, 1099511627775, 2199023255551, 4398046511103, 8796093022207, 17592186044415, 35184372088831, 17592186044415, 87960930222079, 228698418577407, 510173395288063, 1125899906842623, 2251799813685247] (fun a b => Ext a b) mixed (by kernel_rfl) (fun _ => Bel.refl _ _) (fun _ _ _ x y => Bel.ext x y (Nat.le_refl _)) ?_
      refine HM.still (fun _ => Bel.refl _ _) (fun f h K => Runs.loadAgg Try.underlying31 rfl sz31 ((K.keep (by kernel_rfl)).trans f11) (encD_len d) (load_blk (Bel.keepE K.grown kd11p))) ?_
      refine HM.still (fun _ => Bel.refl _ _) (fun f h K => Runs.loadAgg Try.underlying31 rfl sz31 ((K.keep (by kernel_rfl)).trans f13) (encD_len d) (load_blk (Bel.keepE K.grown kd13p))) ?_
      refine HM.still (fun _ => Bel.refl _ _) (fun f h K => Runs.neqBytes Try.underlying31 Try.underlying5 sz5 eg31 (K.at 0 95 rfl rfl) (K.at 1 96 rfl rfl) (t := false) d.2 d.2 (by simp)) ?_
      refine HM.still (fun _ => Bel.refl _ _) (fun f h K => Runs.move (K.at 2 97 rfl rfl)) ?_
      refine HM.stillG (fun _ => Bel.refl _ _) rfl rfl rfl (fun f h K => K.at 3 98 rfl rfl) (fun f h K => Runs.move ((K.keep (by kernel_rfl)).trans f12)) ?_
      refine HM.stillG (fun _ => Bel.refl _ _) rfl rfl rfl (fun f h K => K.at 3 98 rfl rfl) (fun f h K => Runs.move ((K.keep (by kernel_rfl)).trans f14)) ?_
      refine HM.stillG (fun _ => Bel.refl _ _) rfl rfl rfl (fun f h K => K.at 3 98 rfl rfl) (fun f h K => Runs.neq (K.at 4 99 rfl rfl) (K.at 5 100 rfl rfl) (t := false) (by simp)) ?_
      refine HM.still (fun _ => Bel.refl _ _) (fun f h K => Runs.pick (K.at 3 98 rfl rfl) (K.at 6 101 rfl rfl)) ?_
      refine HM.still (fun _ => Bel.refl _ _) (fun f h K => Runs.move (K.at 7 102 rfl rfl)) ?_
      refine HM.stillG (fun _ => Bel.refl _ _) rfl rfl rfl (fun f h K => K.at 8 103 rfl rfl) (fun f h K => Runs.move ((K.keep (by kernel_rfl)).trans q17)) ?_
      refine HM.stillG (fun _ => Bel.refl _ _) rfl rfl rfl (fun f h K => K.at 8 103 rfl rfl) (fun f h K => Runs.toStrB Try.underlying29 Try.underlying5 Try.underlying9 (K.at 9 104 rfl rfl) rfl (Bp.byt.ext K.grown)) ?_
      refine HM.stillG (fun _ => Bel.refl _ _) rfl rfl rfl (fun f h K => K.at 8 103 rfl rfl) (fun f h K => Runs.move ((K.keep (by kernel_rfl)).trans q19)) ?_
      refine HM.stillG (fun _ => Bel.refl _ _) rfl rfl rfl (fun f h K => K.at 8 103 rfl rfl) (fun f h K => Runs.toStrB Try.underlying29 Try.underlying5 Try.underlying9 (K.at 11 106 rfl rfl) rfl (hcb.ext K.grown)) ?_
      refine HM.stillG (fun _ => Bel.refl _ _) rfl rfl rfl (fun f h K => K.at 8 103 rfl rfl) (fun f h K => Runs.neqS (K.at 10 105 rfl rfl) (K.at 12 107 rfl rfl) (t := false) (by simp)) ?_
      refine HM.still (fun _ => Bel.refl _ _) (fun f h K => Runs.pick (K.at 8 103 rfl rfl) (K.at 13 108 rfl rfl)) ?_
      refine HM.still (fun _ => Bel.refl _ _) (fun f h K => Runs.move (K.at 14 109 rfl rfl)) ?_
      refine HM.stillG (fun _ => Bel.refl _ _) rfl rfl rfl (fun f h K => K.at 15 110 rfl rfl) (fun f h K => Runs.move ((K.keep (by kernel_rfl)).trans q18)) ?_
      refine HM.stillG (fun _ => Bel.refl _ _) rfl rfl rfl (fun f h K => K.at 15 110 rfl rfl) (fun f h K => Runs.move ((K.keep (by kernel_rfl)).trans q20)) ?_
      refine HM.stillG (fun _ => Bel.refl _ _) rfl rfl rfl (fun f h K => K.at 15 110 rfl rfl) (fun f h K => Runs.neqB Try.underlying4 (K.at 16 111 rfl rfl) (K.at 17 112 rfl rfl) (b := false) (by simp)) ?_
      refine HM.still (fun _ => Bel.refl _ _) (fun f h K => Runs.pick (K.at 15 110 rfl rfl) (K.at 18 113 rfl rfl)) ?_
      refine HM.still (fun _ => Bel.refl _ _) (fun f h K => Runs.move (K.at 19 114 rfl rfl)) ?_
      refine HM.stillG (fun _ => Bel.refl _ _) rfl rfl rfl (fun f h K => K.at 20 115 rfl rfl) (fun f h K => Runs.move ((K.keep (by kernel_rfl)).trans f7)) ?_
      refine HM.stillG (fun _ => Bel.refl _ _) rfl rfl rfl (fun f h K => K.at 20 115 rfl rfl) (fun f h K => Runs.loadAgg Try.underlying31 rfl sz31 ((K.keep (by kernel_rfl)).trans q16) (encD_len D0) (load_blk (Bel.keepE K.grown kd16p))) ?_
      refine HM.oneG (fun x _ => x = _) (fun _ _ _ _ e => e) rfl rfl rfl (fun f h K => K.at 20 115 rfl rfl) (fun f h K => HO.call Try.func23 bd23 nm23 (args2 (K.at 21 116 rfl rfl) (K.at 22 117 rfl rfl)) rfl ((hasX_ch h s b room M' D0 t3 (Sp1.ext K.grown) ht3.symm).mono fun _ _ q => ⟨q.2, q.1⟩)) ?_
      refine HM.stillG (fun _ => Bel.refl _ _) rfl rfl rfl (fun f h K => K.at 20 115 rfl rfl) (fun f h K => Runs.move ((K.keep (by kernel_rfl)).trans q20)) ?_
      refine HM.stillG (fun _ => Bel.refl _ _) rfl rfl rfl (fun f h K => K.at 20 115 rfl rfl) (fun f h K => Runs.neqB Try.underlying4 (K.at 23 118 rfl rfl) (K.at 24 119 rfl rfl) (b := false) (by simp)) ?_
      refine HM.still (fun _ => Bel.refl _ _) (fun f h K => Runs.pick (K.at 20 115 rfl rfl) (K.at 25 120 rfl rfl)) ?_
      refine HM.still (fun _ => Bel.refl _ _) (fun f h K => Runs.move (K.at 26 121 rfl rfl)) ?_
      refine HM.stillG (fun _ => Bel.refl _ _) rfl rfl rfl (fun f h K => K.at 27 122 rfl rfl) (fun f h K => Runs.move ((K.keep (by kernel_rfl)).trans f7)) ?_
      refine HM.stillG (fun _ => Bel.refl _ _) rfl rfl rfl (fun f h K => K.at 27 122 rfl rfl) (fun f h K => Runs.loadAgg Try.underlying31 rfl sz31 ((K.keep (by kernel_rfl)).trans q16) (encD_len D0) (load_blk (Bel.keepE K.grown kd16p))) ?_
      refine HM.oneG (fun x _ => x = _) (fun _ _ _ _ e => e) rfl rfl rfl (fun f h K => K.at 27 122 rfl rfl) (fun f h K => HO.call Try.func24 bd24 nm24 (args2 (K.at 28 123 rfl rfl) (K.at 29 124 rfl rfl)) rfl ((sizeS_ch h s b room M' D0 (Sp1.ext K.grown)).mono fun _ _ q => ⟨q.2, q.1⟩)) ?_
      refine HM.stillG (fun _ => Bel.refl _ _) rfl rfl rfl (fun f h K => K.at 27 122 rfl rfl) (fun f h K => Runs.move ((K.keep (by kernel_rfl)).trans f8)) ?_
      refine HM.stillG (fun _ => Bel.refl _ _) rfl rfl rfl (fun f h K => K.at 27 122 rfl rfl) (fun f h K => Runs.loadAgg Try.underlying31 rfl sz31 ((K.keep (by kernel_rfl)).trans q16) (encD_len D0) (load_blk (Bel.keepE K.grown kd16p))) ?_
      refine HM.oneG (fun x _ => x = _) (fun _ _ _ _ e => e) rfl rfl rfl (fun f h K => K.at 27 122 rfl rfl) (fun f h K => HO.call Try.func25 bd25 nm25 (args2 (K.at 31 126 rfl rfl) (K.at 32 127 rfl rfl)) rfl ((sizeRX_ch h y room M' R' D0 hrel' (Rp.ext K.grown) (by omega)).mono fun _ _ q => ⟨q.2, q.1⟩)) ?_
      refine HM.stillG (fun _ => Bel.refl _ _) rfl rfl rfl (fun f h K => K.at 27 122 rfl rfl) (fun f h K => Runs.neq (K.at 30 125 rfl rfl) (K.at 33 128 rfl rfl) (t := false) (by simp)) ?_
      refine HM.still (fun _ => Bel.refl _ _) (fun f h K => Runs.pick (K.at 27 122 rfl rfl) (K.at 34 129 rfl rfl)) ?_
      refine HM.still (fun _ => Bel.refl _ _) (fun f h K => Runs.move (K.at 35 130 rfl rfl)) ?_
      refine HM.stillG (fun _ => Bel.refl _ _) rfl rfl rfl (fun f h K => K.at 36 131 rfl rfl) (fun f h K => Runs.move ((K.keep (by kernel_rfl)).trans f7)) ?_
      refine HM.oneG (fun x _ => x = _) (fun _ _ _ _ e => e) rfl rfl rfl (fun f h K => K.at 36 131 rfl rfl) (fun f h K => HO.call Try.func26 bd26 nm26 (args1 (K.at 37 132 rfl rfl)) rfl ((usedX_ch h s b room M' (tot M') (Sp1.ext K.grown) rfl).mono fun _ _ q => ⟨q.2, q.1⟩)) ?_
      refine HM.stillG (fun _ => Bel.refl _ _) rfl rfl rfl (fun f h K => K.at 36 131 rfl rfl) (fun f h K => Runs.move ((K.keep (by kernel_rfl)).trans f8)) ?_
      refine HM.oneG (fun x _ => x = _) (fun _ _ _ _ e => e) rfl rfl rfl (fun f h K => K.at 36 131 rfl rfl) (fun f h K => HO.call Try.func27 bd27 nm27 (args1 (K.at 39 134 rfl rfl)) rfl ((usedRX_ch h y room M' R' hrel' (Rp.ext K.grown) (by omega) (by omega)).mono fun _ _ q => ⟨q.2, q.1⟩)) ?_
      refine HM.stillG (fun _ => Bel.refl _ _) rfl rfl rfl (fun f h K => K.at 36 131 rfl rfl) (fun f h K => Runs.neq (K.at 38 133 rfl rfl) (K.at 40 135 rfl rfl) (t := false) (by simp)) ?_
      refine HM.still (fun _ => Bel.refl _ _) (fun f h K => Runs.pick (K.at 36 131 rfl rfl) (K.at 41 136 rfl rfl)) ?_
      refine HM.still (fun _ => Bel.refl _ _) (fun f h K => Runs.move (K.at 42 137 rfl rfl)) ?_
      refine HM.stillG (fun _ => Bel.refl _ _) rfl rfl rfl (fun f h K => K.at 43 138 rfl rfl) (fun f h K => Runs.move ((K.keep (by kernel_rfl)).trans f7)) ?_
      refine HM.oneG (fun x _ => x = _) (fun _ _ _ _ e => e) rfl rfl rfl (fun f h K => K.at 43 138 rfl rfl) (fun f h K => HO.call Try.func28 bd28 nm28 (args1 (K.at 44 139 rfl rfl)) rfl ((roomX_ch h s b room M' (Sp1.ext K.grown)).mono fun _ _ q => ⟨q.2, q.1⟩)) ?_
      refine HM.stillG (fun _ => Bel.refl _ _) rfl rfl rfl (fun f h K => K.at 43 138 rfl rfl) (fun f h K => Runs.move ((K.keep (by kernel_rfl)).trans f8)) ?_
      refine HM.stillG (fun _ => Bel.refl _ _) rfl rfl rfl (fun f h K => K.at 43 138 rfl rfl) (fun f h K => Runs.nilc (K.at 46 141 rfl rfl)) ?_
      refine HM.stillG (fun _ => Bel.refl _ _) rfl rfl rfl (fun f h K => K.at 43 138 rfl rfl) (fun f h K => Runs.fld (o' := 2) Try.underlying43 rfl sz3 (by decide) (K.at 47 142 rfl rfl) (by rfl)) ?_
      refine HM.stillG (fun _ => Bel.refl _ _) rfl rfl rfl (fun f h K => K.at 43 138 rfl rfl) (fun f h K => Runs.load Try.underlying3 rfl (K.at 48 143 rfl rfl) (hroomY h K.grown)) ?_
      refine HM.stillG (fun _ => Bel.refl _ _) rfl rfl rfl (fun f h K => K.at 43 138 rfl rfl) (fun f h K => Runs.neq (K.at 45 140 rfl rfl) (K.at 49 144 rfl rfl) (t := false) (by simp)) ?_
      refine HM.still (fun _ => Bel.refl _ _) (fun f h K => Runs.pick (K.at 43 138 rfl rfl) (K.at 50 145 rfl rfl)) ?_
      intro f' hq hRq V O
      have hEq : Ext hp1 hq := hRq
      have g146 : f' 146 = .bool false := last_at V 51 146 rfl
      have x1 := (last_keep O (s := 1) (by kernel_rfl)).trans f1
      have x5 := (last_keep O (s := 5) (by kernel_rfl)).trans f5
      have x7 := (last_keep O (s := 7) (by kernel_rfl)).trans f7
      have x8 := (last_keep O (s := 8) (by kernel_rfl)).trans f8
      have x9 := (last_keep O (s := 9) (by kernel_rfl)).trans f9
      have x17 := (last_keep O (s := 17) (by kernel_rfl)).trans q17
      clear V O f1 f5 f7 f8 f9 q17
      refine HW.no g146 ?_
      refine HW.skip ?_
      have zq := hEq.size
      have Sq := Sp1.ext hEq
      have Rq := Rp.ext hEq
      have Bq := Bp.ext hEq
      have hXq : Ext h hq := hXp.ext hEq (Nat.le_refl _)
      obtain ⟨gb, hgbu, hgbd⟩ : ∃ g, hn3.size ≤ g ∧ (bs.length = 0 ∨ ∃ cur : List Value, ba = some ⟨g, 0, none⟩ ∧ g < ho.size ∧ hq[g]? = some (.cells cur.toArray 5 (0, 0)) ∧ bs.length ≤ cur.length) := by
        rcases Bb.blk with q | ⟨g, q, q1, q2⟩
        · refine ⟨hn3.size, Nat.le_refl _, .inl ?_⟩
          have := Bb.byt
          rw [q] at this
          rcases this with w | ⟨_, _, w, _⟩
          · rw [w]; rfl
          · cases w
        · subst q
          obtain ⟨cur, w1, w2, _⟩ := Bq.blkAt
          exact ⟨g, q1, .inr ⟨cur, rfl, q2, w1, by rw [w2]; exact Bq.2⟩⟩
      have Sq2 : Sto (fun j => j ≠ y ∧ (j ≠ gb ∨ ho.size ≤ j)) hq s b room M' := (Sn.weaken fun j hj q => (⟨q, .inl (by omega)⟩ : j ≠ y ∧ (j ≠ gb ∨ ho.size ≤ j))).ext (EnP.ext hEq (Nat.le_refl _))
      have Rq2 : Rst (fun j => (j ≠ s ∧ j ≠ b) ∧ (j ≠ gb ∨ ho.size ≤ j)) hq y room R' := (Rn.weaken fun j hj q => (⟨q, .inl (by omega)⟩ : (j ≠ s ∧ j ≠ b) ∧ (j ≠ gb ∨ ho.size ≤ j))).ext (EnP.ext hEq (Nat.le_refl _))
      -- what was got is written over
      -- region 22
      repeat refine HW.seq ?_
      refine HW.region ?_
      refine HL.still (Runs.assign rfl) ?_
      intro u21 e21
      refine HL.nil ?_
      repeat refine HW.seq ?_
      refine HW.mono (N := fun f v => f 1 = .slice (some ⟨sb, so, none⟩) l.length cap ∧ f 5 = .bool true ∧ f 7 = .pointer (some ⟨s, 0, none⟩) ∧ f 8 = .pointer (some ⟨y, 0, none⟩) ∧ f 9 = I64 k ∧ ExB gb hq v ∧ (v = hq ∨ gb < ho.size)) ?_ ?_ (fun _ _ _ q => q) (fun _ _ q => q)
      · refine HW.block ?_
        refine HW.loop (fun n f v => ∃ j : Nat, j ≤ bs.length ∧ n = bs.length - j ∧ f 21 = I64 j ∧ f 17 = .slice ba bs.length bc ∧ (f 1 = .slice (some ⟨sb, so, none⟩) l.length cap ∧ f 5 = .bool true ∧ f 7 = .pointer (some ⟨s, 0, none⟩) ∧ f 8 = .pointer (some ⟨y, 0, none⟩) ∧ f 9 = I64 k) ∧ ExB gb hq v ∧ (bs.length = 0 ∧ v = hq ∨ ∃ cur : List Value, ba = some ⟨gb, 0, none⟩ ∧ gb < ho.size ∧ v[gb]? = some (.cells cur.toArray 5 (0, 0)) ∧ bs.length ≤ cur.length)) _
          ⟨0, Nat.zero_le _, rfl, e21, x17, ⟨x1, x5, x7, x8, x9⟩, ExB.refl _ _, hgbd.imp (fun q => ⟨q, rfl⟩) id⟩ ?_
        rintro n f v2 ⟨j, hj', hn, f21, f17, hfs, hXv2, hcur⟩
        by_cases hjl : j < bs.length
        · obtain ⟨cur, rfl, hgl2, hcv, hcl⟩ : ∃ cur : List Value, ba = some ⟨gb, 0, none⟩ ∧ gb < ho.size ∧ v2[gb]? = some (.cells cur.toArray 5 (0, 0)) ∧ bs.length ≤ cur.length := by
            rcases hcur with ⟨q, _⟩ | q
            · omega
            · exact q
          have hbsl : bs.length < 4611686018427387904 := by
            have : bs.length ≤ 140737488355328 := by
              rw [hbs]
              cases hq2 : lookM M' D0 with
              | none => exact Nat.zero_le _
              | some w => exact hG'.small hr1 _ ((lookM_iff hG'.nodup _ _).1 hq2)
            omega
          -- region 23
          repeat refine HW.seq ?_
          refine HW.region ?_
          refine HL.still (Runs.move f21) ?_
          intro u147 e147
          refine HL.still (Runs.move f17) ?_
          intro u148 e148
          refine HL.still (Runs.lenSl rfl Try.underlying29 e148) ?_
          intro u149 e149
          refine HL.still (Runs.lss e147 e149 rfl) ?_
          intro u150 e150
          refine HL.nil ?_
          repeat refine HW.seq ?_
          refine HW.yes ?_ ?_
          exact e150.trans (congrArg Value.bool (decide_eq_true (by omega)))
          refine HW.skip ?_
          repeat refine HW.seq ?_
          refine HW.block ?_
          -- region 25
          repeat refine HW.seq ?_
          refine HW.region ?_
          refine HL.still (Runs.move f17) ?_
          intro u153 e153
          refine HL.still (Runs.move f21) ?_
          intro u154 e154
          refine HL.still (Runs.ixSl (o' := 0 + j) Try.underlying29 sz5 e153 e154 (by omega) (by omega) (by omega)) ?_
          intro u155 e155
          refine HL.zero (HO.store (s := 1) sz5 e155 rfl rfl hcv (by omega) rfl ?_)
          intro hw ww
          refine HL.nil ?_
          -- region 24
          repeat refine HW.seq ?_
          refine HW.region ?_
          refine HL.still (Runs.move f21) ?_
          intro u151 e151
          refine HL.still (Runs.add e151 rfl (i64w (by omega))) ?_
          intro u152 e152
          refine HL.still (Runs.assign e152) ?_
          intro u21 e21
          refine HL.nil ?_
          exact ⟨bs.length - (j + 1), by omega, j + 1, by omega, rfl, e21, f17, hfs, hXv2.trans (.of_wr ww), .inr ⟨_, rfl, hgl2, ww.new, by simp; omega⟩⟩
        · skip
          -- region 23
          repeat refine HW.seq ?_
          refine HW.region ?_
          refine HL.still (Runs.move f21) ?_
          intro u147 e147
          refine HL.still (Runs.move f17) ?_
          intro u148 e148
          refine HL.still (Runs.lenSl rfl Try.underlying29 e148) ?_
          intro u149 e149
          refine HL.still (Runs.lss e147 e149 rfl) ?_
          intro u150 e150
          refine HL.nil ?_
          repeat refine HW.seq ?_
          refine HW.no ?_ ?_
          exact e150.trans (congrArg Value.bool (decide_eq_false (by omega)))
          refine HW.exitHere ?_
          obtain ⟨t1, t2, t4, t5, t6⟩ := hfs
          rcases hcur with ⟨q, rfl⟩ | ⟨cur, _, q, _⟩
          · exact ⟨t1, t2, t4, t5, t6, hXv2, .inl rfl⟩
          · exact ⟨t1, t2, t4, t5, t6, hXv2, .inr q⟩
      clear e21 x1 x5 x7 x8 x9 x17 hgbd f11 f12 f13 f14 q16 q18 q19 q20 g146
      rintro f v2 ⟨f1, f5, f7, f8, f9, hXv2, hgl⟩
      have zv2 := hXv2.size
      have same2 : ∀ j, j < hq.size → (j ≠ gb ∨ ho.size ≤ j) → v2[j]? = hq[j]? := fun j hj q => by
        rcases hgl with rfl | q2
        · rfl
        · exact hXv2.old j hj (by omega)
      have Sw : Sto (fun j => j ≠ y) v2 s b room M' := (Sq2.keep zv2 fun j hj q => same2 j hj q.2).weaken fun _ _ q => q.1
      have Rw : Rst (fun j => j ≠ s ∧ j ≠ b) v2 y room R' := (Rq2.keep zv2 fun j hj q => same2 j hj q.2).weaken fun _ _ q => q.1
      have hXw : Ext h v2 := ⟨Nat.le_trans hXq.size zv2, fun j hj => (same2 j (by have := hXq.size; omega) (.inl (by omega))).trans (hXq.old j hj)⟩
      clear Sq2 Rq2 same2 hXv2 hy0 hK0 hKl hkc
      -- the keys
      -- region 26
      repeat refine HW.seq ?_
      refine HW.region ?_
      refine HL.still (Runs.move f7) ?_
      intro u156 e156
      refine HL.one (HO.call Try.func29 bd29 nm29 (args1 e156) rfl ((keysS_ch v2 s b room M' Sw (by omega)).mono ?_))
      rintro _ hx1 ⟨ka2, kc2, ks, rfl, Dk, kp, kq, Xx⟩
      intro u157 e157
      refine HL.still (Runs.assign e157) ?_
      intro u22 e22
      refine HL.nil ?_
      have hri := keys_rise hG' kp kq
      have hksl : ks.length = M'.length := by rw [kp.length_eq, List.length_map]
      have zx := Xx.size
      have Sx := Sw.ext Xx
      have Rx := Rw.ext Xx
      have hXx : Ext h hx1 := hXw.ext Xx (Nat.le_refl _)
      obtain ⟨ka, kc, ra, rc, rl, hy0, hK0, _⟩ := id Rx
      have hks : ks = R'.map (·.1) := rises_unique hri hrel'.rises (kp.trans (hrel'.perm.map _).symm)
      have q22 : u22 = .slice ka2 ks.length kc2 := e22
      -- region 27
      repeat refine HW.seq ?_
      refine HW.region ?_
      refine HL.still (Runs.move q22) ?_
      intro u158 e158
      refine HL.still (Runs.move f8) ?_
      intro u159 e159
      refine HL.still (Runs.nilc e159) ?_
      intro u160 e160
      refine HL.still (Runs.fld (o' := 0) Try.underlying43 rfl sz41 (by decide) e160 (by rfl)) ?_
      intro u161 e161
      refine HL.still (Runs.load Try.underlying41 rfl e161 (by rw [cellH_of hy0]; rfl)) ?_
      intro u162 e162
      refine HL.one (HO.call Try.func30 bd30 nm30 (args2 e158 e162) rfl ((keys_ch hx1 ks (R'.map (·.1)) ka2 ka _ _ kc2 kc rfl (by rw [List.length_map]) Dk.dgs hK0 (by omega) (by rw [List.length_map, hrel'.len]; omega)).mono ?_))
      rintro _ hx2 ⟨rfl, hhx⟩
      intro u163 e163
      refine HL.still (Runs.notb (t := true) (u := false) (e163.trans (congrArg Value.bool (by rw [hks]; simp))) rfl) ?_
      intro u164 e164
      refine HL.nil ?_
      rw [hhx]
      refine HW.no e164 ?_
      refine HW.skip ?_
      obtain ⟨gk, hgku, hgkd⟩ : ∃ g, v2.size ≤ g ∧ (ks.length = 0 ∨ ∃ cur : List Value, ka2 = some ⟨g, 0, none⟩ ∧ g < hx1.size ∧ hx1[g]? = some (.cells cur.toArray 31 (0, 0)) ∧ ks.length * 32 ≤ cur.length) := by
        rcases Dk.blk with ⟨q, w⟩ | ⟨g, q, q1, q2⟩
        · exact ⟨v2.size, Nat.le_refl _, .inl (by rw [w]; rfl)⟩
        · subst q
          obtain ⟨cur, w1, w2, _⟩ := Dk.blkAt
          exact ⟨g, q1, .inr ⟨cur, rfl, q2, w1, by rw [w2]; exact Nat.mul_le_mul_right _ Dk.2⟩⟩
      have Sx2 : Sto (fun j => j ≠ y ∧ j ≠ gk) hx1 s b room M' := (Sw.weaken fun j hj q => (⟨q, by omega⟩ : j ≠ y ∧ j ≠ gk)).ext Xx
      have Rx2 : Rst (fun j => (j ≠ s ∧ j ≠ b) ∧ j ≠ gk) hx1 y room R' := (Rw.weaken fun j hj q => (⟨q, by omega⟩ : (j ≠ s ∧ j ≠ b) ∧ j ≠ gk)).ext Xx
      have zw := hXw.size
      -- the keys are written over
      -- region 29
      repeat refine HW.seq ?_
      refine HW.region ?_
      refine HL.still (Runs.assign rfl) ?_
      intro u23 e23
      refine HL.nil ?_
      repeat refine HW.seq ?_
      refine HW.block ?_
      refine HW.loop (fun n f v => ∃ j : Nat, j ≤ ks.length ∧ n = ks.length - j ∧ f 23 = I64 j ∧ f 22 = .slice ka2 ks.length kc2 ∧ (f 1 = .slice (some ⟨sb, so, none⟩) l.length cap ∧ f 5 = .bool true ∧ f 7 = .pointer (some ⟨s, 0, none⟩) ∧ f 8 = .pointer (some ⟨y, 0, none⟩) ∧ f 9 = I64 k) ∧ ExB gk hx1 v ∧ (ks.length = 0 ∧ v = hx1 ∨ ∃ cur : List Value, ka2 = some ⟨gk, 0, none⟩ ∧ gk < hx1.size ∧ v[gk]? = some (.cells cur.toArray 31 (0, 0)) ∧ ks.length * 32 ≤ cur.length)) _
        ⟨0, Nat.zero_le _, rfl, e23, q22, ⟨f1, f5, f7, f8, f9⟩, ExB.refl _ _, hgkd.imp (fun q => ⟨q, rfl⟩) id⟩ ?_
      rintro n f v3 ⟨j, hj', hn, f23, f22, hfs, hXv3, hcur⟩
      by_cases hjl : j < ks.length
      · obtain ⟨cur, rfl, hgl2, hcv, hcl⟩ : ∃ cur : List Value, ka2 = some ⟨gk, 0, none⟩ ∧ gk < hx1.size ∧ v3[gk]? = some (.cells cur.toArray 31 (0, 0)) ∧ ks.length * 32 ≤ cur.length := by
          rcases hcur with ⟨q, _⟩ | q
          · omega
          · exact q
        -- region 30
        repeat refine HW.seq ?_
        refine HW.region ?_
        refine HL.still (Runs.move f23) ?_
        intro u165 e165
        refine HL.still (Runs.move f22) ?_
        intro u166 e166
        refine HL.still (Runs.lenSl rfl Try.underlying41 e166) ?_
        intro u167 e167
        refine HL.still (Runs.lss e165 e167 rfl) ?_
        intro u168 e168
        refine HL.nil ?_
        repeat refine HW.seq ?_
        refine HW.yes ?_ ?_
        exact e168.trans (congrArg Value.bool (decide_eq_true (by omega)))
        refine HW.skip ?_
        repeat refine HW.seq ?_
        refine HW.block ?_
        -- region 32
        repeat refine HW.seq ?_
        refine HW.region ?_
        refine HL.still (Runs.move f22) ?_
        intro u171 e171
        refine HL.still (Runs.move f23) ?_
        intro u172 e172
        refine HL.still (Runs.buildZ31) ?_
        intro u173 e173
        refine HL.still (Runs.ixSl (o' := 0 + j * 32) Try.underlying41 sz31 e171 e172 (by omega) (by omega) (by omega)) ?_
        intro u174 e174
        refine HL.zero (HO.storeAgg sz31 e174 e173 (one_map B8 (fun _ => rfl) _) hcv rfl (by omega) ?_)
        intro hw ww
        refine HL.nil ?_
        -- region 31
        repeat refine HW.seq ?_
        refine HW.region ?_
        refine HL.still (Runs.move f23) ?_
        intro u169 e169
        refine HL.still (Runs.add e169 rfl (i64w (by omega))) ?_
        intro u170 e170
        refine HL.still (Runs.assign e170) ?_
        intro u23 e23
        refine HL.nil ?_
        exact ⟨ks.length - (j + 1), by omega, j + 1, by omega, rfl, e23, f22, hfs, hXv3.trans (.of_wr ww), .inr ⟨_, rfl, hgl2, ww.new, by simp [zero32]; omega⟩⟩
      · skip
        -- region 30
        repeat refine HW.seq ?_
        refine HW.region ?_
        refine HL.still (Runs.move f23) ?_
        intro u165 e165
        refine HL.still (Runs.move f22) ?_
        intro u166 e166
        refine HL.still (Runs.lenSl rfl Try.underlying41 e166) ?_
        intro u167 e167
        refine HL.still (Runs.lss e165 e167 rfl) ?_
        intro u168 e168
        refine HL.nil ?_
        repeat refine HW.seq ?_
        refine HW.no ?_ ?_
        exact e168.trans (congrArg Value.bool (decide_eq_false (by omega)))
        refine HW.exitHere ?_
        obtain ⟨f1, f5, f7, f8, f9⟩ := hfs
        have zv3 := hXv3.size
        have hXh3 : Ext h v3 := ⟨Nat.le_trans hXx.size zv3, fun j hj => (hXv3.old j (by have := hXx.size; omega) (by omega)).trans (hXx.old j hj)⟩
        have S3' : Sto (fun j => j ≠ y) v3 s b room M' := (Sx2.keep zv3 fun j hj q => hXv3.old j hj q.2).weaken fun _ _ q => q.1
        have R3' : Rst (fun j => j ≠ s ∧ j ≠ b) v3 y room R' := (Rx2.keep zv3 fun j hj q => hXv3.old j hj q.2).weaken fun _ _ q => q.1
        -- region 9
        repeat refine HW.seq ?_
        refine HW.region ?_
        refine HL.still (Runs.move f9) ?_
        intro u46 e46
        refine HL.still (Runs.add e46 rfl (i64w (by omega))) ?_
        intro u47 e47
        refine HL.still (Runs.assign e47) ?_
        intro u9 e9
        refine HL.nil ?_
        exact ⟨l.length - (k + 1), hdec, k + 1, hlt, rfl, e9, f1, f5, f7, f8, hXh3, M', R', S3', R3', hrel', hG', htot'⟩
    · have hkl : k = l.length := by omega
      subst hkl
      -- region 8
      repeat refine HW.seq ?_
      refine HW.region ?_
      refine HL.still (Runs.move f9) ?_
      intro u42 e42
      refine HL.still (Runs.move f1) ?_
      intro u43 e43
      refine HL.still (Runs.lenSl rfl Try.underlying22 e43) ?_
      intro u44 e44
      refine HL.still (Runs.lss e42 e44 rfl) ?_
      intro u45 e45
      refine HL.nil ?_
      repeat refine HW.seq ?_
      refine HW.no ?_ ?_
      exact e45.trans (congrArg Value.bool (decide_eq_false (by omega)))
      refine HW.exitHere ?_
      -- region 33
      repeat refine HW.seq ?_
      refine HW.region ?_
      refine HL.still (Runs.move f5) ?_
      intro u175 e175
      refine HL.still (Runs.assign e175) ?_
      intro u4 e4
      refine HL.nil ?_
      refine HW.ret ?_
      exact RT.one rfl e4 ⟨rfl, hX⟩
end Go.Proofs.Ytklelhfgbjpifaa
