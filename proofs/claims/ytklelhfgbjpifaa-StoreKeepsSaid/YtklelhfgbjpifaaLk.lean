/- The law StoreKeeps, walked. -/
import Derived.Test.YtklelhfgbjpifaaSx4
namespace Go.Proofs.Ytklelhfgbjpifaa
set_option linter.unnecessarySimpa false
set_option linter.unusedSimpArgs false
set_option linter.unusedVariables false
open Go.RowKit
theorem put_cases {room : Int} {M M' : Blobs} {xs : List UInt8} {d : Dg} {e : Int} (hp : putO room M xs = (M', d, e)) :
    (e = 0 ∧ d = shaD xs ∧ ∃ v, lookM M' (shaD xs) = some v ∧ ((lookM M (shaD xs)).isSome = false → v = xs)) ∨ (e = 2 ∧ d = zD ∧ M' = M) := by
  unfold putO at hp
  by_cases h1 : (lookM M (shaD xs)).isSome = true
  · rw [if_pos h1] at hp
    cases hp
    left
    refine ⟨rfl, rfl, ?_⟩
    cases hq : lookM M (shaD xs) with
    | none => rw [hq] at h1; cases h1
    | some v => exact ⟨v, rfl, fun h => by cases h⟩
  · rw [if_neg h1] at hp
    by_cases h2 : (xs.length : Int) > room - tot M
    · rw [if_pos h2] at hp
      cases hp
      exact .inr ⟨rfl, rfl, rfl⟩
    · rw [if_neg h2] at hp
      cases hp
      left
      refine ⟨rfl, rfl, xs, ?_, fun _ => rfl⟩
      have hno : lookM M (shaD xs) = none := by
        cases hq : lookM M (shaD xs) with
        | none => rfl
        | some v => rw [hq] at h1; exact absurd rfl h1
      unfold lookM at hno ⊢
      rw [List.find?_append]
      rw [Option.map_eq_none_iff] at hno
      rw [hno]
      simp
theorem put_keeps {room : Int} {M M' : Blobs} {xs : List UInt8} {d : Dg} {e : Int} (hp : putO room M xs = (M', d, e)) {x : Dg} (h : x ∈ M.map (·.1)) : x ∈ M'.map (·.1) := by
  unfold putO at hp
  split at hp
  · cases hp; exact h
  · split at hp
    · cases hp; exact h
    · cases hp
      rw [List.map_append]
      exact List.mem_append.2 (.inl h)
/-- What is got by a digest has it. -/
theorem Good.got {room : Int} {M : Blobs} {k : Nat} (hG : Good room M k) {x : Dg} (h : x ∈ M.map (·.1)) : ∃ v, lookM M x = some v ∧ x = shaD v ∧ v.length ≤ tot M := by
  have := lookM_mem h
  cases hq : lookM M x with
  | none => rw [hq] at this; cases this
  | some v =>
    have hm := (lookM_iff hG.nodup x v).1 hq
    exact ⟨v, rfl, hG.own _ hm, mem_tot hm⟩
set_option maxRecDepth 10000 in
set_option maxHeartbeats 1000000 in
theorem lawKeeps_ch (h : Heap) (r : Int) (l : List (Option Addr × Nat × List UInt8)) (a : Option Addr) (cap : Nat) (hB : Byts h a l) (hl : l.length ≤ maxLen) (hz : ∀ x ∈ l, x.2.2.length ≤ 140737488355328) :
    CH Try.prog 4 #[I64 r, .slice a l.length cap] h fun v h' => v = .bool true ∧ Ext h h' := by
  refine CH.of_body Try.func4 rfl rfl rfl ?_
  intro f hf
  have p0 : f 0 = I64 r := by rw [hf]; exact fr0_at rfl
  have p1 : f 1 = .slice a l.length cap := by rw [hf]; exact fr0_at rfl
  -- region 0
  repeat refine HW.seq ?_
  refine HW.region ?_
  refine HL.still (Runs.assign rfl) ?_
  intro u4 e4
  refine HL.nil ?_
  -- region 1
  repeat refine HW.seq ?_
  refine HW.region ?_
  refine HL.one (HO.call Try.func14 bd14 nm14 (args0) rfl ((small_ch h).mono ?_))
  rintro _ h1 ⟨rfl, X1⟩
  intro u19 e19
  refine HL.still (Runs.assign e19) ?_
  intro u5 e5
  refine HL.nil ?_
  -- region 2
  repeat refine HW.seq ?_
  refine HW.region ?_
  refine HL.still (Runs.move p1) ?_
  intro u20 e20
  refine HL.one (HO.call Try.func15 bd15 nm15 (args1 e20) rfl ((few_ch h1 l a l.length cap rfl (hB.ext X1) hl hz).mono ?_))
  rintro _ h2 ⟨rfl, rfl⟩
  intro u21 e21
  refine HL.still (Runs.assign e21) ?_
  intro u6 e6
  refine HL.nil ?_
  -- region 3
  repeat refine HW.seq ?_
  refine HW.region ?_
  refine HL.still (Runs.move p0) ?_
  intro u22 e22
  refine HL.one (HO.call Try.func16 bd16 nm16 (args1 e22) rfl ((newS_ch h2 r).mono ?_))
  rintro _ h3 ⟨rfl, S3, X3⟩
  intro u23 e23
  refine HL.still (Runs.assign e23) ?_
  intro u7 e7
  refine HL.nil ?_
  have XA : Ext h h3 := X1.ext X3 (Nat.le_refl _)
  have z1 := X1.size
  have g5 : u5 = .bool true := e5
  obtain ⟨s, hs⟩ : ∃ s, s = h2.size + 1 := ⟨_, rfl⟩
  obtain ⟨b, hb⟩ : ∃ b, b = h2.size := ⟨_, rfl⟩
  rw [← hb] at S3 hs e7
  rw [← hs] at S3 e7
  obtain ⟨room, hroom⟩ : ∃ room, room = roomO r := ⟨_, rfl⟩
  have hr0 := roomO_0 r
  have hr1 := roomO_top r
  rw [← hroom] at S3 hr0 hr1
  have S3 : Sto (fun _ => True) h3 s b room [] := S3.weaken fun _ _ _ => trivial
  cases hfew : fewO l with
  | false =>
    have g6 : u6 = .bool false := e6.trans (congrArg Value.bool hfew)
    -- region 4
    repeat refine HW.seq ?_
    refine HW.region ?_
    refine HL.still (Runs.move e7) ?_
    intro u24 e24
    refine HL.still (Runs.eqNil Try.underlying25 e24 rfl) ?_
    intro u25 e25
    refine HL.still (Runs.move e25) ?_
    intro u26 e26
    refine HL.stillG rfl rfl e26 (Runs.move g6) ?_
    intro u27 e27
    refine HL.stillG rfl rfl e26 (Runs.notb e27 (t := false) (u := true) rfl) ?_
    intro u28 e28
    refine HL.still (Runs.pick e26 e28) ?_
    intro u29 e29
    refine HL.nil ?_
    refine HW.yes e29 ?_
    -- region 5
    repeat refine HW.seq ?_
    refine HW.region ?_
    refine HL.still (Runs.move g5) ?_
    intro u30 e30
    refine HL.still (Runs.move e30) ?_
    intro u31 e31
    refine HL.stillG rfl rfl e31 (Runs.move e7) ?_
    intro u32 e32
    refine HL.stillG rfl rfl e31 (Runs.neqNil Try.underlying25 e32 rfl) ?_
    intro u33 e33
    refine HL.still (Runs.pick e31 e33) ?_
    intro u34 e34
    refine HL.still (Runs.assign e34) ?_
    intro u4 e4
    refine HL.nil ?_
    refine HW.ret ?_
    exact RT.one rfl e4 ⟨rfl, XA⟩
  | true =>
    obtain ⟨h40, h2000⟩ := few_of hfew
    have g6 : u6 = .bool true := e6.trans (congrArg Value.bool hfew)
    -- region 4
    repeat refine HW.seq ?_
    refine HW.region ?_
    refine HL.still (Runs.move e7) ?_
    intro u24 e24
    refine HL.still (Runs.eqNil Try.underlying25 e24 rfl) ?_
    intro u25 e25
    refine HL.still (Runs.move e25) ?_
    intro u26 e26
    refine HL.stillG rfl rfl e26 (Runs.move g6) ?_
    intro u27 e27
    refine HL.stillG rfl rfl e26 (Runs.notb e27 (t := true) (u := false) rfl) ?_
    intro u28 e28
    refine HL.still (Runs.pick e26 e28) ?_
    intro u29 e29
    refine HL.nil ?_
    refine HW.no e29 ?_
    refine HW.skip ?_
    -- region 6
    repeat refine HW.seq ?_
    refine HW.region ?_
    refine HL.still (Runs.assign rfl) ?_
    intro u8 e8
    refine HL.nil ?_
    repeat refine HW.seq ?_
    refine HW.block ?_
    refine HW.loop (fun m f u => ∃ k : Nat, k ≤ l.length ∧ m = l.length - k ∧ f 8 = I64 k ∧ f 1 = .slice a l.length cap ∧ f 5 = .bool true ∧ f 7 = .pointer (some ⟨s, 0, none⟩) ∧ Ext h u ∧ ∃ M, Sto (fun _ => True) u s b room M ∧ Good room M k) l.length
      ⟨0, Nat.zero_le _, rfl, e8, p1, g5, e7, XA, [], S3, Good.nil hr0⟩ ?_
    clear e4 e5 e6 e7 e8 g5 g6
    rintro m f u ⟨k, hk, hm, f8, f1, f5, f7, hX, M, hS, hG⟩
    by_cases hlt : k < l.length
    · obtain ⟨sb, so, hsa, b1, c1, xs, hx, hcell, hby, hle⟩ := (hB.ext hX).at hlt
      have hxl := lens_mem hx
      obtain ⟨M', d, e, hp⟩ : ∃ M' d e, putO room M xs = (M', d, e) := ⟨_, _, _, rfl⟩
      have hG' : Good room M' (k + 1) := by have := hG.put xs; rw [hp] at this; exact this
      have hMl := hG.len
      have hMl' := hG'.len
      have hu := hX.size
      subst hsa
      -- region 7
      repeat refine HW.seq ?_
      refine HW.region ?_
      refine HL.still (Runs.move f8) ?_
      intro u35 e35
      refine HL.still (Runs.move f1) ?_
      intro u36 e36
      refine HL.still (Runs.lenSl rfl Try.underlying22 e36) ?_
      intro u37 e37
      refine HL.still (Runs.lss e35 e37 rfl) ?_
      intro u38 e38
      refine HL.nil ?_
      repeat refine HW.seq ?_
      refine HW.yes ?_ ?_
      exact e38.trans (congrArg Value.bool (decide_eq_true (by omega)))
      refine HW.skip ?_
      repeat refine HW.seq ?_
      refine HW.block ?_
      -- region 9
      repeat refine HW.seq ?_
      refine HW.region ?_
      refine HL.still (Runs.move f7) ?_
      intro u41 e41
      refine HL.one (HO.call Try.func29 bd29 nm29 (args1 e41) rfl ((keysS_ch u s b room M hS (by omega)).mono ?_))
      rintro _ ha ⟨ka, kc, ks, rfl, D, kp, kq, Xa⟩
      intro u42 e42
      refine HL.still (Runs.assign e42) ?_
      intro u9 e9
      refine HL.nil ?_
      have hksl : ks.length = M.length := by rw [kp.length_eq, List.length_map]
      have hin : ∀ x ∈ ks, x ∈ M.map (·.1) := fun x hx => kp.mem_iff.1 hx
      have za := Xa.size
      have Sa := hS.ext Xa
      -- region 10
      repeat refine HW.seq ?_
      refine HW.region ?_
      refine HL.still (Runs.move f7) ?_
      intro u43 e43
      refine HL.one (HO.call Try.func26 bd26 nm26 (args1 e43) rfl ((usedX_ch ha s b room M (tot M) Sa rfl).mono ?_))
      rintro _ hb1 ⟨rfl, Xb⟩
      intro u44 e44
      refine HL.still (Runs.assign e44) ?_
      intro u10 e10
      refine HL.nil ?_
      have zb := Xb.size
      have hEb : Ext u hb1 := Xa.ext Xb (Nat.le_refl _)
      have hcb : cellH hb1 sb (so + k) = some (.slice b1 xs.length c1) := by rw [cellH_keep (Bel.old hEb sb (lt_of_cellH hcell))]; exact hcell
      obtain ⟨t2, ht2⟩ : ∃ t2, t2 = (lookM M (shaD xs)).isSome := ⟨_, rfl⟩
      -- region 11
      repeat refine HW.seq ?_
      refine HW.region ?_
      refine HL.still (Runs.move f7) ?_
      intro u45 e45
      refine HL.still (Runs.move f1) ?_
      intro u46 e46
      refine HL.still (Runs.move f8) ?_
      intro u47 e47
      refine HL.still (Runs.ixSl (o' := so + k) Try.underlying22 sz29 e46 e47 (by omega) (by omega) (by omega)) ?_
      intro u48 e48
      refine HL.still (Runs.load Try.underlying29 rfl e48 hcb) ?_
      intro u49 e49
      refine HL.one (HO.call Try.func31 bd31 nm31 (args1 e49) rfl ((of_ch hb1 xs b1 c1 (hby.ext hEb) hle (by omega)).mono ?_))
      rintro _ hc1 ⟨rfl, Xc1⟩
      intro u50 e50
      refine HL.one (HO.call Try.func23 bd23 nm23 (args2 e45 e50) rfl ((hasX_ch hc1 s b room M (shaD xs) t2 ((Sa.ext Xb).ext Xc1) ht2.symm).mono ?_))
      rintro _ hc ⟨rfl, Xc2⟩
      intro u51 e51
      refine HL.still (Runs.assign e51) ?_
      intro u11 e11
      refine HL.nil ?_
      have hEc : Ext u hc := (hEb.ext Xc1 (Nat.le_refl _)).ext Xc2 (Nat.le_refl _)
      have zc := hEc.size
      have zc1 := Xc1.size
      have zc2 := Xc2.size
      have hcc : cellH hc sb (so + k) = some (.slice b1 xs.length c1) := by rw [cellH_keep (Bel.old hEc sb (lt_of_cellH hcell))]; exact hcell
      have Dc : Dgs hc ka ks := ((D.dgs.ext Xb).ext Xc1).ext Xc2
      have q9 : u9 = .slice ka ks.length kc := e9
      have q10 : u10 = I64 (tot M) := e10
      have q11 : u11 = .bool t2 := e11
      -- region 12
      repeat refine HW.seq ?_
      refine HW.region ?_
      refine HL.still (Runs.move f7) ?_
      intro u53 e53
      refine HL.still (Runs.move f1) ?_
      intro u54 e54
      refine HL.still (Runs.move f8) ?_
      intro u55 e55
      refine HL.still (Runs.ixSl (o' := so + k) Try.underlying22 sz29 e54 e55 (by omega) (by omega) (by omega)) ?_
      intro u56 e56
      refine HL.still (Runs.load Try.underlying29 rfl e56 hcc) ?_
      intro u57 e57
      refine HL.one (HO.call Try.func18 bd18 nm18 (args2 e53 e57) rfl ((putX_ch hc s b room M M' xs d e b1 c1 hp (hS.ext hEc) (hby.ext hEc) hle (by omega) hr1 hr0 hG.fits).mono ?_))
      rintro _ hd ⟨rfl, Sd, Xd⟩
      intro u58 e58
      refine HL.still (Runs.move e58) ?_
      intro u52 e52
      refine HL.still (Runs.extr e52 rfl) ?_
      intro u59 e59
      refine HL.still (Runs.extr e52 rfl) ?_
      intro u60 e60
      refine HL.one (HO.alloc zr31 ?_)
      intro he we
      intro u12 e12
      refine HL.zero (HO.storeAll sz31 e12 e59 (encD_one d) we.new (encD_len _) (by simp) ?_)
      intro hg wg
      refine HL.still (Runs.assign e60) ?_
      intro u13 e13
      refine HL.nil ?_
      have xd := Xd.size
      have Xf : Ext hd hg := we.ext.wr wg (Nat.le_refl _)
      have zf := Xf.size
      have Sf : Sto (fun _ => True) hg s b room M' := (Sd.ext Xf).weaken fun _ _ _ => trivial
      have sl0 := hS.lt
      have bl0 : b < u.size := by
        obtain ⟨E, _, _, q, _⟩ := hS
        exact q.lt
      have kd : hg[hd.size]? = some (.cells (encD d).toArray 31 (0, 0)) := wg.new
      have hXg : Ext h hg := ((hX.ext hEc (Nat.le_refl _)).ex2 Xd (Nat.le_refl _) (by omega) (by omega)).ext Xf (Nat.le_refl _)
      have Dg' : Dgs hg ka ks := by
        refine D.dgs.keep fun sb so e => ?_
        rcases D.blk with ⟨q, _⟩ | ⟨g, q, q1, q2⟩
        · rw [q] at e; cases e
        · rw [q] at e
          cases e
          exact (Xf.old _ (by omega)).trans ((Xd.old _ (by omega) (by omega) (by omega)).trans ((Xc2.old _ (by omega)).trans ((Xc1.old _ (by omega)).trans (Xb.old _ q2))))
      have d12 : u12 = .pointer (some ⟨hd.size, 0, none⟩) := e12
      have q13 : u13 = I64 e := e13
      have hfit' := hG'.fits
      clear e9 e10 e11 e12 e13
      -- region 13
      repeat refine HW.seq ?_
      refine HW.region ?_
      refine HL.still (Runs.move q13) ?_
      intro u61 e61
      refine HL.still (Runs.eql e61 rfl (t := e == 0) rfl) ?_
      intro u62 e62
      refine HL.nil ?_
      repeat refine HW.seq ?_
      refine HW.mono (N := fun f' w => f' 1 = .slice (some ⟨sb, so, none⟩) l.length cap ∧ f' 5 = .bool true ∧ f' 7 = .pointer (some ⟨s, 0, none⟩) ∧ f' 8 = I64 k ∧ f' 9 = .slice ka ks.length kc ∧ Ext hg w) ?_ ?_ (fun _ _ _ q => q) (fun _ _ q => q)
      · rcases put_cases hp with ⟨rfl, hd1, v, hv, hvx⟩ | ⟨rfl, hd1, hMM⟩
        · -- it was put, or was there
          refine HW.yes e62 ?_
          have hvl : v.length ≤ 140737488355328 := by
            have hm := (lookM_iff hG'.nodup _ _).1 hv
            exact hG'.small hr1 _ hm
          -- region 14
          repeat refine HW.seq ?_
          refine HW.region ?_
          refine HL.still (Runs.move f7) ?_
          intro u64 e64
          refine HL.still (Runs.loadAgg Try.underlying31 rfl sz31 d12 (encD_len d) (load_blk kd)) ?_
          intro u65 e65
          refine HL.one (HO.call Try.func21 bd21 nm21 (args2 e64 e65) rfl ((getX_ch hg s b room M' d v (by rw [hd1]; exact hv) Sf (hG'.small hr1)).mono ?_))
          rintro _ h14 ⟨ga, gc, rfl, Bg, Xg2⟩
          intro u66 e66
          refine HL.still (Runs.move e66) ?_
          intro u63 e63
          refine HL.still (Runs.extr e63 rfl) ?_
          intro u67 e67
          refine HL.still (Runs.extr e63 rfl) ?_
          intro u68 e68
          refine HL.still (Runs.assign e67) ?_
          intro u14 e14
          refine HL.still (Runs.assign e68) ?_
          intro u15 e15
          refine HL.nil ?_
          have q14 : u14 = .slice ga v.length gc := e14
          have q15 : u15 = .bool true := e15
          have hEg : Ext h h14 := hXg.ext Xg2 (Nat.le_refl _)
          have hdx : d.1 = SHA xs := by rw [hd1]; rfl
          cases ht : t2 with
          | true =>
            have q11' : u11 = .bool true := q11.trans (congrArg Value.bool ht)
            have hrow : ∀ hh : Heap, Ext h14 hh → cellH hh sb (so + k) = some (.slice b1 xs.length c1) ∧ Byt hh b1 xs := fun hh X => by
              obtain ⟨sb', so', q, b2, c2, xs2, q2, q3, q4, _⟩ := (hB.ext (hEg.ext X (Nat.le_refl _))).at hlt
              rw [hx] at q2
              cases q
              cases q2
              exact ⟨q3, q4⟩
            -- region 15
            repeat refine HW.seq ?_
            refine HW.grow #[0, 1, 3, 7, 15, 31, 63, 127, 63, 63, 831, 1855, 3903, 8191, 16383, 32767, 65535, 131071, 131071, 131071, 917503, 1966079, 4063231, 8388607, 16777215] (fun a b => Ext a b) mixed (by kernel_rfl) (fun _ => Bel.refl _ _) (fun _ _ _ x y => Bel.ext x y (Nat.le_refl _)) ?_
            refine HM.still (fun _ => Bel.refl _ _) (fun f h K => Runs.move ((K.keep (by kernel_rfl)).trans q15)) ?_
            refine HM.still (v := .bool false) (fun _ => Bel.refl _ _) (fun f h K => Runs.notb (t := true) (show f 69 = .bool true from (K.at 0 69 rfl rfl)) rfl) ?_
            refine HM.still (fun _ => Bel.refl _ _) (fun f h K => Runs.move (K.at 1 70 rfl rfl)) ?_
            refine HM.stillG (fun _ => Bel.refl _ _) rfl rfl rfl (fun f h K => K.at 2 71 rfl rfl) (fun f h K => Runs.move ((K.keep (by kernel_rfl)).trans q11')) ?_
            refine HM.stillG (v := .bool false) (fun _ => Bel.refl _ _) rfl rfl rfl (fun f h K => K.at 2 71 rfl rfl) (fun f h K => Runs.notb (t := true) (show f 72 = .bool true from (K.at 3 72 rfl rfl)) rfl) ?_
            refine HM.stillG (fun _ => Bel.refl _ _) rfl rfl rfl (fun f h K => K.at 2 71 rfl rfl) (fun f h K => Runs.move (K.at 4 73 rfl rfl)) ?_
            refine HM.skipG rfl rfl rfl (fun f h K => K.at 5 74 rfl rfl) ?_
            refine HM.skipG rfl rfl rfl (fun f h K => K.at 5 74 rfl rfl) ?_
            refine HM.skipG rfl rfl rfl (fun f h K => K.at 5 74 rfl rfl) ?_
            refine HM.skipG rfl rfl rfl (fun f h K => K.at 5 74 rfl rfl) ?_
            refine HM.skipG rfl rfl rfl (fun f h K => K.at 5 74 rfl rfl) ?_
            refine HM.skipG rfl rfl rfl (fun f h K => K.at 5 74 rfl rfl) ?_
            refine HM.skipG rfl rfl rfl (fun f h K => K.at 5 74 rfl rfl) ?_
            refine HM.skipG rfl rfl rfl (fun f h K => K.at 5 74 rfl rfl) ?_
            refine HM.stillG (fun _ => Bel.refl _ _) rfl rfl rfl (fun f h K => K.at 2 71 rfl rfl) (fun f h K => Runs.pick (K.at 5 74 rfl rfl) rfl) ?_
            refine HM.still (fun _ => Bel.refl _ _) (fun f h K => Runs.pick (K.at 2 71 rfl rfl) (K.at 14 83 rfl rfl)) ?_
            refine HM.still (fun _ => Bel.refl _ _) (fun f h K => Runs.move (K.at 15 84 rfl rfl)) ?_
            refine HM.stillG (fun _ => Bel.refl _ _) rfl rfl rfl (fun f h K => K.at 16 85 rfl rfl) (fun f h K => Runs.loadAgg Try.underlying31 rfl sz31 ((K.keep (by kernel_rfl)).trans d12) (encD_len d) (load_blk (Bel.keepE K.grown (Bel.keepE Xg2 kd)))) ?_
            refine HM.stillG (fun _ => Bel.refl _ _) rfl rfl rfl (fun f h K => K.at 16 85 rfl rfl) (fun f h K => Runs.move ((K.keep (by kernel_rfl)).trans f1)) ?_
            refine HM.stillG (fun _ => Bel.refl _ _) rfl rfl rfl (fun f h K => K.at 16 85 rfl rfl) (fun f h K => Runs.move ((K.keep (by kernel_rfl)).trans f8)) ?_
            refine HM.stillG (fun _ => Bel.refl _ _) rfl rfl rfl (fun f h K => K.at 16 85 rfl rfl) (fun f h K => Runs.ixSl (o' := so + k) Try.underlying22 sz29 (K.at 18 87 rfl rfl) (K.at 19 88 rfl rfl) (by omega) (by omega) (by omega)) ?_
            refine HM.stillG (fun _ => Bel.refl _ _) rfl rfl rfl (fun f h K => K.at 16 85 rfl rfl) (fun f h K => Runs.load Try.underlying29 rfl (K.at 20 89 rfl rfl) (hrow h K.grown).1) ?_
            refine HM.oneG (fun x _ => x = _) (fun _ _ _ _ e => e) rfl rfl rfl (fun f h K => K.at 16 85 rfl rfl) (fun f h K => HO.call Try.func31 bd31 nm31 (args1 (K.at 21 90 rfl rfl)) rfl ((of_ch h xs b1 c1 (hrow h K.grown).2 hle (by omega)).mono fun _ _ q => ⟨q.2, q.1⟩)) ?_
            refine HM.stillG (fun _ => Bel.refl _ _) rfl rfl rfl (fun f h K => K.at 16 85 rfl rfl) (fun f h K => Runs.neqBytes Try.underlying31 Try.underlying5 sz5 eg31 (K.at 17 86 rfl rfl) (K.at 22 91 rfl rfl) (t := false) d.2 (SHA_len xs) (by rw [hdx]; simp)) ?_
            refine HM.still (fun _ => Bel.refl _ _) (fun f h K => Runs.pick (K.at 16 85 rfl rfl) (K.at 23 92 rfl rfl)) ?_
            intro f' h15 hR2 V O
            have g93 : f' 93 = .bool false := last_at V 24 93 rfl
            have y1 := (last_keep O (s := 1) (by kernel_rfl)).trans f1
            have y5 := (last_keep O (s := 5) (by kernel_rfl)).trans f5
            have y7 := (last_keep O (s := 7) (by kernel_rfl)).trans f7
            have y8 := (last_keep O (s := 8) (by kernel_rfl)).trans f8
            have y9 := (last_keep O (s := 9) (by kernel_rfl)).trans q9
            refine HW.no g93 ?_
            exact HW.skip ⟨y1, y5, y7, y8, y9, Xg2.ext hR2 (Nat.le_refl _)⟩
          | false =>
            have q11' : u11 = .bool false := q11.trans (congrArg Value.bool ht)
            have hvx' : v = xs := hvx (by rw [← ht2]; exact ht)
            subst hvx'
            have hrow : ∀ hh : Heap, Ext h14 hh → cellH hh sb (so + k) = some (.slice b1 v.length c1) ∧ Byt hh b1 v := fun hh X => by
              obtain ⟨sb', so', q, b2, c2, xs2, q2, q3, q4, _⟩ := (hB.ext (hEg.ext X (Nat.le_refl _))).at hlt
              rw [hx] at q2
              cases q
              cases q2
              exact ⟨q3, q4⟩
            -- region 15
            repeat refine HW.seq ?_
            refine HW.grow #[0, 1, 3, 7, 15, 31, 63, 127, 63, 63, 831, 1855, 3903, 8191, 16383, 32767, 65535, 131071, 131071, 131071, 917503, 1966079, 4063231, 8388607, 16777215] (fun a b => Ext a b) mixed (by kernel_rfl) (fun _ => Bel.refl _ _) (fun _ _ _ x y => Bel.ext x y (Nat.le_refl _)) ?_
            refine HM.still (fun _ => Bel.refl _ _) (fun f h K => Runs.move ((K.keep (by kernel_rfl)).trans q15)) ?_
            refine HM.still (v := .bool false) (fun _ => Bel.refl _ _) (fun f h K => Runs.notb (t := true) (show f 69 = .bool true from (K.at 0 69 rfl rfl)) rfl) ?_
            refine HM.still (fun _ => Bel.refl _ _) (fun f h K => Runs.move (K.at 1 70 rfl rfl)) ?_
            refine HM.stillG (fun _ => Bel.refl _ _) rfl rfl rfl (fun f h K => K.at 2 71 rfl rfl) (fun f h K => Runs.move ((K.keep (by kernel_rfl)).trans q11')) ?_
            refine HM.stillG (v := .bool true) (fun _ => Bel.refl _ _) rfl rfl rfl (fun f h K => K.at 2 71 rfl rfl) (fun f h K => Runs.notb (t := false) (show f 72 = .bool false from (K.at 3 72 rfl rfl)) rfl) ?_
            refine HM.stillG (fun _ => Bel.refl _ _) rfl rfl rfl (fun f h K => K.at 2 71 rfl rfl) (fun f h K => Runs.move (K.at 4 73 rfl rfl)) ?_
            refine HM.stillG (fun _ => Bel.refl _ _) rfl rfl rfl (fun f h K => K.at 5 74 rfl rfl) (fun f h K => Runs.move ((K.keep (by kernel_rfl)).trans q14)) ?_
            refine HM.stillG (fun _ => Bel.refl _ _) rfl rfl rfl (fun f h K => K.at 5 74 rfl rfl) (fun f h K => Runs.toStrB Try.underlying29 Try.underlying5 Try.underlying9 (K.at 6 75 rfl rfl) rfl (Bg.byt.ext K.grown)) ?_
            refine HM.stillG (fun _ => Bel.refl _ _) rfl rfl rfl (fun f h K => K.at 5 74 rfl rfl) (fun f h K => Runs.move ((K.keep (by kernel_rfl)).trans f1)) ?_
            refine HM.stillG (fun _ => Bel.refl _ _) rfl rfl rfl (fun f h K => K.at 5 74 rfl rfl) (fun f h K => Runs.move ((K.keep (by kernel_rfl)).trans f8)) ?_
            refine HM.stillG (fun _ => Bel.refl _ _) rfl rfl rfl (fun f h K => K.at 5 74 rfl rfl) (fun f h K => Runs.ixSl (o' := so + k) Try.underlying22 sz29 (K.at 8 77 rfl rfl) (K.at 9 78 rfl rfl) (by omega) (by omega) (by omega)) ?_
            refine HM.stillG (fun _ => Bel.refl _ _) rfl rfl rfl (fun f h K => K.at 5 74 rfl rfl) (fun f h K => Runs.load Try.underlying29 rfl (K.at 10 79 rfl rfl) (hrow h K.grown).1) ?_
            refine HM.stillG (fun _ => Bel.refl _ _) rfl rfl rfl (fun f h K => K.at 5 74 rfl rfl) (fun f h K => Runs.toStrB Try.underlying29 Try.underlying5 Try.underlying9 (K.at 11 80 rfl rfl) rfl (hrow h K.grown).2) ?_
            refine HM.stillG (fun _ => Bel.refl _ _) rfl rfl rfl (fun f h K => K.at 5 74 rfl rfl) (fun f h K => Runs.neqS (K.at 7 76 rfl rfl) (K.at 12 81 rfl rfl) (t := false) (by simp)) ?_
            refine HM.stillG (fun _ => Bel.refl _ _) rfl rfl rfl (fun f h K => K.at 2 71 rfl rfl) (fun f h K => Runs.pick (K.at 5 74 rfl rfl) (K.at 13 82 rfl rfl)) ?_
            refine HM.still (fun _ => Bel.refl _ _) (fun f h K => Runs.pick (K.at 2 71 rfl rfl) (K.at 14 83 rfl rfl)) ?_
            refine HM.still (fun _ => Bel.refl _ _) (fun f h K => Runs.move (K.at 15 84 rfl rfl)) ?_
            refine HM.stillG (fun _ => Bel.refl _ _) rfl rfl rfl (fun f h K => K.at 16 85 rfl rfl) (fun f h K => Runs.loadAgg Try.underlying31 rfl sz31 ((K.keep (by kernel_rfl)).trans d12) (encD_len d) (load_blk (Bel.keepE K.grown (Bel.keepE Xg2 kd)))) ?_
            refine HM.stillG (fun _ => Bel.refl _ _) rfl rfl rfl (fun f h K => K.at 16 85 rfl rfl) (fun f h K => Runs.move ((K.keep (by kernel_rfl)).trans f1)) ?_
            refine HM.stillG (fun _ => Bel.refl _ _) rfl rfl rfl (fun f h K => K.at 16 85 rfl rfl) (fun f h K => Runs.move ((K.keep (by kernel_rfl)).trans f8)) ?_
            refine HM.stillG (fun _ => Bel.refl _ _) rfl rfl rfl (fun f h K => K.at 16 85 rfl rfl) (fun f h K => Runs.ixSl (o' := so + k) Try.underlying22 sz29 (K.at 18 87 rfl rfl) (K.at 19 88 rfl rfl) (by omega) (by omega) (by omega)) ?_
            refine HM.stillG (fun _ => Bel.refl _ _) rfl rfl rfl (fun f h K => K.at 16 85 rfl rfl) (fun f h K => Runs.load Try.underlying29 rfl (K.at 20 89 rfl rfl) (hrow h K.grown).1) ?_
            refine HM.oneG (fun x _ => x = _) (fun _ _ _ _ e => e) rfl rfl rfl (fun f h K => K.at 16 85 rfl rfl) (fun f h K => HO.call Try.func31 bd31 nm31 (args1 (K.at 21 90 rfl rfl)) rfl ((of_ch h v b1 c1 (hrow h K.grown).2 hle (by omega)).mono fun _ _ q => ⟨q.2, q.1⟩)) ?_
            refine HM.stillG (fun _ => Bel.refl _ _) rfl rfl rfl (fun f h K => K.at 16 85 rfl rfl) (fun f h K => Runs.neqBytes Try.underlying31 Try.underlying5 sz5 eg31 (K.at 17 86 rfl rfl) (K.at 22 91 rfl rfl) (t := false) d.2 (SHA_len v) (by rw [hdx]; simp)) ?_
            refine HM.still (fun _ => Bel.refl _ _) (fun f h K => Runs.pick (K.at 16 85 rfl rfl) (K.at 23 92 rfl rfl)) ?_
            intro f' h15 hR2 V O
            have g93 : f' 93 = .bool false := last_at V 24 93 rfl
            have y1 := (last_keep O (s := 1) (by kernel_rfl)).trans f1
            have y5 := (last_keep O (s := 5) (by kernel_rfl)).trans f5
            have y7 := (last_keep O (s := 7) (by kernel_rfl)).trans f7
            have y8 := (last_keep O (s := 8) (by kernel_rfl)).trans f8
            have y9 := (last_keep O (s := 9) (by kernel_rfl)).trans q9
            refine HW.no g93 ?_
            exact HW.skip ⟨y1, y5, y7, y8, y9, Xg2.ext hR2 (Nat.le_refl _)⟩
        · -- it was refused
          refine HW.no e62 ?_
          rw [hMM] at Sf
          have hdz : d.1 = zero32 := by rw [hd1]; rfl
          -- region 17
          repeat refine HW.seq ?_
          refine HW.region ?_
          refine HL.still (Runs.move q13) ?_
          intro u94 e94
          refine HL.still (Runs.neq e94 rfl (t := false) rfl) ?_
          intro u95 e95
          refine HL.still (Runs.move e95) ?_
          intro u96 e96
          refine HL.stillG rfl rfl e96 (Runs.loadAgg Try.underlying31 rfl sz31 d12 (encD_len d) (load_blk kd)) ?_
          intro u97 e97
          refine HL.stillG rfl rfl e96 (Runs.buildZ31) ?_
          intro u98 e98
          refine HL.stillG rfl rfl e96 (Runs.neqBytes Try.underlying31 Try.underlying5 sz5 eg31 e97 e98 (t := false) d.2 rfl (by rw [hdz]; rfl)) ?_
          intro u99 e99
          refine HL.still (Runs.pick e96 e99) ?_
          intro u100 e100
          refine HL.still (Runs.move e100) ?_
          intro u101 e101
          refine HL.stillG rfl rfl e101 (Runs.move f7) ?_
          intro u102 e102
          refine HL.oneG rfl rfl e101 (HO.call Try.func26 bd26 nm26 (args1 e102) rfl ((usedX_ch hg s b room M (tot M) Sf rfl).mono ?_))
          rintro _ h14 ⟨rfl, X14⟩
          intro u103 e103
          refine HL.stillG rfl rfl e101 (Runs.move q10) ?_
          intro u104 e104
          refine HL.stillG rfl rfl e101 (Runs.neq e103 e104 (t := false) (by simp)) ?_
          intro u105 e105
          refine HL.still (Runs.pick e101 e105) ?_
          intro u106 e106
          refine HL.still (Runs.move e106) ?_
          intro u107 e107
          refine HL.stillG rfl rfl e107 (Runs.move f7) ?_
          intro u108 e108
          refine HL.oneG rfl rfl e107 (HO.call Try.func29 bd29 nm29 (args1 e108) rfl ((keysS_ch h14 s b room M (Sf.ext X14) (by omega)).mono ?_))
          rintro _ h15 ⟨ka2, kc2, ks2, rfl, D2, kp2, kq2, X15⟩
          intro u109 e109
          refine HL.stillG rfl rfl e107 (Runs.lenSl rfl Try.underlying41 e109) ?_
          intro u110 e110
          refine HL.stillG rfl rfl e107 (Runs.move q9) ?_
          intro u111 e111
          refine HL.stillG rfl rfl e107 (Runs.lenSl rfl Try.underlying41 e111) ?_
          intro u112 e112
          refine HL.stillG rfl rfl e107 (Runs.neq e110 e112 (t := false) (by rw [kp2.length_eq, List.length_map, hksl]; simp)) ?_
          intro u113 e113
          refine HL.still (Runs.pick e107 e113) ?_
          intro u114 e114
          refine HL.nil ?_
          refine HW.no e114 ?_
          exact HW.skip ⟨f1, f5, f7, f8, q9, X14.ext X15 (Nat.le_refl _)⟩
      · clear f1 f5 f7 f8 q9 q10 q11 d12 q13 e62
        rintro f w ⟨f1, f5, f7, f8, f9, hXw⟩
        have Dw := Dg'.ext hXw
        have Sw := Sf.ext hXw
        have hXh := hXg.ext hXw (Nat.le_refl _)
        -- region 19
        repeat refine HW.seq ?_
        refine HW.region ?_
        refine HL.still (Runs.assign rfl) ?_
        intro u16 e16
        refine HL.nil ?_
        repeat refine HW.seq ?_
        refine HW.block ?_
        refine HW.loop (fun n f v => ∃ j : Nat, j ≤ ks.length ∧ n = ks.length - j ∧ f 16 = I64 j ∧ f 1 = .slice (some ⟨sb, so, none⟩) l.length cap ∧ f 5 = .bool true ∧ f 7 = .pointer (some ⟨s, 0, none⟩) ∧ f 8 = I64 k ∧ f 9 = .slice ka ks.length kc ∧ Ext w v) _
          ⟨0, Nat.zero_le _, rfl, e16, f1, f5, f7, f8, f9, Bel.refl _ _⟩ ?_
        clear e16 f1 f5 f7 f8 f9
        rintro n f v ⟨j, hj, hn, f16, f1, f5, f7, f8, f9, hXv⟩
        by_cases hlt2 : j < ks.length
        · obtain ⟨tb, to, rfl, hc⟩ := (Dw.ext hXv).at hlt2
          obtain ⟨q, hq⟩ : ∃ q, q = ks.getD j zD := ⟨_, rfl⟩
          rw [← hq] at hc
          have hqin : q ∈ M'.map (·.1) := put_keeps hp (hin q (by rw [hq, List.getD_eq_getElem?_getD, List.getElem?_eq_getElem hlt2]; exact List.getElem_mem hlt2))
          obtain ⟨val, hval, hqs, hvl⟩ := hG'.got hqin
          have hqx : q.1 = SHA val := by rw [hqs]; rfl
          have hsz : sizeO M' q = val.length := by unfold sizeO; rw [hval]
          -- region 20
          repeat refine HW.seq ?_
          refine HW.region ?_
          refine HL.still (Runs.move f16) ?_
          intro u115 e115
          refine HL.still (Runs.move f9) ?_
          intro u116 e116
          refine HL.still (Runs.lenSl rfl Try.underlying41 e116) ?_
          intro u117 e117
          refine HL.still (Runs.lss e115 e117 rfl) ?_
          intro u118 e118
          refine HL.nil ?_
          repeat refine HW.seq ?_
          refine HW.yes ?_ ?_
          exact e118.trans (congrArg Value.bool (decide_eq_true (by omega)))
          refine HW.skip ?_
          repeat refine HW.seq ?_
          refine HW.block ?_
          -- region 22
          repeat refine HW.seq ?_
          refine HW.region ?_
          refine HL.still (Runs.move f7) ?_
          intro u122 e122
          refine HL.still (Runs.move f9) ?_
          intro u123 e123
          refine HL.still (Runs.move f16) ?_
          intro u124 e124
          refine HL.still (Runs.ixSl (o' := to + j * 32) Try.underlying41 sz31 e123 e124 (by omega) (by omega) (by omega)) ?_
          intro u125 e125
          refine HL.still (Runs.loadAgg Try.underlying31 rfl sz31 e125 (encD_len q) hc) ?_
          intro u126 e126
          refine HL.one (HO.call Try.func21 bd21 nm21 (args2 e122 e126) rfl ((getX_ch v s b room M' q val hval (Sw.ext hXv) (hG'.small hr1)).mono ?_))
          rintro _ hy ⟨ga, gc, rfl, Bg, Xy⟩
          intro u127 e127
          refine HL.still (Runs.move e127) ?_
          intro u121 e121
          refine HL.still (Runs.extr e121 rfl) ?_
          intro u128 e128
          refine HL.still (Runs.extr e121 rfl) ?_
          intro u129 e129
          refine HL.still (Runs.assign e128) ?_
          intro u17 e17
          refine HL.still (Runs.assign e129) ?_
          intro u18 e18
          refine HL.nil ?_
          have q17 : u17 = .slice ga val.length gc := e17
          have q18 : u18 = .bool true := e18
          have hcy : ∀ hh : Heap, Ext hy hh → ∀ i v', (encD q)[i]? = some v' → cellH hh tb (to + j * 32 + i) = some v' := fun hh X i v' hv => by
            rw [cellH_keep ((Xy.ext X (Nat.le_refl _)).old tb (lt_of_cellH (hc i v' hv)))]; exact hc i v' hv
          have hSy := (Sw.ext hXv).ext Xy
          -- region 23
          repeat refine HW.seq ?_
          refine HW.grow #[0, 1, 3, 7, 15, 7, 7, 103, 231, 511, 1023, 2047, 4095, 4095, 4095, 28671, 61439, 131071, 4095, 266239, 1048575, 2097151] (fun a b => Ext a b) mixed (by kernel_rfl) (fun _ => Bel.refl _ _) (fun _ _ _ x y => Bel.ext x y (Nat.le_refl _)) ?_
          refine HM.still (fun _ => Bel.refl _ _) (fun f h K => Runs.move ((K.keep (by kernel_rfl)).trans q18)) ?_
          refine HM.still (v := .bool false) (fun _ => Bel.refl _ _) (fun f h K => Runs.notb (t := true) (show f 130 = .bool true from (K.at 0 130 rfl rfl)) rfl) ?_
          refine HM.still (fun _ => Bel.refl _ _) (fun f h K => Runs.move (K.at 1 131 rfl rfl)) ?_
          refine HM.stillG (fun _ => Bel.refl _ _) rfl rfl rfl (fun f h K => K.at 2 132 rfl rfl) (fun f h K => Runs.move ((K.keep (by kernel_rfl)).trans q17)) ?_
          refine HM.oneG (fun x _ => x = _) (fun _ _ _ _ e => e) rfl rfl rfl (fun f h K => K.at 2 132 rfl rfl) (fun f h K => HO.call Try.func31 bd31 nm31 (args1 (K.at 3 133 rfl rfl)) rfl ((of_ch h val ga gc (Bg.byt.ext K.grown) Bg.2 (by omega)).mono fun _ _ q => ⟨q.2, q.1⟩)) ?_
          refine HM.stillG (fun _ => Bel.refl _ _) rfl rfl rfl (fun f h K => K.at 2 132 rfl rfl) (fun f h K => Runs.move ((K.keep (by kernel_rfl)).trans f9)) ?_
          refine HM.stillG (fun _ => Bel.refl _ _) rfl rfl rfl (fun f h K => K.at 2 132 rfl rfl) (fun f h K => Runs.move ((K.keep (by kernel_rfl)).trans f16)) ?_
          refine HM.stillG (fun _ => Bel.refl _ _) rfl rfl rfl (fun f h K => K.at 2 132 rfl rfl) (fun f h K => Runs.ixSl (o' := to + j * 32) Try.underlying41 sz31 (K.at 5 135 rfl rfl) (K.at 6 136 rfl rfl) (by omega) (by omega) (by omega)) ?_
          refine HM.stillG (fun _ => Bel.refl _ _) rfl rfl rfl (fun f h K => K.at 2 132 rfl rfl) (fun f h K => Runs.loadAgg Try.underlying31 rfl sz31 (K.at 7 137 rfl rfl) (encD_len q) (hcy h K.grown)) ?_
          refine HM.stillG (fun _ => Bel.refl _ _) rfl rfl rfl (fun f h K => K.at 2 132 rfl rfl) (fun f h K => Runs.neqBytes Try.underlying31 Try.underlying5 sz5 eg31 (K.at 4 134 rfl rfl) (K.at 8 138 rfl rfl) (t := false) (SHA_len val) q.2 (by rw [hqx]; simp)) ?_
          refine HM.still (fun _ => Bel.refl _ _) (fun f h K => Runs.pick (K.at 2 132 rfl rfl) (K.at 9 139 rfl rfl)) ?_
          refine HM.still (fun _ => Bel.refl _ _) (fun f h K => Runs.move (K.at 10 140 rfl rfl)) ?_
          refine HM.stillG (fun _ => Bel.refl _ _) rfl rfl rfl (fun f h K => K.at 11 141 rfl rfl) (fun f h K => Runs.move ((K.keep (by kernel_rfl)).trans f7)) ?_
          refine HM.stillG (fun _ => Bel.refl _ _) rfl rfl rfl (fun f h K => K.at 11 141 rfl rfl) (fun f h K => Runs.move ((K.keep (by kernel_rfl)).trans f9)) ?_
          refine HM.stillG (fun _ => Bel.refl _ _) rfl rfl rfl (fun f h K => K.at 11 141 rfl rfl) (fun f h K => Runs.move ((K.keep (by kernel_rfl)).trans f16)) ?_
          refine HM.stillG (fun _ => Bel.refl _ _) rfl rfl rfl (fun f h K => K.at 11 141 rfl rfl) (fun f h K => Runs.ixSl (o' := to + j * 32) Try.underlying41 sz31 (K.at 13 143 rfl rfl) (K.at 14 144 rfl rfl) (by omega) (by omega) (by omega)) ?_
          refine HM.stillG (fun _ => Bel.refl _ _) rfl rfl rfl (fun f h K => K.at 11 141 rfl rfl) (fun f h K => Runs.loadAgg Try.underlying31 rfl sz31 (K.at 15 145 rfl rfl) (encD_len q) (hcy h K.grown)) ?_
          refine HM.oneG (fun x _ => x = _) (fun _ _ _ _ e => e) rfl rfl rfl (fun f h K => K.at 11 141 rfl rfl) (fun f h K => HO.call Try.func24 bd24 nm24 (args2 (K.at 12 142 rfl rfl) (K.at 16 146 rfl rfl)) rfl ((sizeX_ch h s b room M' q (val.length : Int) (hSy.ext K.grown) hsz).mono fun _ _ q => ⟨q.2, q.1⟩)) ?_
          refine HM.stillG (fun _ => Bel.refl _ _) rfl rfl rfl (fun f h K => K.at 11 141 rfl rfl) (fun f h K => Runs.move ((K.keep (by kernel_rfl)).trans q17)) ?_
          refine HM.stillG (fun _ => Bel.refl _ _) rfl rfl rfl (fun f h K => K.at 11 141 rfl rfl) (fun f h K => Runs.lenSl rfl Try.underlying29 (K.at 18 148 rfl rfl)) ?_
          refine HM.stillG (fun _ => Bel.refl _ _) rfl rfl rfl (fun f h K => K.at 11 141 rfl rfl) (fun f h K => Runs.neq (K.at 17 147 rfl rfl) (K.at 19 149 rfl rfl) (t := false) (by simp)) ?_
          refine HM.still (fun _ => Bel.refl _ _) (fun f h K => Runs.pick (K.at 11 141 rfl rfl) (K.at 20 150 rfl rfl)) ?_
          intro f' hz' hR2 V O
          have g151 : f' 151 = .bool false := last_at V 21 151 rfl
          have y1 := (last_keep O (s := 1) (by kernel_rfl)).trans f1
          have y5 := (last_keep O (s := 5) (by kernel_rfl)).trans f5
          have y7 := (last_keep O (s := 7) (by kernel_rfl)).trans f7
          have y8 := (last_keep O (s := 8) (by kernel_rfl)).trans f8
          have y9 := (last_keep O (s := 9) (by kernel_rfl)).trans f9
          have y16 := (last_keep O (s := 16) (by kernel_rfl)).trans f16
          refine HW.no g151 ?_
          refine HW.skip ?_
          -- region 21
          repeat refine HW.seq ?_
          refine HW.region ?_
          refine HL.still (Runs.move y16) ?_
          intro u119 e119
          refine HL.still (Runs.add e119 rfl (i64w (by omega))) ?_
          intro u120 e120
          refine HL.still (Runs.assign e120) ?_
          intro u16 e16
          refine HL.nil ?_
          exact ⟨ks.length - (j + 1), by omega, j + 1, by omega, rfl, e16, y1, y5, y7, y8, y9, (hXv.ext Xy (Nat.le_refl _)).ext hR2 (Nat.le_refl _)⟩
        · skip
          -- region 20
          repeat refine HW.seq ?_
          refine HW.region ?_
          refine HL.still (Runs.move f16) ?_
          intro u115 e115
          refine HL.still (Runs.move f9) ?_
          intro u116 e116
          refine HL.still (Runs.lenSl rfl Try.underlying41 e116) ?_
          intro u117 e117
          refine HL.still (Runs.lss e115 e117 rfl) ?_
          intro u118 e118
          refine HL.nil ?_
          repeat refine HW.seq ?_
          refine HW.no ?_ ?_
          exact e118.trans (congrArg Value.bool (decide_eq_false (by omega)))
          refine HW.exitHere ?_
          -- region 8
          repeat refine HW.seq ?_
          refine HW.region ?_
          refine HL.still (Runs.move f8) ?_
          intro u39 e39
          refine HL.still (Runs.add e39 rfl (i64w (by omega))) ?_
          intro u40 e40
          refine HL.still (Runs.assign e40) ?_
          intro u8 e8
          refine HL.nil ?_
          exact ⟨l.length - (k + 1), by omega, k + 1, by omega, rfl, e8, f1, f5, f7, hXh.ext hXv (Nat.le_refl _), M', Sw.ext hXv, hG'⟩
    · have hkl : k = l.length := by omega
      subst hkl
      -- region 7
      repeat refine HW.seq ?_
      refine HW.region ?_
      refine HL.still (Runs.move f8) ?_
      intro u35 e35
      refine HL.still (Runs.move f1) ?_
      intro u36 e36
      refine HL.still (Runs.lenSl rfl Try.underlying22 e36) ?_
      intro u37 e37
      refine HL.still (Runs.lss e35 e37 rfl) ?_
      intro u38 e38
      refine HL.nil ?_
      repeat refine HW.seq ?_
      refine HW.no ?_ ?_
      exact e38.trans (congrArg Value.bool (decide_eq_false (by omega)))
      refine HW.exitHere ?_
      -- region 25
      repeat refine HW.seq ?_
      refine HW.region ?_
      refine HL.still (Runs.move f5) ?_
      intro u152 e152
      refine HL.still (Runs.assign e152) ?_
      intro u4 e4
      refine HL.nil ?_
      refine HW.ret ?_
      exact RT.one rfl e4 ⟨rfl, hX⟩
end Go.Proofs.Ytklelhfgbjpifaa
