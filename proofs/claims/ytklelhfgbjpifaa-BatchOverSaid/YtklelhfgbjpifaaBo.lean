/- The law BatchOver, walked. -/
import Derived.Test.YtklelhfgbjpifaaBx
namespace Go.Proofs.Ytklelhfgbjpifaa
set_option linter.unnecessarySimpa false
set_option linter.unusedSimpArgs false
set_option linter.unusedVariables false
open Go.RowKit
set_option maxRecDepth 10000 in
set_option maxHeartbeats 2000000 in
theorem lawOver_ch (h : Heap) (r : Int) (l : List (Option Addr × Nat × List UInt8)) (a : Option Addr) (cap : Nat) (hB : Byts h a l) (hl : l.length ≤ maxLen) (hz : ∀ x ∈ l, x.2.2.length ≤ 140737488355328) (cm : Bool) :
    CH Try.prog 13 #[I64 r, .slice a l.length cap, .bool cm] h fun v h' => v = .bool true ∧ Ext h h' := by
  refine CH.of_body Try.func13 rfl rfl rfl ?_
  intro f hf
  have p0 : f 0 = I64 r := by rw [hf]; exact fr0_at rfl
  have p1 : f 1 = .slice a l.length cap := by rw [hf]; exact fr0_at rfl
  have p2 : f 2 = .bool cm := by rw [hf]; exact fr0_at rfl
  -- region 0
  repeat refine HW.seq ?_
  refine HW.region ?_
  refine HL.still (Runs.assign rfl) ?_
  intro u6 e6
  refine HL.nil ?_
  -- region 1
  repeat refine HW.seq ?_
  refine HW.region ?_
  refine HL.one (HO.call Try.func34 bd34 nm34 (args0) rfl ((small4_ch h).mono ?_))
  rintro _ h1 ⟨rfl, X1⟩
  intro u18 e18
  refine HL.still (Runs.assign e18) ?_
  intro u7 e7
  refine HL.nil ?_
  -- region 2
  repeat refine HW.seq ?_
  refine HW.region ?_
  refine HL.still (Runs.move p1) ?_
  intro u19 e19
  refine HL.one (HO.call Try.func15 bd15 nm15 (args1 e19) rfl ((few_ch h1 l a l.length cap rfl (hB.ext X1) hl hz).mono ?_))
  rintro _ h2 ⟨rfl, rfl⟩
  intro u20 e20
  refine HL.still (Runs.assign e20) ?_
  intro u8 e8
  refine HL.nil ?_
  -- region 3
  repeat refine HW.seq ?_
  refine HW.region ?_
  refine HL.still (Runs.move p0) ?_
  intro u21 e21
  refine HL.one (HO.call Try.func16 bd16 nm16 (args1 e21) rfl ((newS_ch h2 r).mono ?_))
  rintro _ h3 ⟨rfl, S3, X3⟩
  intro u22 e22
  refine HL.still (Runs.assign e22) ?_
  intro u9 e9
  refine HL.nil ?_
  have XA : Ext h h3 := X1.ext X3 (Nat.le_refl _)
  have z1 := X1.size
  have z3 := X3.size
  have g7 : u7 = .bool true := e7
  obtain ⟨s, hs⟩ : ∃ s, s = h2.size + 1 := ⟨_, rfl⟩
  obtain ⟨b, hb⟩ : ∃ b, b = h2.size := ⟨_, rfl⟩
  rw [← hb] at S3 hs e9
  rw [← hs] at S3 e9
  obtain ⟨room, hroom⟩ : ∃ room, room = roomO r := ⟨_, rfl⟩
  have hr0 := roomO_0 r
  have hr1 := roomO_top r
  rw [← hroom] at S3 hr0 hr1
  obtain ⟨N, hN⟩ : ∃ N, N = h.size := ⟨_, rfl⟩
  cases hfew : fewO l with
  | false =>
    have g8 : u8 = .bool false := e8.trans (congrArg Value.bool hfew)
    -- region 4
    repeat refine HW.seq ?_
    refine HW.region ?_
    refine HL.still (Runs.move e9) ?_
    intro u23 e23
    refine HL.still (Runs.eqNil Try.underlying25 e23 rfl) ?_
    intro u24 e24
    refine HL.still (Runs.move e24) ?_
    intro u25 e25
    refine HL.stillG rfl rfl e25 (Runs.move g8) ?_
    intro u26 e26
    refine HL.stillG rfl rfl e25 (Runs.notb e26 (t := false) (u := true) rfl) ?_
    intro u27 e27
    refine HL.still (Runs.pick e25 e27) ?_
    intro u28 e28
    refine HL.nil ?_
    refine HW.yes e28 ?_
    -- region 5
    repeat refine HW.seq ?_
    refine HW.region ?_
    refine HL.still (Runs.move g7) ?_
    intro u29 e29
    refine HL.still (Runs.move e29) ?_
    intro u30 e30
    refine HL.stillG rfl rfl e30 (Runs.move e9) ?_
    intro u31 e31
    refine HL.stillG rfl rfl e30 (Runs.neqNil Try.underlying25 e31 rfl) ?_
    intro u32 e32
    refine HL.still (Runs.pick e30 e32) ?_
    intro u33 e33
    refine HL.still (Runs.assign e33) ?_
    intro u6 e6
    refine HL.nil ?_
    refine HW.ret ?_
    exact RT.one rfl e6 ⟨rfl, XA⟩
  | true =>
    obtain ⟨h40, h2000⟩ := few_of hfew
    have g8 : u8 = .bool true := e8.trans (congrArg Value.bool hfew)
    -- region 4
    repeat refine HW.seq ?_
    refine HW.region ?_
    refine HL.still (Runs.move e9) ?_
    intro u23 e23
    refine HL.still (Runs.eqNil Try.underlying25 e23 rfl) ?_
    intro u24 e24
    refine HL.still (Runs.move e24) ?_
    intro u25 e25
    refine HL.stillG rfl rfl e25 (Runs.move g8) ?_
    intro u26 e26
    refine HL.stillG rfl rfl e25 (Runs.notb e26 (t := true) (u := false) rfl) ?_
    intro u27 e27
    refine HL.still (Runs.pick e25 e27) ?_
    intro u28 e28
    refine HL.nil ?_
    refine HW.no e28 ?_
    refine HW.skip ?_
    obtain ⟨o1, ho1⟩ : ∃ o1, o1 = stamp (fun _ => 0) N 1 := ⟨_, rfl⟩
    have L1 : ∀ j, j < N → o1 j = 0 := fun j hj => by rw [ho1]; exact stamp_lt hj
    have S3 : Sto (fun j => o1 j = 1) h3 s b room [] := S3.weaken fun _ _ q => by rw [ho1]; exact stamp_ge (by omega)
    -- region 6
    repeat refine HW.seq ?_
    refine HW.region ?_
    refine HL.still (Runs.move e9) ?_
    intro u34 e34
    refine HL.one (HO.call Try.func36 bd36 nm36 (args1 e34) rfl ((newB_own (own := o1) 2 h3 s).mono ?_))
    rintro _ h4 ⟨rfl, T4, X4⟩
    intro u35 e35
    refine HL.still (Runs.assign e35) ?_
    intro u10 e10
    refine HL.nil ?_
    have S4 := S3.other (.of_ext X4) (x := 2) (by decide)
    have L4 := stamp_low (x := 2) L1 (by omega : N ≤ h3.size)
    obtain ⟨t, ht⟩ : ∃ t, t = h3.size + 1 := ⟨_, rfl⟩
    obtain ⟨bm, hbm⟩ : ∃ bm, bm = h3.size := ⟨_, rfl⟩
    rw [← ht] at T4 e10
    rw [show Bat (fun j => stamp o1 h3.size 2 j = 2) h4 t h3.size none s [] = Bat (fun j => stamp o1 h3.size 2 j = 2) h4 t bm none s [] by rw [hbm]] at T4
    obtain ⟨o4, ho4⟩ : ∃ o4, o4 = stamp o1 h3.size 2 := ⟨_, rfl⟩
    rw [← ho4] at S4 T4 L4
    have XA := XA.ext X4 (Nat.le_refl _)
    -- region 7
    repeat refine HW.seq ?_
    refine HW.region ?_
    refine HL.still (Runs.move e10) ?_
    intro u36 e36
    refine HL.still (Runs.eqNil Try.underlying52 e36 rfl) ?_
    intro u37 e37
    refine HL.nil ?_
    refine HW.no e37 ?_
    refine HW.skip ?_
    clear S3 L1 ho1 ho4 X3 X4 X1
    -- region 9
    repeat refine HW.seq ?_
    refine HW.region ?_
    refine HL.still (Runs.assign rfl) ?_
    intro u11 e11
    refine HL.nil ?_
    repeat refine HW.seq ?_
    refine HW.mono (N := fun f u => f 1 = .slice a l.length cap ∧ f 2 = .bool cm ∧ f 7 = .bool true ∧ f 9 = .pointer (some ⟨s, 0, none⟩) ∧ f 10 = .pointer (some ⟨t, 0, none⟩) ∧ Ext h u ∧ ∃ (own : Nat → Nat) (W : Blobs) (oa : Option Addr), (∀ j, j < N → own j = 0) ∧ Sto (fun j => own j = 1) u s b room [] ∧ Bat (fun j => own j = 2) u t bm oa s W ∧ Stg W 40 2000 ∧ (tot W : Int) ≤ room - tot ([] : Blobs)) ?_ ?_ (fun _ _ _ q => q) (fun _ _ q => q)
    · refine HW.block ?_
      refine HW.loop (fun m f u => ∃ k : Nat, k ≤ l.length ∧ m = l.length - k ∧ f 11 = I64 k ∧ f 1 = .slice a l.length cap ∧ f 2 = .bool cm ∧ f 7 = .bool true ∧ f 9 = .pointer (some ⟨s, 0, none⟩) ∧ f 10 = .pointer (some ⟨t, 0, none⟩) ∧ Ext h u ∧ ∃ (own : Nat → Nat) (W : Blobs) (oa : Option Addr), (∀ j, j < N → own j = 0) ∧ Sto (fun j => own j = 1) u s b room [] ∧ Bat (fun j => own j = 2) u t bm oa s W ∧ Stg W k 2000 ∧ (tot W : Int) ≤ room - tot ([] : Blobs)) l.length
        ⟨0, Nat.zero_le _, rfl, e11, p1, p2, g7, e9, e10, XA, o4, [], none, L4, S4, T4, Stg.nil _, by simpa [tot] using hr0⟩ ?_
      clear e6 e7 e8 e9 e10 e11 g7 g8 p0 p1 p2 S4 T4 L4 XA e25 e28 e35 e37
      rintro m f u ⟨k, hk, hm, f11, f1, f2, f7, f9, f10, hX, own, W, oa, L, S, T, G, hfit⟩
      by_cases hlt : k < l.length
      · obtain ⟨sb, so, hsa, b1, c1, xs, hx, hcell, hby, hle⟩ := (hB.ext hX).at hlt
        have hxl := lens_mem hx
        obtain ⟨W', d, e, hp⟩ : ∃ W' d e, putBO room W [] xs = (W', d, e) := ⟨_, _, _, rfl⟩
        have G' := G.put (by omega) hp
        have hfit' := putB_fits hfit hp
        have hu := hX.size
        have htt := G.tot
        have hll := G.len
        have htW : tot W ≤ 1000000000 := Nat.le_trans htt (by have : k * 2000 ≤ 40 * 2000 := Nat.mul_le_mul_right _ (by omega); omega)
        subst hsa
        -- region 10
        repeat refine HW.seq ?_
        refine HW.region ?_
        refine HL.still (Runs.move f11) ?_
        intro u38 e38
        refine HL.still (Runs.move f1) ?_
        intro u39 e39
        refine HL.still (Runs.lenSl rfl Try.underlying22 e39) ?_
        intro u40 e40
        refine HL.still (Runs.lss e38 e40 rfl) ?_
        intro u41 e41
        refine HL.nil ?_
        repeat refine HW.seq ?_
        refine HW.yes ?_ ?_
        exact e41.trans (congrArg Value.bool (decide_eq_true (by omega)))
        refine HW.skip ?_
        repeat refine HW.seq ?_
        refine HW.block ?_
        -- region 12
        repeat refine HW.seq ?_
        refine HW.region ?_
        refine HL.still (Runs.move f10) ?_
        intro u44 e44
        refine HL.still (Runs.move f1) ?_
        intro u45 e45
        refine HL.still (Runs.move f11) ?_
        intro u46 e46
        refine HL.still (Runs.ixSl (o' := so + k) Try.underlying22 sz29 e45 e46 (by omega) (by omega) (by omega)) ?_
        intro u47 e47
        refine HL.still (Runs.load Try.underlying29 rfl e47 hcell) ?_
        intro u48 e48
        refine HL.one (HO.call Try.func37 bd37 nm37 (args2 e44 e48) rfl ((putB_own (own := own) (x := 1) (y := 2) u t bm oa s b room W W' [] xs d e b1 c1 hp T S hby hle (by omega) hr1 hr0 (by simpa [tot] using hr0) htW (by omega)).mono ?_))
        rintro _ h9 ⟨_, ⟨oa', T9⟩, E9⟩
        intro u49 e49
        refine HL.nil ?_
        -- region 11
        repeat refine HW.seq ?_
        refine HW.region ?_
        refine HL.still (Runs.move f11) ?_
        intro u42 e42
        refine HL.still (Runs.add e42 rfl (i64w (by omega))) ?_
        intro u43 e43
        refine HL.still (Runs.assign e43) ?_
        intro u11 e11
        refine HL.nil ?_
        exact ⟨l.length - (k + 1), by omega, k + 1, by omega, rfl, e11, f1, f2, f7, f9, f10, E9.only L (by decide) hN.symm hX, _, W', oa', stamp_low L (by omega), S.other E9 (by decide), T9, G', hfit'⟩
      · have hkl : k = l.length := by omega
        subst hkl
        -- region 10
        repeat refine HW.seq ?_
        refine HW.region ?_
        refine HL.still (Runs.move f11) ?_
        intro u38 e38
        refine HL.still (Runs.move f1) ?_
        intro u39 e39
        refine HL.still (Runs.lenSl rfl Try.underlying22 e39) ?_
        intro u40 e40
        refine HL.still (Runs.lss e38 e40 rfl) ?_
        intro u41 e41
        refine HL.nil ?_
        repeat refine HW.seq ?_
        refine HW.no ?_ ?_
        exact e41.trans (congrArg Value.bool (decide_eq_false (by omega)))
        refine HW.exitHere ?_
        exact ⟨f1, f2, f7, f9, f10, hX, own, W, oa, L, S, T, ⟨by have := G.len; omega, G.nodup, G.small, G.own⟩, hfit⟩
    clear e6 e7 e8 e9 e10 e11 g7 g8 p0 p1 p2 S4 T4 L4 XA e25 e28 e35 e37
    rintro f u ⟨f1, f2, f7, f9, f10, hX, own, W, oa, L, S, T, G, hfit⟩
    have hu := hX.size
    have htW : tot W ≤ 1000000000 := Nat.le_trans G.tot (by decide)
    have hlW := G.len
    -- region 13
    repeat refine HW.seq ?_
    refine HW.region ?_
    refine HL.still (Runs.move f2) ?_
    intro u50 e50
    refine HL.nil ?_
    repeat refine HW.seq ?_
    refine HW.mono (N := fun f u => f 1 = .slice a l.length cap ∧ f 7 = .bool true ∧ f 9 = .pointer (some ⟨s, 0, none⟩) ∧ f 10 = .pointer (some ⟨t, 0, none⟩) ∧ Ext h u ∧ ∃ (own : Nat → Nat) (M : Blobs), (∀ j, j < N → own j = 0) ∧ Sto (fun j => own j = 1) u s b room M ∧ BatO (fun j => own j = 2) u t s ∧ Good room M 40) ?_ ?_ (fun _ _ _ q => q) (fun _ _ q => q)
    · cases cm with
      | true =>
        refine HW.yes e50 ?_
        -- region 14
        repeat refine HW.seq ?_
        refine HW.region ?_
        refine HL.still (Runs.move f10) ?_
        intro u51 e51
        refine HL.one (HO.call Try.func39 bd39 nm39 (args1 e51) rfl ((commit_own (own := own) (x := 1) (y := 2) u t bm oa s b room W [] (by decide) T S hr1 hr0 (by simpa [tot] using hr0) htW (by omega) (fun p hp => Nat.le_trans (G.small p hp) (by decide))).mono ?_))
        rintro _ h6 ⟨_, S6, T6, E6⟩
        intro u52 e52
        refine HL.nil ?_
        rw [commit_fits hfit] at S6 T6
        refine ⟨f1, f7, f9, f10, only_st L hN.symm hX E6.size (E6.kp2 (by decide) (by decide)), _, _, stamp_low L (by omega), S6, ?_, ?_⟩
        · rcases T6 with ⟨_, q⟩ | ⟨q, _⟩
          · exact q
          · cases q
        · exact ((Good.nil (room := room) hr0).all W).more (by omega)
      | false =>
        refine HW.no e50 ?_
        obtain ⟨_, oc, _, htc, _, _, ⟨_, hot, _⟩, _⟩ := T
        -- region 15
        repeat refine HW.seq ?_
        refine HW.region ?_
        refine HL.still (Runs.move f10) ?_
        intro u53 e53
        refine HL.one (HO.call Try.func41 bd41 nm41 (args1 e53) rfl ((discard_ch u t s (some bm) oa _ oc _ false htc).mono ?_))
        rintro _ h6 ⟨_, w6⟩
        intro u54 e54
        refine HL.nil ?_
        have E6 : ExF (fun j => own j = 2) u h6 := ⟨by rw [w6.size]; exact Nat.le_refl _, fun j _ hn => w6.old j fun e => hn (e ▸ hot)⟩
        exact ⟨f1, f7, f9, f10, E6.only L (by decide) hN.symm hX, _, [], stamp_low L (by omega), S.other E6 (by decide), ⟨w6.new, (stamp_lt (lt_of_some htc)).trans hot⟩, (Good.nil (room := room) hr0).more (by omega)⟩
    clear f1 f2 f7 f9 f10 hX L S T G hfit hu htW hlW
    rintro f u ⟨f1, f7, f9, f10, hX, own, M, L, S, T, G⟩
    have hMl := G.len
    -- region 16
    repeat refine HW.seq ?_
    refine HW.region ?_
    refine HL.still (Runs.move f9) ?_
    intro u55 e55
    refine HL.one (HO.call Try.func29 bd29 nm29 (args1 e55) rfl ((keysS_ch u s b room M S (by omega)).mono ?_))
    rintro _ hk ⟨ka, kc, ks, rfl, D, kp, kq, Xk⟩
    intro u56 e56
    refine HL.still (Runs.assign e56) ?_
    intro u12 e12
    refine HL.nil ?_
    have d12 : u12 = .slice ka ks.length kc := e12
    have S5 := S.ext Xk
    have T5 := T.ext Xk
    have hX5 := hX.ext Xk (Nat.le_refl _)
    have hksl : ks.length = M.length := by rw [kp.length_eq, List.length_map]
    have zk := Xk.size
    -- region 17
    repeat refine HW.seq ?_
    refine HW.region ?_
    refine HL.still (Runs.assign rfl) ?_
    intro u13 e13
    refine HL.nil ?_
    repeat refine HW.seq ?_
    refine HW.mono (N := fun f v => f 7 = .bool true ∧ f 9 = .pointer (some ⟨s, 0, none⟩) ∧ f 10 = .pointer (some ⟨t, 0, none⟩) ∧ f 12 = .slice ka ks.length kc ∧ Ext hk v) ?_ ?_ (fun _ _ _ q => q) (fun _ _ q => q)
    · refine HW.block ?_
      refine HW.loop (fun m f v => ∃ k : Nat, k ≤ l.length ∧ m = l.length - k ∧ f 13 = I64 k ∧ f 1 = .slice a l.length cap ∧ f 7 = .bool true ∧ f 9 = .pointer (some ⟨s, 0, none⟩) ∧ f 10 = .pointer (some ⟨t, 0, none⟩) ∧ f 12 = .slice ka ks.length kc ∧ Ext hk v) l.length
        ⟨0, Nat.zero_le _, rfl, e13, f1, f7, f9, f10, d12, Bel.refl _ _⟩ ?_
      clear e12 e13 f1 f7 f9 f10 d12
      rintro m f v ⟨k, hk1, hm, f13, f1, f7, f9, f10, f12, hXv⟩
      have hXh := hX5.ext hXv (Nat.le_refl _)
      by_cases hlt : k < l.length
      · obtain ⟨sb, so, hsa, b1, c1, xs, hx, hcell, hby, hle⟩ := (hB.ext hXh).at hlt
        have hxl := lens_mem hx
        subst hsa
        -- region 18
        repeat refine HW.seq ?_
        refine HW.region ?_
        refine HL.still (Runs.move f13) ?_
        intro u57 e57
        refine HL.still (Runs.move f1) ?_
        intro u58 e58
        refine HL.still (Runs.lenSl rfl Try.underlying22 e58) ?_
        intro u59 e59
        refine HL.still (Runs.lss e57 e59 rfl) ?_
        intro u60 e60
        refine HL.nil ?_
        repeat refine HW.seq ?_
        refine HW.yes ?_ ?_
        exact e60.trans (congrArg Value.bool (decide_eq_true (by omega)))
        refine HW.skip ?_
        repeat refine HW.seq ?_
        refine HW.block ?_
        -- region 20
        repeat refine HW.seq ?_
        refine HW.region ?_
        refine HL.still (Runs.move f10) ?_
        intro u64 e64
        refine HL.still (Runs.move f1) ?_
        intro u65 e65
        refine HL.still (Runs.move f13) ?_
        intro u66 e66
        refine HL.still (Runs.ixSl (o' := so + k) Try.underlying22 sz29 e65 e66 (by omega) (by omega) (by omega)) ?_
        intro u67 e67
        refine HL.still (Runs.load Try.underlying29 rfl e67 hcell) ?_
        intro u68 e68
        refine HL.one (HO.call Try.func37 bd37 nm37 (args2 e64 e68) rfl ((putBOv_ch v t s b1 xs.length c1 (T5.ext hXv)).mono ?_))
        rintro _ h13 ⟨rfl, Y⟩
        intro u69 e69
        refine HL.still (Runs.move e69) ?_
        intro u63 e63
        refine HL.still (Runs.extr e63 rfl) ?_
        intro u70 e70
        refine HL.still (Runs.extr e63 rfl) ?_
        intro u71 e71
        refine HL.one (HO.alloc zr31 ?_)
        intro ha wa
        intro u14 e14
        refine HL.zero (HO.storeAll sz31 e14 e70 (encD_one zD) wa.new (encD_len _) (by simp) ?_)
        intro h14 wb
        refine HL.still (Runs.assign e71) ?_
        intro u15 e15
        refine HL.nil ?_
        have Y14 : Ext v h14 := Y.ext (wa.ext.wr wb (Nat.le_refl _)) (Nat.le_refl _)
        have kd : h14[h13.size]? = some (.cells (encD zD).toArray 31 (0, 0)) := wb.new
        have d14 : u14 = .pointer (some ⟨h13.size, 0, none⟩) := e14
        have d15 : u15 = I64 11 := e15
        have hX14 := hXh.ext Y14 (Nat.le_refl _)
        obtain ⟨sb', so', hsa', b1', c1', xs', hx', hcell', hby', hle'⟩ := (hB.ext hX14).at hlt
        rw [hx] at hx'
        cases hx'
        cases hsa'
        -- region 21
        repeat refine HW.seq ?_
        refine HW.region ?_
        refine HL.still (Runs.move f10) ?_
        intro u73 e73
        refine HL.still (Runs.move f1) ?_
        intro u74 e74
        refine HL.still (Runs.move f13) ?_
        intro u75 e75
        refine HL.still (Runs.ixSl (o' := so + k) Try.underlying22 sz29 e74 e75 (by omega) (by omega) (by omega)) ?_
        intro u76 e76
        refine HL.still (Runs.load Try.underlying29 rfl e76 hcell') ?_
        intro u77 e77
        refine HL.one (HO.call Try.func20 bd20 nm20 (args1 e77) rfl ((rsum_ch h14 xs b1 c1 hby' (by omega)).mono ?_))
        rintro _ h20 ⟨rfl, Y20⟩
        intro u78 e78
        refine HL.one (HO.call Try.func42 bd42 nm42 (args2 e73 e78) rfl ((getBO_ch h20 t s (shaD xs) (((T5.ext hXv).ext Y14).ext Y20)).mono ?_))
        rintro _ h21 ⟨rfl, Y21⟩
        intro u79 e79
        refine HL.still (Runs.move e79) ?_
        intro u72 e72
        refine HL.still (Runs.extr e72 rfl) ?_
        intro u80 e80
        refine HL.still (Runs.extr e72 rfl) ?_
        intro u81 e81
        refine HL.still (Runs.assign e80) ?_
        intro u16 e16
        refine HL.still (Runs.assign e81) ?_
        intro u17 e17
        refine HL.nil ?_
        have d17 : u17 = .bool false := e17
        have Y21 := Y20.ext Y21 (Nat.le_refl _)
        -- region 22
        repeat refine HW.seq ?_
        refine HW.region ?_
        refine HL.still (Runs.move d15) ?_
        intro u82 e82
        refine HL.still (Runs.neq e82 rfl (t := false) rfl) ?_
        intro u83 e83
        refine HL.still (Runs.move e83) ?_
        intro u84 e84
        refine HL.stillG rfl rfl e84 (Runs.loadAgg Try.underlying31 rfl sz31 d14 (encD_len zD) (load_blk (Y21.keepE kd))) ?_
        intro u85 e85
        refine HL.stillG rfl rfl e84 (Runs.buildZ31) ?_
        intro u86 e86
        refine HL.stillG rfl rfl e84 (Runs.neqBytes Try.underlying31 Try.underlying5 sz5 eg31 e85 e86 (t := false) zD.2 rfl rfl) ?_
        intro u87 e87
        refine HL.still (Runs.pick e84 e87) ?_
        intro u88 e88
        refine HL.still (Runs.move e88) ?_
        intro u89 e89
        refine HL.stillG rfl rfl e89 (Runs.move d17) ?_
        intro u90 e90
        refine HL.still (Runs.pick e89 e90) ?_
        intro u91 e91
        refine HL.nil ?_
        refine HW.no e91 ?_
        refine HW.skip ?_
        -- region 19
        repeat refine HW.seq ?_
        refine HW.region ?_
        refine HL.still (Runs.move f13) ?_
        intro u61 e61
        refine HL.still (Runs.add e61 rfl (i64w (by omega))) ?_
        intro u62 e62
        refine HL.still (Runs.assign e62) ?_
        intro u13 e13
        refine HL.nil ?_
        exact ⟨l.length - (k + 1), by omega, k + 1, by omega, rfl, e13, f1, f7, f9, f10, f12, (hXv.ext Y14 (Nat.le_refl _)).ext Y21 (Nat.le_refl _)⟩
      · have hkl : k = l.length := by omega
        subst hkl
        -- region 18
        repeat refine HW.seq ?_
        refine HW.region ?_
        refine HL.still (Runs.move f13) ?_
        intro u57 e57
        refine HL.still (Runs.move f1) ?_
        intro u58 e58
        refine HL.still (Runs.lenSl rfl Try.underlying22 e58) ?_
        intro u59 e59
        refine HL.still (Runs.lss e57 e59 rfl) ?_
        intro u60 e60
        refine HL.nil ?_
        repeat refine HW.seq ?_
        refine HW.no ?_ ?_
        exact e60.trans (congrArg Value.bool (decide_eq_false (by omega)))
        refine HW.exitHere ?_
        exact ⟨f7, f9, f10, f12, hXv⟩
    clear e12 e13 f1 f7 f9 f10 d12
    rintro f v ⟨f7, f9, f10, f12, hXv⟩
    have S6 := S5.ext hXv
    have T6 := T5.ext hXv
    have zv := hXv.size
    have htl := lt_of_some T.1
    -- region 24
    repeat refine HW.seq ?_
    refine HW.region ?_
    refine HL.still (Runs.move f10) ?_
    intro u92 e92
    refine HL.one (HO.call Try.func41 bd41 nm41 (args1 e92) rfl ((discard_ch v t s none none 0 0 0 true T6.1).mono ?_))
    rintro _ h24 ⟨_, w24⟩
    intro u93 e93
    refine HL.nil ?_
    have E24 : ExF (fun j => own j = 2) v h24 := ⟨by rw [w24.size]; exact Nat.le_refl _, fun j _ hn => w24.old j fun e => hn (e ▸ T6.2)⟩
    have S7 := S6.other E24 (by decide)
    have T7 : BatO (fun _ => True) h24 t s := ⟨w24.new, trivial⟩
    have D7 : Ds h24 u.size ka kc ks := (D.ext hXv).keep' fun g e => w24.old g (by have := (D.lie g 0 e).1; omega)
    have X7 := E24.only L (by decide) hN.symm (hX5.ext hXv (Nat.le_refl _))
    -- region 25
    repeat refine HW.seq ?_
    refine HW.region ?_
    refine HL.still (Runs.move f7) ?_
    intro u94 e94
    refine HL.still (Runs.move e94) ?_
    intro u95 e95
    refine HL.stillG rfl rfl e95 (Runs.move f10) ?_
    intro u96 e96
    refine HL.oneG rfl rfl e95 (HO.call Try.func44 bd44 nm44 (args1 e96) rfl ((stagedO_ch h24 t s T7).mono ?_))
    rintro _ h25 ⟨_, _, rfl, _, Y25⟩
    intro u97 e97
    refine HL.stillG rfl rfl e95 (Runs.lenSl rfl Try.underlying41 e97) ?_
    intro u98 e98
    refine HL.stillG rfl rfl e95 (Runs.eql e98 rfl (t := true) rfl) ?_
    intro u99 e99
    refine HL.still (Runs.pick e95 e99) ?_
    intro u100 e100
    refine HL.still (Runs.move e100) ?_
    intro u101 e101
    refine HL.stillG rfl rfl e101 (Runs.move f10) ?_
    intro u102 e102
    refine HL.oneG rfl rfl e101 (HO.call Try.func39 bd39 nm39 (args1 e102) rfl ((commitO_ch h25 t s (T7.ext Y25)).mono ?_))
    rintro _ h26 ⟨rfl, Y26⟩
    intro u103 e103
    refine HL.stillG rfl rfl e101 (Runs.eql e103 rfl (t := true) rfl) ?_
    intro u104 e104
    refine HL.still (Runs.pick e101 e104) ?_
    intro u105 e105
    refine HL.still (Runs.move e105) ?_
    intro u106 e106
    refine HL.stillG rfl rfl e106 (Runs.move f12) ?_
    intro u107 e107
    refine HL.stillG rfl rfl e106 (Runs.move f9) ?_
    intro u108 e108
    refine HL.oneG rfl rfl e106 (HO.call Try.func29 bd29 nm29 (args1 e108) rfl ((keysS_ch h26 s b room M ((S7.ext Y25).ext Y26) (by omega)).mono ?_))
    rintro _ h27 ⟨kb, kc2, ks2, rfl, D2, kp2, kq2, Y27⟩
    intro u109 e109
    refine HL.oneG rfl rfl e106 (HO.call Try.func30 bd30 nm30 (args2 e107 e109) rfl ((keys_ch h27 ks ks2 ka kb _ _ kc kc2 rfl rfl (((D7.ext Y25).ext Y26).ext Y27).dgs D2.dgs (by omega) (by rw [kp2.length_eq, List.length_map]; omega)).mono ?_))
    rintro _ h28 ⟨rfl, hh28⟩
    intro u110 e110
    refine HL.still (Runs.pick e106 e110) ?_
    intro u111 e111
    refine HL.still (Runs.assign e111) ?_
    intro u6 e6
    refine HL.nil ?_
    refine HW.ret ?_
    rw [hh28]
    exact RT.one rfl e6 ⟨by rw [keys_same G kp kq kp2 kq2]; simp, ((X7.ext Y25 (Nat.le_refl _)).ext Y26 (Nat.le_refl _)).ext Y27 (Nat.le_refl _)⟩
end Go.Proofs.Ytklelhfgbjpifaa
