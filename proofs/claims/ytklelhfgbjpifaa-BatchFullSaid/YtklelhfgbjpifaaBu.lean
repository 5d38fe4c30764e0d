/- The law BatchFull, walked. -/
import Derived.Test.YtklelhfgbjpifaaBx
namespace Go.Proofs.Ytklelhfgbjpifaa
set_option linter.unnecessarySimpa false
set_option linter.unusedSimpArgs false
set_option linter.unusedVariables false
open Go.RowKit
set_option maxRecDepth 10000 in
set_option maxHeartbeats 2000000 in
theorem lawFull_ch (h : Heap) (r : Int) (l : List (Option Addr × Nat × List UInt8)) (a : Option Addr) (cap : Nat) (hB : Byts h a l) (hl : l.length ≤ maxLen) (hz : ∀ x ∈ l, x.2.2.length ≤ 140737488355328)
    (m : List (Option Addr × Nat × List UInt8)) (am : Option Addr) (capm : Nat) (hBm : Byts h am m) (hlm : m.length ≤ maxLen) (hzm : ∀ x ∈ m, x.2.2.length ≤ 140737488355328) :
    CH Try.prog 12 #[I64 r, .slice a l.length cap, .slice am m.length capm] h fun v h' => v = .bool true ∧ Ext h h' := by
  refine CH.of_body Try.func12 rfl rfl rfl ?_
  intro f hf
  have p0 : f 0 = I64 r := by rw [hf]; exact fr0_at rfl
  have p1 : f 1 = .slice a l.length cap := by rw [hf]; exact fr0_at rfl
  have p2 : f 2 = .slice am m.length capm := by rw [hf]; exact fr0_at rfl
  -- region 0
  repeat refine HW.seq ?_
  refine HW.region ?_
  refine HL.still (Runs.assign rfl) ?_
  intro u6 e6
  refine HL.nil ?_
  -- region 1
  repeat refine HW.seq ?_
  refine HW.region ?_
  refine HL.one (HO.call Try.func34 bd34 nm34 (args0) rfl ((small4_ch h).mono ?_))
  rintro _ h1 ⟨rfl, X1⟩
  intro u18 e18
  refine HL.still (Runs.assign e18) ?_
  intro u7 e7
  refine HL.nil ?_
  -- region 2
  repeat refine HW.seq ?_
  refine HW.region ?_
  refine HL.still (Runs.move p1) ?_
  intro u19 e19
  refine HL.one (HO.call Try.func15 bd15 nm15 (args1 e19) rfl ((few_ch h1 l a l.length cap rfl (hB.ext X1) hl hz).mono ?_))
  rintro _ h2 ⟨rfl, rfl⟩
  intro u20 e20
  refine HL.still (Runs.assign e20) ?_
  intro u8 e8
  refine HL.nil ?_
  -- region 3
  repeat refine HW.seq ?_
  refine HW.region ?_
  refine HL.still (Runs.move p2) ?_
  intro u21 e21
  refine HL.one (HO.call Try.func15 bd15 nm15 (args1 e21) rfl ((few_ch h2 m am m.length capm rfl (hBm.ext X1) hlm hzm).mono ?_))
  rintro _ h2' ⟨rfl, rfl⟩
  intro u22 e22
  refine HL.still (Runs.assign e22) ?_
  intro u9 e9
  refine HL.nil ?_
  -- region 4
  repeat refine HW.seq ?_
  refine HW.region ?_
  refine HL.still (Runs.move p0) ?_
  intro u23 e23
  refine HL.one (HO.call Try.func16 bd16 nm16 (args1 e23) rfl ((newS_ch h2' r).mono ?_))
  rintro _ h3 ⟨rfl, S3, X3⟩
  intro u24 e24
  refine HL.still (Runs.assign e24) ?_
  intro u10 e10
  refine HL.nil ?_
  have XA : Ext h h3 := X1.ext X3 (Nat.le_refl _)
  have z1 := X1.size
  have z3 := X3.size
  have g7 : u7 = .bool true := e7
  obtain ⟨s, hs⟩ : ∃ s, s = h2'.size + 1 := ⟨_, rfl⟩
  obtain ⟨b, hb⟩ : ∃ b, b = h2'.size := ⟨_, rfl⟩
  rw [← hb] at S3 hs e10
  rw [← hs] at S3 e10
  obtain ⟨room, hroom⟩ : ∃ room, room = roomO r := ⟨_, rfl⟩
  have hr0 := roomO_0 r
  have hr1 := roomO_top r
  rw [← hroom] at S3 hr0 hr1
  obtain ⟨N, hN⟩ : ∃ N, N = h.size := ⟨_, rfl⟩
  cases hfew : fewO l with
  | false =>
    have g8 : u8 = .bool false := e8.trans (congrArg Value.bool hfew)
    -- region 5
    repeat refine HW.seq ?_
    refine HW.region ?_
    refine HL.still (Runs.move e10) ?_
    intro u25 e25
    refine HL.still (Runs.eqNil Try.underlying25 e25 rfl) ?_
    intro u26 e26
    refine HL.still (Runs.move e26) ?_
    intro u27 e27
    refine HL.stillG rfl rfl e27 (Runs.move g8) ?_
    intro u28 e28
    refine HL.stillG rfl rfl e27 (Runs.notb e28 (t := false) (u := true) rfl) ?_
    intro u29 e29
    refine HL.still (Runs.pick e27 e29) ?_
    intro u30 e30
    refine HL.still (Runs.move e30) ?_
    intro u31 e31
    refine HL.skipG rfl rfl e31 ?_
    intro u32 e32
    refine HL.skipG rfl rfl e31 ?_
    intro u33 e33
    refine HL.still (Runs.pick e31 rfl) ?_
    intro u34 e34
    refine HL.nil ?_
    refine HW.yes e34 ?_
    -- region 6
    repeat refine HW.seq ?_
    refine HW.region ?_
    refine HL.still (Runs.move g7) ?_
    intro u35 e35
    refine HL.still (Runs.move e35) ?_
    intro u36 e36
    refine HL.stillG rfl rfl e36 (Runs.move e10) ?_
    intro u37 e37
    refine HL.stillG rfl rfl e36 (Runs.neqNil Try.underlying25 e37 rfl) ?_
    intro u38 e38
    refine HL.still (Runs.pick e36 e38) ?_
    intro u39 e39
    refine HL.still (Runs.assign e39) ?_
    intro u6 e6
    refine HL.nil ?_
    refine HW.ret ?_
    exact RT.one rfl e6 ⟨rfl, XA⟩
  | true =>
  have g8 : u8 = .bool true := e8.trans (congrArg Value.bool hfew)
  cases hfewm : fewO m with
  | false =>
    have g9 : u9 = .bool false := e9.trans (congrArg Value.bool hfewm)
    -- region 5
    repeat refine HW.seq ?_
    refine HW.region ?_
    refine HL.still (Runs.move e10) ?_
    intro u25 e25
    refine HL.still (Runs.eqNil Try.underlying25 e25 rfl) ?_
    intro u26 e26
    refine HL.still (Runs.move e26) ?_
    intro u27 e27
    refine HL.stillG rfl rfl e27 (Runs.move g8) ?_
    intro u28 e28
    refine HL.stillG rfl rfl e27 (Runs.notb e28 (t := true) (u := false) rfl) ?_
    intro u29 e29
    refine HL.still (Runs.pick e27 e29) ?_
    intro u30 e30
    refine HL.still (Runs.move e30) ?_
    intro u31 e31
    refine HL.stillG rfl rfl e31 (Runs.move g9) ?_
    intro u32 e32
    refine HL.stillG rfl rfl e31 (Runs.notb e32 (t := false) (u := true) rfl) ?_
    intro u33 e33
    refine HL.still (Runs.pick e31 e33) ?_
    intro u34 e34
    refine HL.nil ?_
    refine HW.yes e34 ?_
    -- region 6
    repeat refine HW.seq ?_
    refine HW.region ?_
    refine HL.still (Runs.move g7) ?_
    intro u35 e35
    refine HL.still (Runs.move e35) ?_
    intro u36 e36
    refine HL.stillG rfl rfl e36 (Runs.move e10) ?_
    intro u37 e37
    refine HL.stillG rfl rfl e36 (Runs.neqNil Try.underlying25 e37 rfl) ?_
    intro u38 e38
    refine HL.still (Runs.pick e36 e38) ?_
    intro u39 e39
    refine HL.still (Runs.assign e39) ?_
    intro u6 e6
    refine HL.nil ?_
    refine HW.ret ?_
    exact RT.one rfl e6 ⟨rfl, XA⟩
  | true =>
    obtain ⟨h40, h2000⟩ := few_of hfew
    obtain ⟨m40, m2000⟩ := few_of hfewm
    have g9 : u9 = .bool true := e9.trans (congrArg Value.bool hfewm)
    -- region 5
    repeat refine HW.seq ?_
    refine HW.region ?_
    refine HL.still (Runs.move e10) ?_
    intro u25 e25
    refine HL.still (Runs.eqNil Try.underlying25 e25 rfl) ?_
    intro u26 e26
    refine HL.still (Runs.move e26) ?_
    intro u27 e27
    refine HL.stillG rfl rfl e27 (Runs.move g8) ?_
    intro u28 e28
    refine HL.stillG rfl rfl e27 (Runs.notb e28 (t := true) (u := false) rfl) ?_
    intro u29 e29
    refine HL.still (Runs.pick e27 e29) ?_
    intro u30 e30
    refine HL.still (Runs.move e30) ?_
    intro u31 e31
    refine HL.stillG rfl rfl e31 (Runs.move g9) ?_
    intro u32 e32
    refine HL.stillG rfl rfl e31 (Runs.notb e32 (t := true) (u := false) rfl) ?_
    intro u33 e33
    refine HL.still (Runs.pick e31 e33) ?_
    intro u34 e34
    refine HL.nil ?_
    refine HW.no e34 ?_
    refine HW.skip ?_
    obtain ⟨o1, ho1⟩ : ∃ o1, o1 = stamp (fun _ => 0) N 1 := ⟨_, rfl⟩
    have L1 : ∀ j, j < N → o1 j = 0 := fun j hj => by rw [ho1]; exact stamp_lt hj
    have S3 : Sto (fun j => o1 j = 1) h3 s b room [] := S3.weaken fun _ _ q => by rw [ho1]; exact stamp_ge (by omega)
    -- region 7
    repeat refine HW.seq ?_
    refine HW.region ?_
    refine HL.still (Runs.move e10) ?_
    intro u40 e40
    refine HL.one (HO.call Try.func36 bd36 nm36 (args1 e40) rfl ((newB_own (own := o1) 2 h3 s).mono ?_))
    rintro _ h4 ⟨rfl, T4, X4⟩
    intro u41 e41
    refine HL.still (Runs.assign e41) ?_
    intro u11 e11
    refine HL.nil ?_
    have S4 := S3.other (.of_ext X4) (x := 2) (by decide)
    have L4 := stamp_low (x := 2) L1 (by omega : N ≤ h3.size)
    obtain ⟨t, ht⟩ : ∃ t, t = h3.size + 1 := ⟨_, rfl⟩
    obtain ⟨bm, hbm⟩ : ∃ bm, bm = h3.size := ⟨_, rfl⟩
    rw [← ht] at T4 e11
    rw [show Bat (fun j => stamp o1 h3.size 2 j = 2) h4 t h3.size none s [] = Bat (fun j => stamp o1 h3.size 2 j = 2) h4 t bm none s [] by rw [hbm]] at T4
    obtain ⟨o4, ho4⟩ : ∃ o4, o4 = stamp o1 h3.size 2 := ⟨_, rfl⟩
    rw [← ho4] at S4 T4 L4
    have XA := XA.ext X4 (Nat.le_refl _)
    -- region 8
    repeat refine HW.seq ?_
    refine HW.region ?_
    refine HL.still (Runs.move e11) ?_
    intro u42 e42
    refine HL.still (Runs.eqNil Try.underlying52 e42 rfl) ?_
    intro u43 e43
    refine HL.nil ?_
    refine HW.no e43 ?_
    refine HW.skip ?_
    clear S3 L1 ho1 ho4 X3 X4 X1
    -- region 10
    repeat refine HW.seq ?_
    refine HW.region ?_
    refine HL.still (Runs.assign rfl) ?_
    intro u12 e12
    refine HL.nil ?_
    repeat refine HW.seq ?_
    refine HW.mono (N := fun f u => f 2 = .slice am m.length capm ∧ f 7 = .bool true ∧ f 10 = .pointer (some ⟨s, 0, none⟩) ∧ f 11 = .pointer (some ⟨t, 0, none⟩) ∧ Ext h u ∧ ∃ (own : Nat → Nat) (W : Blobs) (oa : Option Addr), (∀ j, j < N → own j = 0) ∧ Sto (fun j => own j = 1) u s b room [] ∧ Bat (fun j => own j = 2) u t bm oa s W ∧ Stg W 40 2000) ?_ ?_ (fun _ _ _ q => q) (fun _ _ q => q)
    · refine HW.block ?_
      refine HW.loop (fun n f u => ∃ k : Nat, k ≤ l.length ∧ n = l.length - k ∧ f 12 = I64 k ∧ f 1 = .slice a l.length cap ∧ f 2 = .slice am m.length capm ∧ f 7 = .bool true ∧ f 10 = .pointer (some ⟨s, 0, none⟩) ∧ f 11 = .pointer (some ⟨t, 0, none⟩) ∧ Ext h u ∧ ∃ (own : Nat → Nat) (W : Blobs) (oa : Option Addr), (∀ j, j < N → own j = 0) ∧ Sto (fun j => own j = 1) u s b room [] ∧ Bat (fun j => own j = 2) u t bm oa s W ∧ Stg W k 2000) l.length
        ⟨0, Nat.zero_le _, rfl, e12, p1, p2, g7, e10, e11, XA, o4, [], none, L4, S4, T4, Stg.nil _⟩ ?_
      clear e6 e7 e8 e9 e10 e11 e12 g7 g8 g9 p0 p1 p2 S4 T4 L4 XA
      rintro n f u ⟨k, hk, hn, f12, f1, f2, f7, f10, f11, hX, own, W, oa, L, S, T, G⟩
      by_cases hlt : k < l.length
      · obtain ⟨sb, so, hsa, b1, c1, xs, hx, hcell, hby, hle⟩ := (hB.ext hX).at hlt
        have hxl := lens_mem hx
        obtain ⟨W', d, e, hp⟩ : ∃ W' d e, putBO room W [] xs = (W', d, e) := ⟨_, _, _, rfl⟩
        have G' := G.put (by omega) hp
        have hu := hX.size
        have htt := G.tot
        have hll := G.len
        have htW : tot W ≤ 1000000000 := Nat.le_trans htt (by have : k * 2000 ≤ 40 * 2000 := Nat.mul_le_mul_right _ (by omega); omega)
        subst hsa
        -- region 11
        repeat refine HW.seq ?_
        refine HW.region ?_
        refine HL.still (Runs.move f12) ?_
        intro u44 e44
        refine HL.still (Runs.move f1) ?_
        intro u45 e45
        refine HL.still (Runs.lenSl rfl Try.underlying22 e45) ?_
        intro u46 e46
        refine HL.still (Runs.lss e44 e46 rfl) ?_
        intro u47 e47
        refine HL.nil ?_
        repeat refine HW.seq ?_
        refine HW.yes ?_ ?_
        exact e47.trans (congrArg Value.bool (decide_eq_true (by omega)))
        refine HW.skip ?_
        repeat refine HW.seq ?_
        refine HW.block ?_
        -- region 13
        repeat refine HW.seq ?_
        refine HW.region ?_
        refine HL.still (Runs.move f11) ?_
        intro u50 e50
        refine HL.still (Runs.move f1) ?_
        intro u51 e51
        refine HL.still (Runs.move f12) ?_
        intro u52 e52
        refine HL.still (Runs.ixSl (o' := so + k) Try.underlying22 sz29 e51 e52 (by omega) (by omega) (by omega)) ?_
        intro u53 e53
        refine HL.still (Runs.load Try.underlying29 rfl e53 hcell) ?_
        intro u54 e54
        refine HL.one (HO.call Try.func37 bd37 nm37 (args2 e50 e54) rfl ((putB_own (own := own) (x := 1) (y := 2) u t bm oa s b room W W' [] xs d e b1 c1 hp T S hby hle (by omega) hr1 hr0 (by simpa [tot] using hr0) htW (by omega)).mono ?_))
        rintro _ h9 ⟨_, ⟨oa', T9⟩, E9⟩
        intro u55 e55
        refine HL.nil ?_
        -- region 12
        repeat refine HW.seq ?_
        refine HW.region ?_
        refine HL.still (Runs.move f12) ?_
        intro u48 e48
        refine HL.still (Runs.add e48 rfl (i64w (by omega))) ?_
        intro u49 e49
        refine HL.still (Runs.assign e49) ?_
        intro u12 e12
        refine HL.nil ?_
        exact ⟨l.length - (k + 1), by omega, k + 1, by omega, rfl, e12, f1, f2, f7, f10, f11, E9.only L (by decide) hN.symm hX, _, W', oa', stamp_low L (by omega), S.other E9 (by decide), T9, G'⟩
      · have hkl : k = l.length := by omega
        subst hkl
        -- region 11
        repeat refine HW.seq ?_
        refine HW.region ?_
        refine HL.still (Runs.move f12) ?_
        intro u44 e44
        refine HL.still (Runs.move f1) ?_
        intro u45 e45
        refine HL.still (Runs.lenSl rfl Try.underlying22 e45) ?_
        intro u46 e46
        refine HL.still (Runs.lss e44 e46 rfl) ?_
        intro u47 e47
        refine HL.nil ?_
        repeat refine HW.seq ?_
        refine HW.no ?_ ?_
        exact e47.trans (congrArg Value.bool (decide_eq_false (by omega)))
        refine HW.exitHere ?_
        exact ⟨f2, f7, f10, f11, hX, own, W, oa, L, S, T, ⟨by have := G.len; omega, G.nodup, G.small, G.own⟩⟩
    clear e6 e7 e8 e9 e10 e11 e12 g7 g8 g9 p0 p1 p2 S4 T4 L4 XA
    rintro f u ⟨f2, f7, f10, f11, hX, own, W, oa, L, S, T, G⟩
    have htW : tot W ≤ 1000000000 := Nat.le_trans G.tot (by decide)
    have hlW := G.len
    -- the others
    -- region 14
    repeat refine HW.seq ?_
    refine HW.region ?_
    refine HL.still (Runs.assign rfl) ?_
    intro u13 e13
    refine HL.nil ?_
    repeat refine HW.seq ?_
    refine HW.mono (N := fun f u => f 7 = .bool true ∧ f 10 = .pointer (some ⟨s, 0, none⟩) ∧ f 11 = .pointer (some ⟨t, 0, none⟩) ∧ Ext h u ∧ ∃ (own : Nat → Nat) (M : Blobs), (∀ j, j < N → own j = 0) ∧ Sto (fun j => own j = 1) u s b room M ∧ Bat (fun j => own j = 2) u t bm oa s W ∧ Good room M 40) ?_ ?_ (fun _ _ _ q => q) (fun _ _ q => q)
    · refine HW.block ?_
      refine HW.loop (fun n f u => ∃ k : Nat, k ≤ m.length ∧ n = m.length - k ∧ f 13 = I64 k ∧ f 2 = .slice am m.length capm ∧ f 7 = .bool true ∧ f 10 = .pointer (some ⟨s, 0, none⟩) ∧ f 11 = .pointer (some ⟨t, 0, none⟩) ∧ Ext h u ∧ ∃ (own : Nat → Nat) (M : Blobs), (∀ j, j < N → own j = 0) ∧ Sto (fun j => own j = 1) u s b room M ∧ Bat (fun j => own j = 2) u t bm oa s W ∧ Good room M k) m.length
        ⟨0, Nat.zero_le _, rfl, e13, f2, f7, f10, f11, hX, own, [], L, S, T, Good.nil hr0⟩ ?_
      clear e13 f2 f7 f10 f11 hX L S T
      rintro n f u ⟨k, hk, hn, f13, f2, f7, f10, f11, hX, own, M, L, S, T, GG⟩
      by_cases hlt : k < m.length
      · obtain ⟨sb, so, hsa, b1, c1, xs, hx, hcell, hby, hle⟩ := (hBm.ext hX).at hlt
        have hxl := lens_mem hx
        obtain ⟨M', d, e, hp⟩ : ∃ M' d e, putO room M xs = (M', d, e) := ⟨_, _, _, rfl⟩
        have GG' : Good room M' (k + 1) := by have := GG.put xs; rw [hp] at this; exact this
        have hu := hX.size
        subst hsa
        -- region 15
        repeat refine HW.seq ?_
        refine HW.region ?_
        refine HL.still (Runs.move f13) ?_
        intro u56 e56
        refine HL.still (Runs.move f2) ?_
        intro u57 e57
        refine HL.still (Runs.lenSl rfl Try.underlying22 e57) ?_
        intro u58 e58
        refine HL.still (Runs.lss e56 e58 rfl) ?_
        intro u59 e59
        refine HL.nil ?_
        repeat refine HW.seq ?_
        refine HW.yes ?_ ?_
        exact e59.trans (congrArg Value.bool (decide_eq_true (by omega)))
        refine HW.skip ?_
        repeat refine HW.seq ?_
        refine HW.block ?_
        -- region 17
        repeat refine HW.seq ?_
        refine HW.region ?_
        refine HL.still (Runs.move f10) ?_
        intro u62 e62
        refine HL.still (Runs.move f2) ?_
        intro u63 e63
        refine HL.still (Runs.move f13) ?_
        intro u64 e64
        refine HL.still (Runs.ixSl (o' := so + k) Try.underlying22 sz29 e63 e64 (by omega) (by omega) (by omega)) ?_
        intro u65 e65
        refine HL.still (Runs.load Try.underlying29 rfl e65 hcell) ?_
        intro u66 e66
        refine HL.one (HO.call Try.func18 bd18 nm18 (args2 e62 e66) rfl ((put_own (own := own) (x := 1) u s b room M M' xs d e b1 c1 hp S hby hle (by omega) hr1 hr0 GG.fits).mono ?_))
        rintro _ h9 ⟨_, S9, E9⟩
        intro u67 e67
        refine HL.nil ?_
        -- region 16
        repeat refine HW.seq ?_
        refine HW.region ?_
        refine HL.still (Runs.move f13) ?_
        intro u60 e60
        refine HL.still (Runs.add e60 rfl (i64w (by omega))) ?_
        intro u61 e61
        refine HL.still (Runs.assign e61) ?_
        intro u13 e13
        refine HL.nil ?_
        exact ⟨m.length - (k + 1), by omega, k + 1, by omega, rfl, e13, f2, f7, f10, f11, E9.only L (by decide) hN.symm hX, _, M', stamp_low L (by omega), S9, T.other E9 (by decide), GG'⟩
      · have hkl : k = m.length := by omega
        subst hkl
        -- region 15
        repeat refine HW.seq ?_
        refine HW.region ?_
        refine HL.still (Runs.move f13) ?_
        intro u56 e56
        refine HL.still (Runs.move f2) ?_
        intro u57 e57
        refine HL.still (Runs.lenSl rfl Try.underlying22 e57) ?_
        intro u58 e58
        refine HL.still (Runs.lss e56 e58 rfl) ?_
        intro u59 e59
        refine HL.nil ?_
        repeat refine HW.seq ?_
        refine HW.no ?_ ?_
        exact e59.trans (congrArg Value.bool (decide_eq_false (by omega)))
        refine HW.exitHere ?_
        exact ⟨f7, f10, f11, hX, own, M, L, S, T, GG.more (by omega)⟩
    clear e13 f2 f7 f10 f11 hX L S T
    rintro f u ⟨f7, f10, f11, hX, own, M, L, S, T, GG⟩
    have hMl := GG.len
    have hu := hX.size
    -- region 18
    repeat refine HW.seq ?_
    refine HW.region ?_
    refine HL.still (Runs.move f10) ?_
    intro u68 e68
    refine HL.one (HO.call Try.func29 bd29 nm29 (args1 e68) rfl ((keysS_ch u s b room M S (by omega)).mono ?_))
    rintro _ hk ⟨ka, kc, ks, rfl, D, kp, kq, Xk⟩
    intro u69 e69
    refine HL.still (Runs.assign e69) ?_
    intro u14 e14
    refine HL.nil ?_
    have d14 : u14 = .slice ka ks.length kc := e14
    have hksl : ks.length = M.length := by rw [kp.length_eq, List.length_map]
    -- region 19
    repeat refine HW.seq ?_
    refine HW.region ?_
    refine HL.still (Runs.move f11) ?_
    intro u70 e70
    refine HL.one (HO.call Try.func44 bd44 nm44 (args1 e70) rfl ((staged_ch hk t bm oa s W (T.ext Xk) (by omega)).mono ?_))
    rintro _ hq ⟨qa, qc, rfl, Q, Xq⟩
    intro u71 e71
    refine HL.still (Runs.assign e71) ?_
    intro u15 e15
    refine HL.nil ?_
    have d15 : u15 = .slice qa (W.map (·.1)).length qc := e15
    have Xq' := Xk.ext Xq (Nat.le_refl _)
    have Sq := S.other (.of_ext Xq') (x := 0) (by decide)
    have Tq := T.other (.of_ext Xq') (x := 0) (by decide)
    have Lq := stamp_low (x := 0) L (by omega : N ≤ u.size)
    have Dq := D.ext Xq
    have hXq := hX.ext Xq' (Nat.le_refl _)
    have zk := Xk.size
    have zq := Xq.size
    obtain ⟨K, hK⟩ : ∃ K, K = W.map (·.1) := ⟨_, rfl⟩
    have hKl : K.length = W.length := by rw [hK, List.length_map]
    rw [← hK] at Q d15
    have hQ : ∀ g, qa = some ⟨g, 0, none⟩ → g < hq.size ∧ stamp own u.size 0 g = 0 := fun g e => ⟨(Q.lie g 0 e).2, stamp_ge (by have := (Q.lie g 0 e).1; omega)⟩
    obtain ⟨oq, hoq⟩ : ∃ oq, oq = stamp own u.size 0 := ⟨_, rfl⟩
    rw [← hoq] at Sq Tq Lq hQ
    by_cases hful : (needO M W : Int) > room - tot M
    · have hcm : commitO room W M = (M, 2) := by unfold commitO; rw [if_pos hful]
      -- region 20
      repeat refine HW.seq ?_
      refine HW.region ?_
      refine HL.still (Runs.move f11) ?_
      intro u72 e72
      refine HL.one (HO.call Try.func39 bd39 nm39 (args1 e72) rfl ((commit_own (own := oq) (x := 1) (y := 2) hq t bm oa s b room W M (by decide) Tq Sq hr1 hr0 GG.fits htW (by omega) (fun p hp => Nat.le_trans (G.small p hp) (by decide))).mono ?_))
      rintro _ h6 ⟨rfl, _, T6, _⟩
      intro u73 e73
      refine HL.still (Runs.assign e73) ?_
      intro u16 e16
      refine HL.nil ?_
      rw [hcm] at T6 e16
      have d16 : u16 = I64 2 := e16
      obtain ⟨T6, X6⟩ : Bat (fun j => stamp oq hq.size 1 j = 2) h6 t bm oa s W ∧ Ext hq h6 := by
        rcases T6 with ⟨q, _⟩ | ⟨_, q⟩
        · cases q
        · exact q
      -- region 21
      repeat refine HW.seq ?_
      refine HW.region ?_
      refine HL.still (Runs.move d16) ?_
      intro u74 e74
      refine HL.still (Runs.neq e74 rfl (t := true) rfl) ?_
      intro u75 e75
      refine HL.nil ?_
      refine HW.yes e75 ?_
      have S6 := Sq.ext X6
      -- region 22
      repeat refine HW.seq ?_
      refine HW.region ?_
      refine HL.still (Runs.move f7) ?_
      intro u76 e76
      refine HL.still (Runs.move e76) ?_
      intro u77 e77
      refine HL.stillG rfl rfl e77 (Runs.move d16) ?_
      intro u78 e78
      refine HL.stillG rfl rfl e77 (Runs.eql e78 rfl (t := true) rfl) ?_
      intro u79 e79
      refine HL.still (Runs.pick e77 e79) ?_
      intro u80 e80
      refine HL.still (Runs.move e80) ?_
      intro u81 e81
      refine HL.stillG rfl rfl e81 (Runs.move d14) ?_
      intro u82 e82
      refine HL.stillG rfl rfl e81 (Runs.move f10) ?_
      intro u83 e83
      refine HL.oneG rfl rfl e81 (HO.call Try.func29 bd29 nm29 (args1 e83) rfl ((keysS_ch h6 s b room M S6 (by omega)).mono ?_))
      rintro _ h7 ⟨kb, kc2, ks2, rfl, D2, kp2, kq2, X7⟩
      intro u84 e84
      refine HL.oneG rfl rfl e81 (HO.call Try.func30 bd30 nm30 (args2 e82 e84) rfl ((keysT_ch h7 ks ks2 ka kb _ _ kc kc2 rfl rfl ((Dq.ext X6).ext X7).dgs D2.dgs (by omega) (by rw [kp2.length_eq, List.length_map]; omega) (keys_same GG kp kq kp2 kq2)).mono ?_))
      rintro _ h8 ⟨rfl, X8⟩
      intro u85 e85
      refine HL.still (Runs.pick e81 e85) ?_
      intro u86 e86
      refine HL.still (Runs.move e86) ?_
      intro u87 e87
      refine HL.stillG rfl rfl e87 (Runs.move d15) ?_
      intro u88 e88
      refine HL.stillG rfl rfl e87 (Runs.move f11) ?_
      intro u89 e89
      refine HL.oneG rfl rfl e87 (HO.call Try.func44 bd44 nm44 (args1 e89) rfl ((staged_ch h8 t bm oa s W ((T6.ext X7).ext X8) (by omega)).mono ?_))
      rintro _ h9 ⟨qb, qc2, rfl, Q2, X9⟩
      intro u90 e90
      refine HL.oneG rfl rfl e87 (HO.call Try.func30 bd30 nm30 (args2 e88 e90) rfl ((keysT_ch h9 K K qa qb _ _ qc qc2 rfl (by rw [hK]) ((((Q.ext X6).ext X7).ext X8).ext X9).dgs (by rw [hK]; exact Q2.dgs) (by omega) (by omega) rfl).mono ?_))
      rintro _ h10 ⟨rfl, X10⟩
      intro u91 e91
      refine HL.still (Runs.pick e87 e91) ?_
      intro u92 e92
      refine HL.still (Runs.assign e92) ?_
      intro u6 e6
      refine HL.nil ?_
      refine HW.ret ?_
      exact RT.one rfl e6 ⟨rfl, ((((hXq.ext X6 (Nat.le_refl _)).ext X7 (Nat.le_refl _)).ext X8 (Nat.le_refl _)).ext X9 (Nat.le_refl _)).ext X10 (Nat.le_refl _)⟩
    · have hcm : commitO room W M = (putAll room M W, 0) := by unfold commitO; rw [if_neg hful]
      -- region 20
      repeat refine HW.seq ?_
      refine HW.region ?_
      refine HL.still (Runs.move f11) ?_
      intro u72 e72
      refine HL.one (HO.call Try.func39 bd39 nm39 (args1 e72) rfl ((commit_own (own := oq) (x := 1) (y := 2) hq t bm oa s b room W M (by decide) Tq Sq hr1 hr0 GG.fits htW (by omega) (fun p hp => Nat.le_trans (G.small p hp) (by decide))).mono ?_))
      rintro _ h6 ⟨rfl, S6, T6, E6⟩
      intro u73 e73
      refine HL.still (Runs.assign e73) ?_
      intro u16 e16
      refine HL.nil ?_
      rw [hcm] at T6 S6 e16
      have d16 : u16 = I64 0 := e16
      have T6 : BatO (fun j => stamp oq hq.size 1 j = 2) h6 t s := by
        rcases T6 with ⟨_, q⟩ | ⟨q, _⟩
        · exact q
        · cases q
      have X6 : Ext h h6 := only_st Lq hN.symm hXq E6.size (E6.kp2 (by decide) (by decide))
      have hin := putAll_has W (room := room) (M := M) G.own (by omega)
      have GP := GG.all W
      have Q6 : Ds h6 hk.size qa qc K := Q.keep' fun g e => (E6.kp2 (y := 0) (by decide) (by decide)) g (hQ g e).1 (hQ g e).2
      obtain ⟨P, hP⟩ : ∃ P, P = putAll room M W := ⟨_, rfl⟩
      rw [← hP] at hin GP S6
      -- region 21
      repeat refine HW.seq ?_
      refine HW.region ?_
      refine HL.still (Runs.move d16) ?_
      intro u74 e74
      refine HL.still (Runs.neq e74 rfl (t := false) rfl) ?_
      intro u75 e75
      refine HL.nil ?_
      refine HW.no e75 ?_
      refine HW.skip ?_
      clear e16 e14 e15
      -- region 23
      repeat refine HW.seq ?_
      refine HW.region ?_
      refine HL.still (Runs.assign rfl) ?_
      intro u17 e17
      refine HL.nil ?_
      repeat refine HW.seq ?_
      refine HW.mono (N := fun f v => f 7 = .bool true ∧ f 10 = .pointer (some ⟨s, 0, none⟩) ∧ f 11 = .pointer (some ⟨t, 0, none⟩) ∧ Ext h6 v) ?_ ?_ (fun _ _ _ q => q) (fun _ _ q => q)
      · refine HW.block ?_
        refine HW.loop (fun n f v => ∃ k : Nat, k ≤ K.length ∧ n = K.length - k ∧ f 17 = I64 k ∧ f 7 = .bool true ∧ f 10 = .pointer (some ⟨s, 0, none⟩) ∧ f 11 = .pointer (some ⟨t, 0, none⟩) ∧ f 15 = .slice qa K.length qc ∧ Ext h6 v) K.length
          ⟨0, Nat.zero_le _, rfl, e17, f7, f10, f11, d15, Bel.refl _ _⟩ ?_
        clear e17 f7 f10 f11 d14 d15 d16
        rintro n f v ⟨k, hk1, hn, f17, f7, f10, f11, f15, hXv⟩
        by_cases hlt : k < K.length
        · obtain ⟨sb, so, rfl, hc⟩ := (Q6.ext hXv).dgs.at hlt
          obtain ⟨d, hd⟩ : ∃ d, d = K.getD k zD := ⟨_, rfl⟩
          rw [← hd] at hc
          have hdK : d ∈ K := by rw [hd, List.getD_eq_getElem?_getD, List.getElem?_eq_getElem hlt]; exact List.getElem_mem hlt
          have hdP : (lookM P d).isSome = true := by
            rw [hK] at hdK
            obtain ⟨p, hp, rfl⟩ := List.mem_map.1 hdK
            exact lookM_mem (hin p hp)
          -- region 24
          repeat refine HW.seq ?_
          refine HW.region ?_
          refine HL.still (Runs.move f17) ?_
          intro u93 e93
          refine HL.still (Runs.move f15) ?_
          intro u94 e94
          refine HL.still (Runs.lenSl rfl Try.underlying41 e94) ?_
          intro u95 e95
          refine HL.still (Runs.lss e93 e95 rfl) ?_
          intro u96 e96
          refine HL.nil ?_
          repeat refine HW.seq ?_
          refine HW.yes ?_ ?_
          exact e96.trans (congrArg Value.bool (decide_eq_true (by omega)))
          refine HW.skip ?_
          repeat refine HW.seq ?_
          refine HW.block ?_
          -- region 26
          repeat refine HW.seq ?_
          refine HW.region ?_
          refine HL.still (Runs.move f10) ?_
          intro u99 e99
          refine HL.still (Runs.move f15) ?_
          intro u100 e100
          refine HL.still (Runs.move f17) ?_
          intro u101 e101
          refine HL.still (Runs.ixSl (o' := so + k * 32) Try.underlying41 sz31 e100 e101 (by omega) (by omega) (by omega)) ?_
          intro u102 e102
          refine HL.still (Runs.loadAgg Try.underlying31 rfl sz31 e102 (encD_len d) hc) ?_
          intro u103 e103
          refine HL.one (HO.call Try.func23 bd23 nm23 (args2 e99 e103) rfl ((hasX_ch v s b room P d true (S6.ext hXv) hdP).mono ?_))
          rintro _ h9 ⟨rfl, Y9⟩
          intro u104 e104
          refine HL.still (Runs.notb e104 (t := true) (u := false) rfl) ?_
          intro u105 e105
          refine HL.nil ?_
          refine HW.no e105 ?_
          refine HW.skip ?_
          -- region 25
          repeat refine HW.seq ?_
          refine HW.region ?_
          refine HL.still (Runs.move f17) ?_
          intro u97 e97
          refine HL.still (Runs.add e97 rfl (i64w (by omega))) ?_
          intro u98 e98
          refine HL.still (Runs.assign e98) ?_
          intro u17 e17
          refine HL.nil ?_
          exact ⟨K.length - (k + 1), by omega, k + 1, by omega, rfl, e17, f7, f10, f11, f15, hXv.ext Y9 (Nat.le_refl _)⟩
        · have hkl : k = K.length := by omega
          subst hkl
          -- region 24
          repeat refine HW.seq ?_
          refine HW.region ?_
          refine HL.still (Runs.move f17) ?_
          intro u93 e93
          refine HL.still (Runs.move f15) ?_
          intro u94 e94
          refine HL.still (Runs.lenSl rfl Try.underlying41 e94) ?_
          intro u95 e95
          refine HL.still (Runs.lss e93 e95 rfl) ?_
          intro u96 e96
          refine HL.nil ?_
          repeat refine HW.seq ?_
          refine HW.no ?_ ?_
          exact e96.trans (congrArg Value.bool (decide_eq_false (by omega)))
          refine HW.exitHere ?_
          exact ⟨f7, f10, f11, hXv⟩
      clear e17 f7 f10 f11 d14 d15 d16
      rintro f v ⟨f7, f10, f11, hXv⟩
      have Sv := S6.ext hXv
      have Tv := T6.ext hXv
      -- region 28
      repeat refine HW.seq ?_
      refine HW.region ?_
      refine HL.still (Runs.move f7) ?_
      intro u106 e106
      refine HL.still (Runs.move e106) ?_
      intro u107 e107
      refine HL.stillG rfl rfl e107 (Runs.move f10) ?_
      intro u108 e108
      refine HL.oneG rfl rfl e107 (HO.call Try.func26 bd26 nm26 (args1 e108) rfl ((usedX_ch v s b room P (tot P) Sv rfl).mono ?_))
      rintro _ ha ⟨rfl, Xa⟩
      intro u109 e109
      refine HL.stillG rfl rfl e107 (Runs.move f10) ?_
      intro u110 e110
      refine HL.oneG rfl rfl e107 (HO.call Try.func28 bd28 nm28 (args1 e110) rfl ((roomX_ch ha s b room P (Sv.ext Xa)).mono ?_))
      rintro _ hb' ⟨rfl, Xb⟩
      intro u111 e111
      refine HL.stillG rfl rfl e107 (Runs.leq e109 e111 (t := true) (decide_eq_true GP.fits)) ?_
      intro u112 e112
      refine HL.still (Runs.pick e107 e112) ?_
      intro u113 e113
      refine HL.still (Runs.move e113) ?_
      intro u114 e114
      refine HL.stillG rfl rfl e114 (Runs.move f11) ?_
      intro u115 e115
      refine HL.oneG rfl rfl e114 (HO.call Try.func44 bd44 nm44 (args1 e115) rfl ((stagedO_ch hb' t s ((Tv.ext Xa).ext Xb)).mono ?_))
      rintro _ hc' ⟨_, _, rfl, _, Xc⟩
      intro u116 e116
      refine HL.stillG rfl rfl e114 (Runs.lenSl rfl Try.underlying41 e116) ?_
      intro u117 e117
      refine HL.stillG rfl rfl e114 (Runs.eql e117 rfl (t := true) rfl) ?_
      intro u118 e118
      refine HL.still (Runs.pick e114 e118) ?_
      intro u119 e119
      refine HL.still (Runs.assign e119) ?_
      intro u6 e6
      refine HL.nil ?_
      refine HW.ret ?_
      exact RT.one rfl e6 ⟨rfl, (((X6.ext hXv (Nat.le_refl _)).ext Xa (Nat.le_refl _)).ext Xb (Nat.le_refl _)).ext Xc (Nat.le_refl _)⟩
end Go.Proofs.Ytklelhfgbjpifaa
