/- The law BatchStore, walked. -/
import Derived.Test.YtklelhfgbjpifaaBx
namespace Go.Proofs.Ytklelhfgbjpifaa
set_option linter.unnecessarySimpa false
set_option linter.unusedSimpArgs false
set_option linter.unusedVariables false
open Go.RowKit
set_option maxRecDepth 10000 in
set_option maxHeartbeats 2000000 in
theorem lawStore_ch (h : Heap) (l : List (Option Addr × Nat × List UInt8)) (a : Option Addr) (cap : Nat) (hB : Byts h a l) (hl : l.length ≤ maxLen) (hz : ∀ x ∈ l, x.2.2.length ≤ 140737488355328) :
    CH Try.prog 11 #[.slice a l.length cap] h fun v h' => v = .bool true ∧ Ext h h' := by
  refine CH.of_body Try.func11 rfl rfl rfl ?_
  intro f hf
  have p0 : f 0 = .slice a l.length cap := by rw [hf]; exact fr0_at rfl
  -- region 0
  repeat refine HW.seq ?_
  refine HW.region ?_
  refine HL.still (Runs.assign rfl) ?_
  intro u2 e2
  refine HL.nil ?_
  -- region 1
  repeat refine HW.seq ?_
  refine HW.region ?_
  refine HL.one (HO.call Try.func34 bd34 nm34 (args0) rfl ((small4_ch h).mono ?_))
  rintro _ h1 ⟨rfl, X1⟩
  intro u13 e13
  refine HL.still (Runs.assign e13) ?_
  intro u3 e3
  refine HL.nil ?_
  -- region 2
  repeat refine HW.seq ?_
  refine HW.region ?_
  refine HL.still (Runs.move p0) ?_
  intro u14 e14
  refine HL.one (HO.call Try.func15 bd15 nm15 (args1 e14) rfl ((few_ch h1 l a l.length cap rfl (hB.ext X1) hl hz).mono ?_))
  rintro _ h2 ⟨rfl, rfl⟩
  intro u15 e15
  refine HL.still (Runs.assign e15) ?_
  intro u4 e4
  refine HL.nil ?_
  -- region 3
  repeat refine HW.seq ?_
  refine HW.region ?_
  refine HL.one (HO.call Try.func16 bd16 nm16 (args1 rfl) rfl ((newS_ch h2 1048576).mono ?_))
  rintro _ h3 ⟨rfl, S3, X3⟩
  intro u16 e16
  refine HL.still (Runs.assign e16) ?_
  intro u5 e5
  refine HL.nil ?_
  -- region 4
  repeat refine HW.seq ?_
  refine HW.region ?_
  refine HL.one (HO.call Try.func16 bd16 nm16 (args1 rfl) rfl ((newS_ch h3 1048576).mono ?_))
  rintro _ h4 ⟨rfl, Z4, X4⟩
  intro u17 e17
  refine HL.still (Runs.assign e17) ?_
  intro u6 e6
  refine HL.nil ?_
  have hroom : roomO 1048576 = 1048576 := rfl
  rw [hroom] at S3 Z4
  have XA : Ext h h4 := (X1.ext X3 (Nat.le_refl _)).ext X4 (Nat.le_refl _)
  have z1 := X1.size
  have z3 := X3.size
  have z4 := X4.size
  have g3 : u3 = .bool true := e3
  obtain ⟨s, hs⟩ : ∃ s, s = h2.size + 1 := ⟨_, rfl⟩
  obtain ⟨b, hb⟩ : ∃ b, b = h2.size := ⟨_, rfl⟩
  rw [← hb] at S3 hs e5
  rw [← hs] at S3 e5
  obtain ⟨y, hy⟩ : ∃ y, y = h3.size + 1 := ⟨_, rfl⟩
  obtain ⟨c, hc⟩ : ∃ c, c = h3.size := ⟨_, rfl⟩
  obtain ⟨N, hN⟩ : ∃ N, N = h.size := ⟨_, rfl⟩
  obtain ⟨o1, ho1⟩ : ∃ o1, o1 = stamp (fun _ => 0) N 1 := ⟨_, rfl⟩
  have L1 : ∀ j, j < N → o1 j = 0 := fun j hj => by rw [ho1]; exact stamp_lt hj
  have S3 : Sto (fun j => o1 j = 1) h3 s b 1048576 [] := S3.weaken fun _ _ q => by rw [ho1]; exact stamp_ge (by omega)
  have S4 := S3.other (.of_ext X4) (x := 3) (by decide)
  have L4 := stamp_low (x := 3) L1 (by omega : N ≤ h3.size)
  have Z4 : Sto (fun j => stamp o1 h3.size 3 j = 3) h4 y c 1048576 [] := by
    rw [hy, hc]
    exact Z4.weaken fun _ _ q => stamp_ge q
  rw [← hc] at hy
  rw [← hc, ← hy] at e6
  obtain ⟨o4, ho4⟩ : ∃ o4, o4 = stamp o1 h3.size 3 := ⟨_, rfl⟩
  rw [← ho4] at S4 Z4 L4
  cases hfew : fewO l with
  | false =>
    have g4 : u4 = .bool false := e4.trans (congrArg Value.bool hfew)
    -- region 5
    repeat refine HW.seq ?_
    refine HW.region ?_
    refine HL.still (Runs.move e5) ?_
    intro u18 e18
    refine HL.still (Runs.eqNil Try.underlying25 e18 rfl) ?_
    intro u19 e19
    refine HL.still (Runs.move e19) ?_
    intro u20 e20
    refine HL.stillG rfl rfl e20 (Runs.move e6) ?_
    intro u21 e21
    refine HL.stillG rfl rfl e20 (Runs.eqNil Try.underlying25 e21 rfl) ?_
    intro u22 e22
    refine HL.still (Runs.pick e20 e22) ?_
    intro u23 e23
    refine HL.still (Runs.move e23) ?_
    intro u24 e24
    refine HL.stillG rfl rfl e24 (Runs.move g4) ?_
    intro u25 e25
    refine HL.stillG rfl rfl e24 (Runs.notb e25 (t := false) (u := true) rfl) ?_
    intro u26 e26
    refine HL.still (Runs.pick e24 e26) ?_
    intro u27 e27
    refine HL.nil ?_
    refine HW.yes e27 ?_
    -- region 6
    repeat refine HW.seq ?_
    refine HW.region ?_
    refine HL.still (Runs.move g3) ?_
    intro u28 e28
    refine HL.still (Runs.move e28) ?_
    intro u29 e29
    refine HL.stillG rfl rfl e29 (Runs.move e5) ?_
    intro u30 e30
    refine HL.stillG rfl rfl e29 (Runs.neqNil Try.underlying25 e30 rfl) ?_
    intro u31 e31
    refine HL.still (Runs.pick e29 e31) ?_
    intro u32 e32
    refine HL.still (Runs.move e32) ?_
    intro u33 e33
    refine HL.stillG rfl rfl e33 (Runs.move e6) ?_
    intro u34 e34
    refine HL.stillG rfl rfl e33 (Runs.neqNil Try.underlying25 e34 rfl) ?_
    intro u35 e35
    refine HL.still (Runs.pick e33 e35) ?_
    intro u36 e36
    refine HL.still (Runs.assign e36) ?_
    intro u2 e2
    refine HL.nil ?_
    refine HW.ret ?_
    exact RT.one rfl e2 ⟨rfl, XA⟩
  | true =>
    obtain ⟨h40, h2000⟩ := few_of hfew
    have g4 : u4 = .bool true := e4.trans (congrArg Value.bool hfew)
    -- region 5
    repeat refine HW.seq ?_
    refine HW.region ?_
    refine HL.still (Runs.move e5) ?_
    intro u18 e18
    refine HL.still (Runs.eqNil Try.underlying25 e18 rfl) ?_
    intro u19 e19
    refine HL.still (Runs.move e19) ?_
    intro u20 e20
    refine HL.stillG rfl rfl e20 (Runs.move e6) ?_
    intro u21 e21
    refine HL.stillG rfl rfl e20 (Runs.eqNil Try.underlying25 e21 rfl) ?_
    intro u22 e22
    refine HL.still (Runs.pick e20 e22) ?_
    intro u23 e23
    refine HL.still (Runs.move e23) ?_
    intro u24 e24
    refine HL.stillG rfl rfl e24 (Runs.move g4) ?_
    intro u25 e25
    refine HL.stillG rfl rfl e24 (Runs.notb e25 (t := true) (u := false) rfl) ?_
    intro u26 e26
    refine HL.still (Runs.pick e24 e26) ?_
    intro u27 e27
    refine HL.nil ?_
    refine HW.no e27 ?_
    refine HW.skip ?_
    -- region 7
    repeat refine HW.seq ?_
    refine HW.region ?_
    refine HL.still (Runs.move e5) ?_
    intro u37 e37
    refine HL.one (HO.call Try.func36 bd36 nm36 (args1 e37) rfl ((newB_own (own := o4) 2 h4 s).mono ?_))
    rintro _ h5 ⟨rfl, T5, X5⟩
    intro u38 e38
    refine HL.still (Runs.assign e38) ?_
    intro u7 e7
    refine HL.nil ?_
    have S5 := S4.other (.of_ext X5) (x := 2) (by decide)
    have Z5 := Z4.other (.of_ext X5) (x := 2) (by decide)
    have L5 := stamp_low (x := 2) L4 (by omega : N ≤ h4.size)
    obtain ⟨t, ht⟩ : ∃ t, t = h4.size + 1 := ⟨_, rfl⟩
    obtain ⟨bm, hbm⟩ : ∃ bm, bm = h4.size := ⟨_, rfl⟩
    rw [← ht] at T5 e7
    rw [show Bat (fun j => stamp o4 h4.size 2 j = 2) h5 t h4.size none s [] = Bat (fun j => stamp o4 h4.size 2 j = 2) h5 t bm none s [] by rw [hbm]] at T5
    obtain ⟨o5, ho5⟩ : ∃ o5, o5 = stamp o4 h4.size 2 := ⟨_, rfl⟩
    rw [← ho5] at S5 T5 Z5 L5
    have XA := XA.ext X5 (Nat.le_refl _)
    -- region 8
    repeat refine HW.seq ?_
    refine HW.region ?_
    refine HL.still (Runs.move e7) ?_
    intro u39 e39
    refine HL.still (Runs.eqNil Try.underlying52 e39 rfl) ?_
    intro u40 e40
    refine HL.nil ?_
    refine HW.no e40 ?_
    refine HW.skip ?_
    clear S3 S4 Z4 L1 L4 ho1 ho4 ho5 X3 X4 X1 X5
    -- region 10
    repeat refine HW.seq ?_
    refine HW.region ?_
    refine HL.still (Runs.assign rfl) ?_
    intro u8 e8
    refine HL.nil ?_
    repeat refine HW.seq ?_
    refine HW.mono (N := fun f u => f 3 = .bool true ∧ f 5 = .pointer (some ⟨s, 0, none⟩) ∧ f 6 = .pointer (some ⟨y, 0, none⟩) ∧ f 7 = .pointer (some ⟨t, 0, none⟩) ∧ Ext h u ∧ ∃ (own : Nat → Nat) (W : Blobs) (oa : Option Addr), (∀ j, j < N → own j = 0) ∧ Sto (fun j => own j = 1) u s b 1048576 [] ∧ Bat (fun j => own j = 2) u t bm oa s W ∧ Sto (fun j => own j = 3) u y c 1048576 W ∧ Stg W 40 2000 ∧ Good 1048576 W 40) ?_ ?_ (fun _ _ _ q => q) (fun _ _ q => q)
    · refine HW.block ?_
      refine HW.loop (fun m f u => ∃ k : Nat, k ≤ l.length ∧ m = l.length - k ∧ f 8 = I64 k ∧ f 0 = .slice a l.length cap ∧ f 3 = .bool true ∧ f 5 = .pointer (some ⟨s, 0, none⟩) ∧ f 6 = .pointer (some ⟨y, 0, none⟩) ∧ f 7 = .pointer (some ⟨t, 0, none⟩) ∧ Ext h u ∧ ∃ (own : Nat → Nat) (W : Blobs) (oa : Option Addr), (∀ j, j < N → own j = 0) ∧ Sto (fun j => own j = 1) u s b 1048576 [] ∧ Bat (fun j => own j = 2) u t bm oa s W ∧ Sto (fun j => own j = 3) u y c 1048576 W ∧ Stg W k 2000 ∧ Good 1048576 W k) l.length
        ⟨0, Nat.zero_le _, rfl, e8, p0, g3, e5, e6, e7, XA, o5, [], none, L5, S5, T5, Z5, Stg.nil _, Good.nil (by decide)⟩ ?_
      clear e2 e3 e4 e5 e6 e7 e8 g3 g4 p0 S5 T5 Z5 L5 XA
      rintro m f u ⟨k, hk, hm, f8, f0, f3, f5, f6, f7, hX, own, W, oa, L, S, T, Z, G, GG⟩
      by_cases hlt : k < l.length
      · obtain ⟨sb, so, hsa, b1, c1, xs, hx, hcell, hby, hle⟩ := (hB.ext hX).at hlt
        have hxl := lens_mem hx
        have htt := G.tot
        have hll := G.len
        have htW : tot W ≤ 80000 := Nat.le_trans htt (by have : k * 2000 ≤ 40 * 2000 := Nat.mul_le_mul_right _ (by omega); omega)
        obtain ⟨W', hp, hq⟩ := both_put (room := 1048576) (W := W) (xs := xs) (by omega)
        have G' := G.put (by omega) hp
        have GG' : Good 1048576 W' (k + 1) := by have := GG.put xs; rw [hq] at this; exact this
        have hu := hX.size
        subst hsa
        -- region 11
        repeat refine HW.seq ?_
        refine HW.region ?_
        refine HL.still (Runs.move f8) ?_
        intro u41 e41
        refine HL.still (Runs.move f0) ?_
        intro u42 e42
        refine HL.still (Runs.lenSl rfl Try.underlying22 e42) ?_
        intro u43 e43
        refine HL.still (Runs.lss e41 e43 rfl) ?_
        intro u44 e44
        refine HL.nil ?_
        repeat refine HW.seq ?_
        refine HW.yes ?_ ?_
        exact e44.trans (congrArg Value.bool (decide_eq_true (by omega)))
        refine HW.skip ?_
        repeat refine HW.seq ?_
        refine HW.block ?_
        -- region 13
        repeat refine HW.seq ?_
        refine HW.region ?_
        refine HL.still (Runs.move f7) ?_
        intro u48 e48
        refine HL.still (Runs.move f0) ?_
        intro u49 e49
        refine HL.still (Runs.move f8) ?_
        intro u50 e50
        refine HL.still (Runs.ixSl (o' := so + k) Try.underlying22 sz29 e49 e50 (by omega) (by omega) (by omega)) ?_
        intro u51 e51
        refine HL.still (Runs.load Try.underlying29 rfl e51 hcell) ?_
        intro u52 e52
        refine HL.one (HO.call Try.func37 bd37 nm37 (args2 e48 e52) rfl ((putB_own (own := own) (x := 1) (y := 2) u t bm oa s b 1048576 W W' [] xs (shaD xs) 0 b1 c1 hp T S hby hle (by omega) (by decide) (by decide) (by decide) (by omega) (by omega)).mono ?_))
        rintro _ h9 ⟨rfl, ⟨oa', T9⟩, E9⟩
        intro u53 e53
        refine HL.still (Runs.move e53) ?_
        intro u47 e47
        refine HL.still (Runs.extr e47 rfl) ?_
        intro u54 e54
        refine HL.still (Runs.extr e47 rfl) ?_
        intro u55 e55
        refine HL.one (HO.alloc zr31 ?_)
        intro ha wa
        intro u9 e9
        refine HL.zero (HO.storeAll sz31 e9 e54 (encD_one (shaD xs)) wa.new (encD_len _) (by simp) ?_)
        intro h13 wb
        refine HL.still (Runs.assign e55) ?_
        intro u10 e10
        refine HL.nil ?_
        have Y13 : Ext h9 h13 := wa.ext.wr wb (Nat.le_refl _)
        have X9 := E9.only L (by decide) hN.symm hX
        have z9 := X9.size
        have S9 := S.other E9 (by decide)
        have Z9 := Z.other E9 (by decide)
        have L9 := stamp_low (x := 2) L (by omega : N ≤ u.size)
        obtain ⟨o9, ho9⟩ : ∃ o9, o9 = stamp own u.size 2 := ⟨_, rfl⟩
        rw [← ho9] at S9 Z9 L9 T9
        have S10 := S9.other (.of_ext Y13) (x := 0) (by decide)
        have Z10 := Z9.other (.of_ext Y13) (x := 0) (by decide)
        have T10 := T9.other (.of_ext Y13) (x := 0) (by decide)
        have L10 := stamp_low (x := 0) L9 (by omega : N ≤ h9.size)
        have kd : h13[h9.size]? = some (.cells (encD (shaD xs)).toArray 31 (0, 0)) := wb.new
        have ok : stamp o9 h9.size 0 h9.size = 0 := stamp_ge (Nat.le_refl _)
        obtain ⟨o10, ho10⟩ : ∃ o10, o10 = stamp o9 h9.size 0 := ⟨_, rfl⟩
        rw [← ho10] at S10 Z10 T10 L10 ok
        have X10 := X9.ext Y13 (Nat.le_refl _)
        have d9 : u9 = .pointer (some ⟨h9.size, 0, none⟩) := e9
        have d10 : u10 = I64 0 := e10
        obtain ⟨sb', so', hsa', b1', c1', xs', hx', hcell', hby', hle'⟩ := (hB.ext X10).at hlt
        rw [hx] at hx'
        cases hx'
        cases hsa'
        have z13 := Y13.size
        -- region 14
        repeat refine HW.seq ?_
        refine HW.region ?_
        refine HL.still (Runs.move f6) ?_
        intro u57 e57
        refine HL.still (Runs.move f0) ?_
        intro u58 e58
        refine HL.still (Runs.move f8) ?_
        intro u59 e59
        refine HL.still (Runs.ixSl (o' := so + k) Try.underlying22 sz29 e58 e59 (by omega) (by omega) (by omega)) ?_
        intro u60 e60
        refine HL.still (Runs.load Try.underlying29 rfl e60 hcell') ?_
        intro u61 e61
        refine HL.one (HO.call Try.func18 bd18 nm18 (args2 e57 e61) rfl ((put_own (own := o10) (x := 3) h13 y c 1048576 W W' xs (shaD xs) 0 b1 c1 hq Z10 hby' hle' (by omega) (by decide) (by decide) GG.fits).mono ?_))
        rintro _ h14 ⟨rfl, Z14, E14⟩
        intro u62 e62
        refine HL.still (Runs.move e62) ?_
        intro u56 e56
        refine HL.still (Runs.extr e56 rfl) ?_
        intro u63 e63
        refine HL.still (Runs.extr e56 rfl) ?_
        intro u64 e64
        refine HL.one (HO.alloc zr31 ?_)
        intro hc' wc
        intro u11 e11
        refine HL.zero (HO.storeAll sz31 e11 e63 (encD_one (shaD xs)) wc.new (encD_len _) (by simp) ?_)
        intro h15 wd
        refine HL.still (Runs.assign e64) ?_
        intro u12 e12
        refine HL.nil ?_
        have Y15 : Ext h14 h15 := wc.ext.wr wd (Nat.le_refl _)
        have X14 := E14.only L10 (by decide) hN.symm X10
        have S14 := S10.other E14 (by decide)
        have T14 := T10.other E14 (by decide)
        obtain ⟨kd14, _⟩ := obj_other kd ok E14 (by decide)
        have L14 := stamp_low (x := 3) L10 (by omega : N ≤ h13.size)
        have kd2 : h15[h14.size]? = some (.cells (encD (shaD xs)).toArray 31 (0, 0)) := wd.new
        have d11 : u11 = .pointer (some ⟨h14.size, 0, none⟩) := e11
        have d12 : u12 = I64 0 := e12
        -- region 15
        repeat refine HW.seq ?_
        refine HW.region ?_
        refine HL.still (Runs.loadAgg Try.underlying31 rfl sz31 d9 (encD_len (shaD xs)) (load_blk (Y15.keepE kd14))) ?_
        intro u65 e65
        refine HL.still (Runs.loadAgg Try.underlying31 rfl sz31 d11 (encD_len (shaD xs)) (load_blk kd2)) ?_
        intro u66 e66
        refine HL.still (Runs.neqBytes Try.underlying31 Try.underlying5 sz5 eg31 e65 e66 (t := false) (shaD xs).2 (shaD xs).2 (by simp)) ?_
        intro u67 e67
        refine HL.still (Runs.move e67) ?_
        intro u68 e68
        refine HL.stillG rfl rfl e68 (Runs.move d10) ?_
        intro u69 e69
        refine HL.stillG rfl rfl e68 (Runs.neq e69 rfl (t := false) rfl) ?_
        intro u70 e70
        refine HL.still (Runs.pick e68 e70) ?_
        intro u71 e71
        refine HL.still (Runs.move e71) ?_
        intro u72 e72
        refine HL.stillG rfl rfl e72 (Runs.move d12) ?_
        intro u73 e73
        refine HL.stillG rfl rfl e72 (Runs.neq e73 rfl (t := false) rfl) ?_
        intro u74 e74
        refine HL.still (Runs.pick e72 e74) ?_
        intro u75 e75
        refine HL.nil ?_
        refine HW.no e75 ?_
        refine HW.skip ?_
        -- region 12
        repeat refine HW.seq ?_
        refine HW.region ?_
        refine HL.still (Runs.move f8) ?_
        intro u45 e45
        refine HL.still (Runs.add e45 rfl (i64w (by omega))) ?_
        intro u46 e46
        refine HL.still (Runs.assign e46) ?_
        intro u8 e8
        refine HL.nil ?_
        exact ⟨l.length - (k + 1), by omega, k + 1, by omega, rfl, e8, f0, f3, f5, f6, f7, X14.ext Y15 (Nat.le_refl _), _, W', oa', L14, S14.ext Y15, T14.ext Y15, Z14.ext Y15, G', GG'⟩
      · have hkl : k = l.length := by omega
        subst hkl
        -- region 11
        repeat refine HW.seq ?_
        refine HW.region ?_
        refine HL.still (Runs.move f8) ?_
        intro u41 e41
        refine HL.still (Runs.move f0) ?_
        intro u42 e42
        refine HL.still (Runs.lenSl rfl Try.underlying22 e42) ?_
        intro u43 e43
        refine HL.still (Runs.lss e41 e43 rfl) ?_
        intro u44 e44
        refine HL.nil ?_
        repeat refine HW.seq ?_
        refine HW.no ?_ ?_
        exact e44.trans (congrArg Value.bool (decide_eq_false (by omega)))
        refine HW.exitHere ?_
        exact ⟨f3, f5, f6, f7, hX, own, W, oa, L, S, T, Z, ⟨by have := G.len; omega, G.nodup, G.small, G.own⟩, GG.more (by omega)⟩
    clear e2 e3 e4 e5 e6 e7 e8 g3 g4 p0 S5 T5 Z5 L5 XA
    rintro f u ⟨f3, f5, f6, f7, hX, own, W, oa, L, S, T, Z, G, GG⟩
    have hu := hX.size
    have htW : tot W ≤ 80000 := Nat.le_trans G.tot (by decide)
    have hlW := G.len
    have hfit : (tot W : Int) ≤ 1048576 - tot ([] : Blobs) := by simp only [tot]; omega
    have hall : putAll 1048576 [] W = W := by
      rw [putAll_fresh W G.own G.nodup (fun _ _ q => by cases q) hfit]; rfl
    -- region 17
    repeat refine HW.seq ?_
    refine HW.region ?_
    refine HL.still (Runs.move f3) ?_
    intro u76 e76
    refine HL.still (Runs.move e76) ?_
    intro u77 e77
    refine HL.stillG rfl rfl e77 (Runs.move f7) ?_
    intro u78 e78
    refine HL.oneG rfl rfl e77 (HO.call Try.func39 bd39 nm39 (args1 e78) rfl ((commit0_own (own := own) (x := 1) (y := 2) u t bm oa s b 1048576 W [] hfit (by decide) T S (by decide) (by decide) (by decide) (by omega) (by omega) (fun p hp => Nat.le_trans (G.small p hp) (by decide))).mono ?_))
    rintro _ h6 ⟨rfl, S6, T6, E6⟩
    intro u79 e79
    refine HL.stillG rfl rfl e77 (Runs.eql e79 rfl (t := true) rfl) ?_
    intro u80 e80
    refine HL.still (Runs.pick e77 e80) ?_
    intro u81 e81
    refine HL.still (Runs.move e81) ?_
    intro u82 e82
    refine HL.stillG rfl rfl e82 (Runs.move f5) ?_
    intro u83 e83
    refine HL.oneG rfl rfl e82 (HO.call Try.func29 bd29 nm29 (args1 e83) rfl ((keysS_ch h6 s b 1048576 W (by rw [hall] at S6; exact S6) (by omega)).mono ?_))
    rintro _ h7 ⟨ka, kc, ks, rfl, D, kp, kq, X7⟩
    intro u84 e84
    refine HL.stillG rfl rfl e82 (Runs.move f6) ?_
    intro u85 e85
    refine HL.oneG rfl rfl e82 (HO.call Try.func29 bd29 nm29 (args1 e85) rfl ((keysS_ch h7 y c 1048576 W (((Z.st (x := 1) E6.size (E6.kp2 (by decide) (by decide)))).ext X7) (by omega)).mono ?_))
    rintro _ h8 ⟨kb, kc2, ks2, rfl, D2, kp2, kq2, X8⟩
    intro u86 e86
    refine HL.oneG rfl rfl e82 (HO.call Try.func30 bd30 nm30 (args2 e84 e86) rfl ((keysT_ch h8 ks ks2 ka kb _ _ kc kc2 rfl rfl (D.ext X8).dgs D2.dgs (by rw [kp.length_eq, List.length_map]; omega) (by rw [kp2.length_eq, List.length_map]; omega) (keys_same GG kp kq kp2 kq2)).mono ?_))
    rintro _ h9 ⟨rfl, X9⟩
    intro u87 e87
    refine HL.still (Runs.pick e82 e87) ?_
    intro u88 e88
    refine HL.still (Runs.move e88) ?_
    intro u89 e89
    refine HL.stillG rfl rfl e89 (Runs.move f5) ?_
    intro u90 e90
    refine HL.oneG rfl rfl e89 (HO.call Try.func26 bd26 nm26 (args1 e90) rfl ((usedX_ch h9 s b 1048576 W (tot W) ((((by rw [hall] at S6; exact S6 : Sto _ h6 s b 1048576 W).ext X7).ext X8).ext X9) rfl).mono ?_))
    rintro _ h10 ⟨rfl, X10⟩
    intro u91 e91
    refine HL.stillG rfl rfl e89 (Runs.move f6) ?_
    intro u92 e92
    refine HL.oneG rfl rfl e89 (HO.call Try.func26 bd26 nm26 (args1 e92) rfl ((usedX_ch h10 y c 1048576 W (tot W) (((((Z.st (x := 1) E6.size (E6.kp2 (by decide) (by decide))).ext X7).ext X8).ext X9).ext X10) rfl).mono ?_))
    rintro _ h11 ⟨rfl, X11⟩
    intro u93 e93
    refine HL.stillG rfl rfl e89 (Runs.eql e91 e93 (t := true) (by simp)) ?_
    intro u94 e94
    refine HL.still (Runs.pick e89 e94) ?_
    intro u95 e95
    refine HL.still (Runs.assign e95) ?_
    intro u2 e2
    refine HL.nil ?_
    refine HW.ret ?_
    exact RT.one rfl e2 ⟨rfl, ((((((only_st L hN.symm hX E6.size (E6.kp2 (by decide) (by decide))).ext X7 (Nat.le_refl _)).ext X8 (Nat.le_refl _)).ext X9 (Nat.le_refl _)).ext X10 (Nat.le_refl _)).ext X11 (Nat.le_refl _))⟩
end Go.Proofs.Ytklelhfgbjpifaa
