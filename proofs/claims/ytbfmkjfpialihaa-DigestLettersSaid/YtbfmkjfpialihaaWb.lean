/- sha.schedule: a block's words, and those that follow from them. -/
import Derived.Test.YtbfmkjfpialihaaWa
namespace Go.Proofs.Ytbfmkjfpialihaa
set_option linter.unnecessarySimpa false
set_option linter.unusedSimpArgs false
set_option linter.unusedVariables false
open Go.RowKit
/-- Words out of bytes, byte by byte. -/
def schA (bs : List UInt8) : Nat → List (BitVec 32)
  | 0 => List.replicate 64 0
  | k + 1 => (schA bs k).set (k / 4) ((schA bs k).getD (k / 4) 0 <<< 8 ||| BitVec.ofNat 32 (bs.getD k 0).toNat)
def sg0 (a : BitVec 32) : BitVec 32 := rotr 7 a ^^^ rotr 18 a ^^^ a >>> 3
def sg1 (z : BitVec 32) : BitVec 32 := rotr 17 z ^^^ rotr 19 z ^^^ z >>> 10
/-- The words behind the sixteenth, one by one. -/
def schB (l : List (BitVec 32)) : Nat → List (BitVec 32)
  | 0 => l
  | j + 1 => (schB l j).set (16 + j) (sg1 ((schB l j).getD (16 + j - 2) 0) + (schB l j).getD (16 + j - 7) 0 + sg0 ((schB l j).getD (16 + j - 15) 0) + (schB l j).getD (16 + j - 16) 0)
def sched (bs : List UInt8) : List (BitVec 32) := schB (schA bs 64) 48
theorem schA_len (bs : List UInt8) (k : Nat) : (schA bs k).length = 64 := by
  induction k with
  | zero => simp [schA]
  | succ k ih => simp [schA, ih]
theorem schB_len (l : List (BitVec 32)) (j : Nat) : (schB l j).length = l.length := by
  induction j with
  | zero => rfl
  | succ k ih => simp [schB, ih]
theorem sched_len (bs : List UInt8) : (sched bs).length = 64 := by rw [sched, schB_len, schA_len]
set_option maxRecDepth 10000 in
theorem sched_ch (h : Heap) (bs : List UInt8) (hbs : bs.length = 64) : CH Try.prog 36 #[.agg (bs.map B8).toArray] h fun v h' => v = .agg ((sched bs).map W32).toArray ∧ Ext h h' := by
  refine CH.of_body Try.func36 rfl rfl rfl ?_
  intro f hf
  have p0 : f 0 = .agg (bs.map B8).toArray := by rw [hf]; exact fr0_at rfl
  -- region 0
  repeat refine HW.seq ?_
  refine HW.region ?_
  refine HL.one (HO.box p0 ?_)
  intro h1 w1
  intro u1 e1
  refine HL.one (HO.alloc zr46 ?_)
  intro h2 w2
  intro u2 e2
  refine HL.nil ?_
  -- region 1
  repeat refine HW.seq ?_
  refine HW.region ?_
  refine HL.one (HO.alloc zr46 ?_)
  intro h3 w3
  intro u3 e3
  refine HL.nil ?_
  have s1 := w1.size
  have s2 := w2.size
  have s3 := w3.size
  -- region 2
  repeat refine HW.seq ?_
  refine HW.region ?_
  refine HL.still (Runs.loadAgg Try.underlying51 rfl sz51 e1 (by simp [hbs]) (load_blk (w3.keep (w2.keep w1.new)))) ?_
  intro u11 e11
  refine HL.still (Runs.move rfl) ?_
  intro u12 e12
  refine HL.nil ?_
  repeat refine HW.seq ?_
  refine HW.block ?_
  refine HW.loop (fun n f h' => ∃ k : Nat, n = 64 - k ∧ k ≤ 64 ∧ f 12 = I64 k ∧ f 11 = .agg (bs.map B8).toArray ∧ f 2 = .pointer (some ⟨h1.size, 0, none⟩) ∧ f 3 = .pointer (some ⟨h2.size, 0, none⟩) ∧
    h'[h2.size]? = some (.cells ((schA bs k).map W32).toArray 46 (0, 0)) ∧ h'[h1.size]? = some (.cells ((List.replicate 64 (0 : BitVec 32)).map W32).toArray 46 (0, 0)) ∧ Bel h.size h h') 64
    ⟨0, rfl, Nat.zero_le _, e12, e11, e2, e3, w3.new, w3.keep w2.new, ((w1.ext).ext w2.ext (Nat.le_refl _)).ext w3.ext (Nat.le_refl _)⟩ ?_
  rintro n f h' ⟨k, hn, hk, f12, f11, f2, f3, hb3, hb2, hB⟩
  have hl := schA_len bs k
  by_cases hlt : k < 64
  · skip
    -- region 3
    repeat refine HW.seq ?_
    refine HW.region ?_
    refine HL.still (Runs.lss f12 rfl rfl) ?_
    intro u13 e13
    refine HL.nil ?_
    repeat refine HW.seq ?_
    refine HW.yes ?_ ?_
    exact e13.trans (congrArg Value.bool (decide_eq_true (by omega)))
    refine HW.skip ?_
    repeat refine HW.seq ?_
    refine HW.block ?_
    -- region 4
    repeat refine HW.seq ?_
    refine HW.region ?_
    refine HL.still (Runs.move f12) ?_
    intro u14 e14
    refine HL.still (Runs.ixAgg Try.underlying51 Try.underlying5 rfl sz5 f11 f12 (by omega) (by omega) (toArray_map B8 bs k 0 (by omega))) ?_
    intro u15 e15
    refine HL.still (Runs.assign e14) ?_
    intro u4 e4
    refine HL.still (Runs.assign e15) ?_
    intro u5 e5
    refine HL.nil ?_
    -- region 5
    repeat refine HW.seq ?_
    refine HW.region ?_
    refine HL.still (Runs.move e4) ?_
    intro u16 e16
    refine HL.still (Runs.quo e16 rfl (by decide) (quo64 (by omega) (by decide))) ?_
    intro u17 e17
    refine HL.still (Runs.move e4) ?_
    intro u18 e18
    refine HL.still (Runs.quo e18 rfl (by decide) (quo64 (by omega) (by decide))) ?_
    intro u19 e19
    refine HL.still (Runs.ixArr (o' := k / 4) Try.underlying46 sz45 f3 e19 (by omega) (by omega) (by omega)) ?_
    intro u20 e20
    refine HL.still (Runs.load Try.underlying45 rfl e20 (cellH_map (j := k / 4) 0 hb3 (by omega))) ?_
    intro u21 e21
    refine HL.still (Runs.shl e21 rfl (by decide) (shl32c _ 8 (by decide))) ?_
    intro u22 e22
    refine HL.still (Runs.move e5) ?_
    intro u23 e23
    refine HL.still (Runs.conv Try.underlying5 Try.underlying45 e23 (conv_u8_u32 _)) ?_
    intro u24 e24
    refine HL.still (Runs.or e22 e24 (bits_or32 _ _)) ?_
    intro u25 e25
    refine HL.still (Runs.ixArr (o' := k / 4) Try.underlying46 sz45 f3 e17 (by omega) (by omega) (by omega)) ?_
    intro u26 e26
    refine HL.zero (HO.store (s := 1) sz45 e26 e25 rfl hb3 (by simp; omega) rfl ?_)
    intro h4 w4
    refine HL.nil ?_
    have hb3' := w4.new
    rw [← List.map_set] at hb3'
    -- region 6
    repeat refine HW.seq ?_
    refine HW.region ?_
    refine HL.still (Runs.add f12 rfl (i64w (by omega))) ?_
    intro u27 e27
    refine HL.still (Runs.move e27) ?_
    intro u12 e12
    refine HL.nil ?_
    exact ⟨64 - (k + 1), by omega, k + 1, rfl, by omega, e12, f11, f2, f3, hb3', w4.keep hb2 (by omega), hB.wr w4 (by omega)⟩
  · have hk64 : k = 64 := by omega
    subst hk64
    -- region 3
    repeat refine HW.seq ?_
    refine HW.region ?_
    refine HL.still (Runs.lss f12 rfl rfl) ?_
    intro u13 e13
    refine HL.nil ?_
    repeat refine HW.seq ?_
    refine HW.no ?_ ?_
    exact e13.trans (congrArg Value.bool (decide_eq_false (by omega)))
    refine HW.exitHere ?_
    -- region 7
    repeat refine HW.seq ?_
    refine HW.region ?_
    refine HL.still (Runs.assign rfl) ?_
    intro u6 e6
    refine HL.nil ?_
    repeat refine HW.seq ?_
    refine HW.block ?_
    refine HW.loop (fun n f h' => ∃ j : Nat, n = 48 - j ∧ j ≤ 48 ∧ f 6 = I64 ((16 + j : Nat) : Int) ∧ f 2 = .pointer (some ⟨h1.size, 0, none⟩) ∧ f 3 = .pointer (some ⟨h2.size, 0, none⟩) ∧
      h'[h2.size]? = some (.cells ((schB (schA bs 64) j).map W32).toArray 46 (0, 0)) ∧ h'[h1.size]? = some (.cells ((List.replicate 64 (0 : BitVec 32)).map W32).toArray 46 (0, 0)) ∧ Bel h.size h h') 48
      ⟨0, rfl, Nat.zero_le _, e6, f2, f3, hb3, hb2, hB⟩ ?_
    clear hb3 hb2 hB
    rintro n f h' ⟨j, hn, hj, f6, f2, f3, hb3, hb2, hB⟩
    have hl2 : (schB (schA bs 64) j).length = 64 := by rw [schB_len, schA_len]
    by_cases hlt : j < 48
    · skip
      -- region 8
      repeat refine HW.seq ?_
      refine HW.region ?_
      refine HL.still (Runs.move f6) ?_
      intro u28 e28
      refine HL.still (Runs.lss e28 rfl rfl) ?_
      intro u29 e29
      refine HL.nil ?_
      repeat refine HW.seq ?_
      refine HW.yes ?_ ?_
      exact e29.trans (congrArg Value.bool (decide_eq_true (by omega)))
      refine HW.skip ?_
      repeat refine HW.seq ?_
      refine HW.block ?_
      -- region 10
      repeat refine HW.seq ?_
      refine HW.draw mixed (by kernel_rfl) ?_
      refine HS.still (Runs.move f6) ?_
      intro u32 e32
      refine HS.still (Runs.sub e32 rfl (i64w (by omega))) ?_
      intro u33 e33
      refine HS.still (Runs.ixArr (o' := 16 + j - 15) Try.underlying46 sz45 f3 e33 (by omega) (by omega) (by omega)) ?_
      intro u34 e34
      refine HS.still (Runs.load Try.underlying45 rfl e34 (cellH_map (j := 16 + j - 15) 0 hb3 (by omega))) ?_
      intro u35 e35
      refine HS.still (Runs.move f6) ?_
      intro u36 e36
      refine HS.still (Runs.sub e36 rfl (i64w (by omega))) ?_
      intro u37 e37
      refine HS.still (Runs.ixArr (o' := 16 + j - 2) Try.underlying46 sz45 f3 e37 (by omega) (by omega) (by omega)) ?_
      intro u38 e38
      refine HS.still (Runs.load Try.underlying45 rfl e38 (cellH_map (j := 16 + j - 2) 0 hb3 (by omega))) ?_
      intro u39 e39
      refine HS.still (Runs.assign e35) ?_
      intro u7 e7
      refine HS.still (Runs.assign e39) ?_
      intro u8 e8
      refine HS.nil ?_
      -- region 11
      repeat refine HW.seq ?_
      refine HW.region ?_
      refine HL.still (Runs.move e7) ?_
      intro u40 e40
      refine HL.one (HO.call Try.func38 bd38 nm38 (args2 e40 rfl) rfl ((rot_ch 7 (by decide) (by decide) _ _).mono ?_))
      rintro _ _ ⟨rfl, rfl⟩
      intro u41 e41
      refine HL.still (Runs.move e7) ?_
      intro u42 e42
      refine HL.one (HO.call Try.func38 bd38 nm38 (args2 e42 rfl) rfl ((rot_ch 18 (by decide) (by decide) _ _).mono ?_))
      rintro _ _ ⟨rfl, rfl⟩
      intro u43 e43
      refine HL.still (Runs.xor e41 e43 (bits_xor32 _ _)) ?_
      intro u44 e44
      refine HL.still (Runs.move e7) ?_
      intro u45 e45
      refine HL.still (Runs.shr e45 rfl (by decide) (shr32c _ 3 (by decide))) ?_
      intro u46 e46
      refine HL.still (Runs.xor e44 e46 (bits_xor32 _ _)) ?_
      intro u47 e47
      refine HL.still (Runs.assign e47) ?_
      intro u9 e9
      refine HL.nil ?_
      -- region 12
      repeat refine HW.seq ?_
      refine HW.region ?_
      refine HL.still (Runs.move e8) ?_
      intro u48 e48
      refine HL.one (HO.call Try.func38 bd38 nm38 (args2 e48 rfl) rfl ((rot_ch 17 (by decide) (by decide) _ _).mono ?_))
      rintro _ _ ⟨rfl, rfl⟩
      intro u49 e49
      refine HL.still (Runs.move e8) ?_
      intro u50 e50
      refine HL.one (HO.call Try.func38 bd38 nm38 (args2 e50 rfl) rfl ((rot_ch 19 (by decide) (by decide) _ _).mono ?_))
      rintro _ _ ⟨rfl, rfl⟩
      intro u51 e51
      refine HL.still (Runs.xor e49 e51 (bits_xor32 _ _)) ?_
      intro u52 e52
      refine HL.still (Runs.move e8) ?_
      intro u53 e53
      refine HL.still (Runs.shr e53 rfl (by decide) (shr32c _ 10 (by decide))) ?_
      intro u54 e54
      refine HL.still (Runs.xor e52 e54 (bits_xor32 _ _)) ?_
      intro u55 e55
      refine HL.still (Runs.assign e55) ?_
      intro u10 e10
      refine HL.nil ?_
      -- region 13
      repeat refine HW.seq ?_
      refine HW.drawTail 15 mixed (by kernel_rfl) ?_
      refine HS.still (Runs.move f6) ?_
      intro u56 e56
      refine HS.still (Runs.move e10) ?_
      intro u57 e57
      refine HS.still (Runs.move f6) ?_
      intro u58 e58
      refine HS.still (Runs.sub e58 rfl (i64w (by omega))) ?_
      intro u59 e59
      refine HS.still (Runs.ixArr (o' := 16 + j - 7) Try.underlying46 sz45 f3 e59 (by omega) (by omega) (by omega)) ?_
      intro u60 e60
      refine HS.still (Runs.load Try.underlying45 rfl e60 (cellH_map (j := 16 + j - 7) 0 hb3 (by omega))) ?_
      intro u61 e61
      refine HS.still (Runs.add e57 e61 (add32w _ _)) ?_
      intro u62 e62
      refine HS.still (Runs.move e9) ?_
      intro u63 e63
      refine HS.still (Runs.add e62 e63 (add32w _ _)) ?_
      intro u64 e64
      refine HS.still (Runs.move f6) ?_
      intro u65 e65
      refine HS.still (Runs.sub e65 rfl (i64w (by omega))) ?_
      intro u66 e66
      refine HS.still (Runs.ixArr (o' := 16 + j - 16) Try.underlying46 sz45 f3 e66 (by omega) (by omega) (by omega)) ?_
      intro u67 e67
      refine HS.still (Runs.load Try.underlying45 rfl e67 (cellH_map (j := 16 + j - 16) 0 hb3 (by omega))) ?_
      intro u68 e68
      refine HS.still (Runs.add e64 e68 (add32w _ _)) ?_
      intro u69 e69
      refine HS.still (Runs.ixArr (o' := 16 + j) Try.underlying46 sz45 f3 e56 (by omega) (by omega) (by omega)) ?_
      intro u70 e70
      refine HS.nil ?_
      refine HL.zero (HO.store (s := 1) sz45 e70 e69 rfl hb3 (by simp; omega) rfl ?_)
      intro h4 w4
      refine HL.nil ?_
      have hb3' := w4.new
      rw [← List.map_set] at hb3'
      -- region 9
      repeat refine HW.seq ?_
      refine HW.region ?_
      refine HL.still (Runs.move f6) ?_
      intro u30 e30
      refine HL.still (Runs.add e30 rfl (i64w (by omega))) ?_
      intro u31 e31
      refine HL.still (Runs.assign e31) ?_
      intro u6 e6
      refine HL.nil ?_
      exact ⟨48 - (j + 1), by omega, j + 1, rfl, by omega, e6, f2, f3, hb3', w4.keep hb2 (by omega), hB.wr w4 (by omega)⟩
    · have hj48 : j = 48 := by omega
      subst hj48
      -- region 8
      repeat refine HW.seq ?_
      refine HW.region ?_
      refine HL.still (Runs.move f6) ?_
      intro u28 e28
      refine HL.still (Runs.lss e28 rfl rfl) ?_
      intro u29 e29
      refine HL.nil ?_
      repeat refine HW.seq ?_
      refine HW.no ?_ ?_
      exact e29.trans (congrArg Value.bool (decide_eq_false (by omega)))
      refine HW.exitHere ?_
      -- region 14
      repeat refine HW.seq ?_
      refine HW.region ?_
      refine HL.still (Runs.loadAgg Try.underlying46 rfl sz46 f3 (by rw [List.length_map, hl2]) (load_blk hb3)) ?_
      intro u71 e71
      refine HL.zero (HO.storeAll sz46 f2 e71 (one_map W32 (fun _ => rfl) _) hb2 (by rw [List.length_map, hl2]) rfl ?_)
      intro h5 w5
      refine HL.nil ?_
      refine HW.ret ?_
      exact RT.cell rfl f2 w5.new Try.underlying46 rfl sz46 (by rw [List.length_map, hl2]) ⟨rfl, hB.wr w5 (by omega)⟩
end Go.Proofs.Ytbfmkjfpialihaa
