/- onionskinlaw06.HeaderPrefix returns true. -/
import Derived.Test.YtfogkggkjmkdiaaDoorMb
namespace Go.Proofs.YtfogkggkjmkdiaaDoor
set_option linter.unnecessarySimpa false
set_option linter.unusedSimpArgs false
set_option linter.unusedVariables false
open Go.RowKit
theorem sealed_n (h : Heap) (xs : List UInt8) (n : Nat) (a : Option Addr) (cap : Nat) (hn : n = xs.length) (hsrc : Byt h a xs) (hcap : xs.length ≤ cap) (hlen : xs.length < 4611686018427387904) :
    CH Tryd.prog 23 #[.slice a n cap] h fun v h' => v = .slice (some ⟨h.size, 0, none⟩) 512 512 ∧ h'[h.size]? = some (.cells ((sealO xs).map B8).toArray 5 (0, 0)) ∧ Ext h h' := by
  subst hn
  exact sealed_ch h xs a cap hsrc hcap hlen
set_option maxRecDepth 10000 in
theorem lawPrefix_ch (h : Heap) (x : Hd) (p : List UInt8) (hP : Plc h) (hn : x.name.length ≤ maxLen) (hk : x.link.length ≤ maxLen) :
    CH Tryd.prog 12 #[.agg x.cells.toArray, .string (strOf p)] h fun v h' => v = .bool true ∧ Ext h h' := by
  refine CH.of_body Tryd.func12 rfl rfl rfl ?_
  intro f hf
  have p0 : f 0 = .agg x.cells.toArray := by rw [hf]; exact fr0_at rfl
  have p1 : f 1 = .string (strOf p) := by rw [hf]; exact fr0_at rfl
  -- region 0
  repeat refine HW.seq ?_
  refine HW.region ?_
  refine HL.one (HO.box p0 ?_)
  intro h1 w1
  intro u2 e2
  refine HL.still (Runs.assign rfl) ?_
  intro u4 e4
  refine HL.nil ?_
  have X1 : Ext h h1 := w1.ext
  -- region 1
  repeat refine HW.seq ?_
  refine HW.region ?_
  refine HL.one (HO.call Tryd.func20 bd20 nm20 (args0) rfl ((small6_ch h1 (hP.ext X1)).mono ?_))
  rintro _ h2 ⟨rfl, E2⟩
  intro u11 e11
  refine HL.still (Runs.assign e11) ?_
  intro u5 e5
  refine HL.nil ?_
  have hA2 := E2.keepE w1.new
  have X2 : Ext h h2 := X1.ext E2 (Nat.le_refl _)
  cases hok : okO x with
  | false =>
    -- region 2
    repeat refine HW.seq ?_
    refine HW.region ?_
    refine HL.still (Runs.loadAgg Tryd.underlying36 rfl sz36 e2 (cs := x.cells) rfl (hd_load hA2)) ?_
    intro u13 e13
    refine HL.one (HO.call Tryd.func26 bd26 nm26 (args1 e13) rfl ((print_no h2 x (hP.ext X2) hn hk hok).mono ?_))
    rintro _ h3 ⟨rfl, E3⟩
    intro u14 e14
    refine HL.still (Runs.move e14) ?_
    intro u12 e12
    refine HL.still (Runs.extr e12 rfl) ?_
    intro u15 e15
    refine HL.still (Runs.extr e12 rfl) ?_
    intro u16 e16
    refine HL.still (Runs.assign e15) ?_
    intro u6 e6
    refine HL.still (Runs.assign e16) ?_
    intro u7 e7
    refine HL.nil ?_
    -- region 3
    repeat refine HW.seq ?_
    refine HW.region ?_
    refine HL.still (Runs.move e7) ?_
    intro u17 e17
    refine HL.still (Runs.notb e17 (t := false) (u := true) rfl) ?_
    intro u18 e18
    refine HL.still (Runs.move e18) ?_
    intro u19 e19
    refine HL.skipG rfl rfl e19 ?_
    intro u20 e20
    refine HL.skipG rfl rfl e19 ?_
    intro u21 e21
    refine HL.skipG rfl rfl e19 ?_
    intro u22 e22
    refine HL.still (Runs.pick e19 rfl) ?_
    intro u23 e23
    refine HL.still (Runs.move e23) ?_
    intro u24 e24
    refine HL.skipG rfl rfl e24 ?_
    intro u25 e25
    refine HL.skipG rfl rfl e24 ?_
    intro u26 e26
    refine HL.still (Runs.pick e24 rfl) ?_
    intro u27 e27
    refine HL.still (Runs.move e27) ?_
    intro u28 e28
    refine HL.skipG rfl rfl e28 ?_
    intro u29 e29
    refine HL.skipG rfl rfl e28 ?_
    intro u30 e30
    refine HL.skipG rfl rfl e28 ?_
    intro u31 e31
    refine HL.still (Runs.pick e28 rfl) ?_
    intro u32 e32
    refine HL.nil ?_
    repeat refine HW.seq ?_
    refine HW.yes ?_ ?_
    exact e32
    -- region 4
    repeat refine HW.seq ?_
    refine HW.region ?_
    refine HL.still (Runs.move e5) ?_
    intro u33 e33
    refine HL.still (Runs.assign e33) ?_
    intro u4 e4
    refine HL.nil ?_
    refine HW.ret ?_
    exact RT.one rfl e4 ⟨rfl, X2.ext E3 (Nat.le_refl _)⟩
  | true =>
  have hbl := blk_len hok
  have hOk := okO_spec hok
  -- region 2
  repeat refine HW.seq ?_
  refine HW.region ?_
  refine HL.still (Runs.loadAgg Tryd.underlying36 rfl sz36 e2 (cs := x.cells) rfl (hd_load hA2)) ?_
  intro u13 e13
  refine HL.one (HO.call Tryd.func26 bd26 nm26 (args1 e13) rfl ((print_yes h2 x (hP.ext X2) hn hk hok).mono ?_))
  rintro _ h3 ⟨b, hb2, rfl, hbb, E3⟩
  intro u14 e14
  refine HL.still (Runs.move e14) ?_
  intro u12 e12
  refine HL.still (Runs.extr e12 rfl) ?_
  intro u15 e15
  refine HL.still (Runs.extr e12 rfl) ?_
  intro u16 e16
  refine HL.still (Runs.assign e15) ?_
  intro u6 e6
  refine HL.still (Runs.assign e16) ?_
  intro u7 e7
  refine HL.nil ?_
  have X3 : Ext h h3 := X2.ext E3 (Nat.le_refl _)
  have hA3 := E3.keepE hA2
  have zx := X2.size
  have z1 := w1.size
  have z12 := E2.size
  -- region 3
  repeat refine HW.seq ?_
  refine HW.region ?_
  refine HL.still (Runs.move e7) ?_
  intro u17 e17
  refine HL.still (Runs.notb e17 (t := true) (u := false) rfl) ?_
  intro u18 e18
  refine HL.still (Runs.move e18) ?_
  intro u19 e19
  refine HL.anyG rfl rfl e19 (fun hg => Runs.move e6) ?_
  intro u20 e20
  refine HL.anyG rfl rfl e19 (fun hg => Runs.lenSl rfl Tryd.underlying22 (e20.trans (if_pos hg))) ?_
  intro u21 e21
  refine HL.anyG rfl rfl e19 (fun hg => Runs.neq (e21.trans (if_pos hg)) rfl rfl) ?_
  intro u22 e22
  refine HL.still (Runs.pick e19 (or_pick e22)) ?_
  intro u23 e23
  refine HL.still (Runs.move e23) ?_
  intro u24 e24
  refine HL.anyG rfl rfl e24 (fun hg => Runs.move p1) ?_
  intro u25 e25
  refine HL.anyG rfl rfl e24 (fun hg => Runs.eqS (e25.trans (if_pos hg)) rfl (ys := []) rfl) ?_
  intro u26 e26
  refine HL.still (Runs.pick e24 (or_pick e26)) ?_
  intro u27 e27
  refine HL.still (Runs.move e27) ?_
  intro u28 e28
  refine HL.anyG rfl rfl e28 (fun hg => Runs.move p1) ?_
  intro u29 e29
  refine HL.anyG rfl rfl e28 (fun hg => Runs.lenS rfl Tryd.underlying9 (e29.trans (if_pos hg))) ?_
  intro u30 e30
  refine HL.anyG rfl rfl e28 (fun hg => Runs.gtr (e30.trans (if_pos hg)) rfl rfl) ?_
  intro u31 e31
  refine HL.still (Runs.pick e28 (or_pick e31)) ?_
  intro u32 e32
  refine HL.nil ?_
  by_cases hc : (((false || ((512 : Int) != 512)) || (p == [])) || decide ((p.length : Int) > 155)) = true
  · repeat refine HW.seq ?_
    refine HW.yes (e32.trans (congrArg Value.bool hc)) ?_
    -- region 4
    repeat refine HW.seq ?_
    refine HW.region ?_
    refine HL.still (Runs.move e5) ?_
    intro u33 e33
    refine HL.still (Runs.assign e33) ?_
    intro u4 e4
    refine HL.nil ?_
    refine HW.ret ?_
    exact RT.one rfl e4 ⟨rfl, X3⟩
  repeat refine HW.seq ?_
  refine HW.no (e32.trans (congrArg Value.bool (Bool.eq_false_iff.2 hc))) ?_
  refine HW.skip ?_
  have hp : p ≠ [] ∧ p.length ≤ 155 := by
    simp only [Bool.or_eq_true, decide_eq_true_eq, beq_iff_eq] at hc
    refine ⟨fun e => hc (.inl (.inr e)), ?_⟩
    by_cases q : p.length ≤ 155
    · exact q
    · exact absurd (.inr (by omega)) hc
  have g6 : u6 = .slice (some ⟨b, 0, none⟩) 512 512 := e6
  -- region 5
  repeat refine HW.seq ?_
  refine HW.region ?_
  refine HL.still (Runs.assign rfl) ?_
  intro u8 e8
  refine HL.nil ?_
  repeat refine HW.seq ?_
  refine HW.block ?_
  refine HW.loop (fun m f u => ∃ k : Nat, k ≤ p.length ∧ m = p.length - k ∧ f 8 = I64 k ∧ f 1 = .string (strOf p) ∧ f 2 = .pointer (some ⟨h.size, 0, none⟩) ∧ f 5 = .bool true ∧ f 6 = .slice (some ⟨b, 0, none⟩) 512 512 ∧ p.contains 0 = (p.drop k).contains 0 ∧ u = h3) p.length
    ⟨0, Nat.zero_le _, rfl, e8, p1, e2, e5, g6, rfl, rfl⟩ ?_
  clear e2 e5 e6 g6 e7 e8
  rintro m f u ⟨k, hkp, hm, f8, f1, f2, f5, f6, hz, rfl⟩
  by_cases hlt : k < p.length
  · rw [drop_at hlt, List.contains_cons] at hz
    -- region 6
    repeat refine HW.seq ?_
    refine HW.region ?_
    refine HL.still (Runs.move f8) ?_
    intro u34 e34
    refine HL.still (Runs.move f1) ?_
    intro u35 e35
    refine HL.still (Runs.lenS rfl Tryd.underlying9 e35) ?_
    intro u36 e36
    refine HL.still (Runs.lss e34 e36 rfl) ?_
    intro u37 e37
    refine HL.nil ?_
    repeat refine HW.seq ?_
    refine HW.yes ?_ ?_
    exact e37.trans (congrArg Value.bool (decide_eq_true (by omega)))
    refine HW.skip ?_
    repeat refine HW.seq ?_
    refine HW.block ?_
    by_cases hc0 : p.getD k 0 = 0
    · skip
      -- region 8
      repeat refine HW.seq ?_
      refine HW.region ?_
      refine HL.still (Runs.move f1) ?_
      intro u40 e40
      refine HL.still (Runs.move f8) ?_
      intro u41 e41
      refine HL.still (Runs.ixS Tryd.underlying9 e40 e41 (j := k) rfl (get_of_lt hlt)) ?_
      intro u42 e42
      refine HL.still (Runs.eql e42 rfl (t := true) (by rw [hc0]; rfl)) ?_
      intro u43 e43
      refine HL.nil ?_
      repeat refine HW.seq ?_
      refine HW.yes ?_ ?_
      exact e43
      -- region 9
      repeat refine HW.seq ?_
      refine HW.region ?_
      refine HL.still (Runs.move f5) ?_
      intro u44 e44
      refine HL.still (Runs.assign e44) ?_
      intro u4 e4
      refine HL.nil ?_
      refine HW.ret ?_
      exact RT.one rfl e4 ⟨rfl, X3⟩
    · have hcn : ((p.getD k 0).toNat : Int) ≠ 0 := u8_ne hc0
      -- region 8
      repeat refine HW.seq ?_
      refine HW.region ?_
      refine HL.still (Runs.move f1) ?_
      intro u40 e40
      refine HL.still (Runs.move f8) ?_
      intro u41 e41
      refine HL.still (Runs.ixS Tryd.underlying9 e40 e41 (j := k) rfl (get_of_lt hlt)) ?_
      intro u42 e42
      refine HL.still (Runs.eql e42 rfl (t := false) (by simpa using hcn)) ?_
      intro u43 e43
      refine HL.nil ?_
      repeat refine HW.seq ?_
      refine HW.no ?_ ?_
      exact e43
      refine HW.skip ?_
      -- region 7
      repeat refine HW.seq ?_
      refine HW.region ?_
      refine HL.still (Runs.move f8) ?_
      intro u38 e38
      refine HL.still (Runs.add e38 rfl (i64w (by omega))) ?_
      intro u39 e39
      refine HL.still (Runs.assign e39) ?_
      intro u8 e8
      refine HL.nil ?_
      refine ⟨p.length - (k + 1), by omega, k + 1, by omega, rfl, e8, f1, f2, f5, f6, ?_, rfl⟩
      rw [hz, show ((0 : UInt8) == p.getD k 0) = false by rw [beq_eq_false_iff_ne]; exact fun e => hc0 e.symm, Bool.false_or]
  have hno : p.contains 0 = false := by
    rw [hz, List.drop_of_length_le (by omega)]
    rfl
  -- region 6
  repeat refine HW.seq ?_
  refine HW.region ?_
  refine HL.still (Runs.move f8) ?_
  intro u34 e34
  refine HL.still (Runs.move f1) ?_
  intro u35 e35
  refine HL.still (Runs.lenS rfl Tryd.underlying9 e35) ?_
  intro u36 e36
  refine HL.still (Runs.lss e34 e36 rfl) ?_
  intro u37 e37
  refine HL.nil ?_
  repeat refine HW.seq ?_
  refine HW.no ?_ ?_
  exact e37.trans (congrArg Value.bool (decide_eq_false (by omega)))
  refine HW.exitHere ?_
  -- region 10
  repeat refine HW.seq ?_
  refine HW.region ?_
  refine HL.still (Runs.move f6) ?_
  intro u45 e45
  refine HL.still (Runs.sliceSl Tryd.underlying22 sz5 e45 (lo := 345) (hi := 512) ⟨_, rfl⟩ rfl (by omega) (by omega) (sl_at _ _ _ (by omega))) ?_
  intro u46 e46
  refine HL.still (Runs.move f1) ?_
  intro u47 e47
  refine HL.one (HO.copyS Tryd.underlying22 sz5 e46 e47 hbb (by omega) (by omega) ?_)
  intro h4 w4
  intro u48 e48
  refine HL.nil ?_
  have X4 : Ext h h4 := X3.wr w4 (by omega)
  have hA4 := w4.keep hA3 (by omega)
  have hol : (over (blk x) 345 p).length = 512 := by rw [over_len _ _ _ (by omega), hbl]
  have hsl := sealO_len (over (blk x) 345 p)
  obtain ⟨y, hy⟩ : ∃ y : Hd, y = { x with name := pfx p x.name } := ⟨_, rfl⟩
  have hpr : parseO (sealO (over (blk x) 345 p)) = (y, 0) := by rw [hy]; exact parse_prefix hOk p hp.2 hno
  -- region 11
  repeat refine HW.seq ?_
  refine HW.region ?_
  refine HL.still (Runs.move f6) ?_
  intro u50 e50
  refine HL.one (HO.call Tryd.func23 bd23 nm23 (args1 e50) rfl ((sealed_n h4 (over (blk x) 345 p) _ _ _ hol.symm (byt_block w4.new) (by omega) (by omega)).mono ?_))
  rintro _ h5 ⟨rfl, hb5, E5⟩
  intro u51 e51
  refine HL.one (HO.call Tryd.func21 bd21 nm21 (args1 e51) rfl ((parse_n h5 (sealO (over (blk x) 345 p)) _ _ _ hpr hsl.symm (hP.ext (X4.ext E5 (Nat.le_refl _))) (byt_block hb5) (by omega) (by omega)).mono ?_))
  rintro _ h6 ⟨rfl, E6⟩
  intro u52 e52
  refine HL.still (Runs.move e52) ?_
  intro u49 e49
  refine HL.still (Runs.extr e49 rfl) ?_
  intro u53 e53
  refine HL.still (Runs.extr e49 rfl) ?_
  intro u54 e54
  refine HL.one (HO.alloc zr36 ?_)
  intro h7 w7
  intro u9 e9
  refine HL.zero (HO.storeAll sz36 e9 e53 (one_cells _) w7.new rfl rfl ?_)
  intro h8 w8
  refine HL.still (Runs.assign e54) ?_
  intro u10 e10
  refine HL.nil ?_
  have E48 : Ext h4 h8 := (E5.ext E6 (Nat.le_refl _)).ext (w7.ext.wr w8 (Nat.le_refl _)) (Nat.le_refl _)
  have X8 : Ext h h8 := X4.ext E48 (Nat.le_refl _)
  have hA8 := E48.keepE hA4
  have hnl := hOk.name
  -- region 12
  repeat refine HW.seq ?_
  refine HW.region ?_
  refine HL.still (Runs.move f1) ?_
  intro u55 e55
  refine HL.still (Runs.addS e55 rfl (ys := [47]) (by simp; omega)) ?_
  intro u56 e56
  refine HL.still (Runs.fld (o' := 0) Tryd.underlying36 rfl sz9 (by decide) f2 (by rfl)) ?_
  intro u57 e57
  refine HL.still (Runs.load Tryd.underlying9 rfl e57 ((cellH_of hA8 0).trans (show _ = some (Value.string (strOf x.name)) from rfl))) ?_
  intro u58 e58
  refine HL.still (Runs.addS e56 e58 (by simp; omega)) ?_
  intro u59 e59
  refine HL.still (Runs.fld (o' := 0) Tryd.underlying36 rfl sz9 (by decide) f2 (by rfl)) ?_
  intro u60 e60
  refine HL.zero (HO.store (s := 1) sz9 e60 e59 rfl hA8 (show 0 < 10 by decide) rfl ?_)
  intro h9 w9
  refine HL.nil ?_
  have hA9 : h9[h.size]? = some (.cells y.cells.toArray 36 (0, 0)) := by
    have q := w9.new
    rw [hy]
    have e1 : pfx p x.name = p ++ [47] ++ x.name := by rw [pfx, if_neg hp.1, List.append_assoc]; rfl
    rw [e1]
    exact q
  have hlt7 : h.size < h6.size := by
    have q1 := E5.size
    have q2 := E6.size
    have q3 := w4.size
    have q4 := E3.size
    omega
  have hB9 := w9.keep w8.new (by omega)
  -- region 13
  repeat refine HW.seq ?_
  refine HW.region ?_
  refine HL.still (Runs.move f5) ?_
  intro u61 e61
  refine HL.still (Runs.move e61) ?_
  intro u62 e62
  refine HL.stillG rfl rfl e62 (Runs.move e10) ?_
  intro u63 e63
  refine HL.stillG rfl rfl e62 (Runs.eql e63 rfl (t := true) rfl) ?_
  intro u64 e64
  refine HL.still (Runs.pick e62 e64) ?_
  intro u65 e65
  refine HL.still (Runs.move e65) ?_
  intro u66 e66
  refine HL.stillG rfl rfl e66 (Runs.loadAgg Tryd.underlying36 rfl sz36 e9 (cs := y.cells) rfl (hd_load hB9)) ?_
  intro u67 e67
  refine HL.stillG rfl rfl e66 (Runs.loadAgg Tryd.underlying36 rfl sz36 f2 (cs := y.cells) rfl (hd_load hA9)) ?_
  intro u68 e68
  refine HL.stillG rfl rfl e66 (Runs.eqStructSelf Tryd.underlying36 sih36 eg36 e67 e68 (by kernel_rfl)) ?_
  intro u69 e69
  refine HL.still (Runs.pick e66 e69) ?_
  intro u70 e70
  refine HL.still (Runs.assign e70) ?_
  intro u4 e4
  refine HL.nil ?_
  refine HW.ret ?_
  exact RT.one rfl e4 ⟨rfl, X8.wr w9 (Nat.le_refl _)⟩
end Go.Proofs.YtfogkggkjmkdiaaDoor
