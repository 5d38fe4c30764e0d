/- onionskinlaw06.HeaderBack, HeaderSum, HeaderPrefix return true. -/
import Derived.Test.YtfogkggkjmkdiaaDoorMa
namespace Go.Proofs.YtfogkggkjmkdiaaDoor
set_option linter.unnecessarySimpa false
set_option linter.unusedSimpArgs false
set_option linter.unusedVariables false
open Go.RowKit
theorem blk_full {x : Hd} (h : okO x = true) : emptyO (blk x) = false := by
  have hp := parts_blk (okO_spec h)
  unfold emptyO
  rw [decide_eq_true hp.len, Bool.true_and, Bool.eq_false_iff]
  intro hall
  rw [List.all_eq_true] at hall
  have h1 : (blk x)[257]? = some 117 := by
    have := congrArg (·[0]?) hp.mag
    simp only [seg_get] at this
    rw [if_pos (by decide)] at this
    exact this
  have := hall 117 (List.mem_of_getElem? h1)
  cases this
set_option maxRecDepth 10000 in
theorem lawBack6_ch (h : Heap) (x : Hd) (hP : Plc h) (hn : x.name.length ≤ maxLen) (hk : x.link.length ≤ maxLen) :
    CH Tryd.prog 10 #[.agg x.cells.toArray] h fun v h' => v = .bool true ∧ Ext h h' := by
  have hn' := hn
  have hk' := hk
  refine CH.of_body Tryd.func10 rfl rfl rfl ?_
  intro f hf
  have p0 : f 0 = .agg x.cells.toArray := by rw [hf]; exact fr0_at rfl
  -- region 0
  repeat refine HW.seq ?_
  refine HW.region ?_
  refine HL.one (HO.box p0 ?_)
  intro h1 w1
  intro u1 e1
  refine HL.still (Runs.assign rfl) ?_
  intro u2 e2
  refine HL.nil ?_
  have X1 : Ext h h1 := w1.ext
  -- region 1
  repeat refine HW.seq ?_
  refine HW.region ?_
  refine HL.one (HO.call Tryd.func20 bd20 nm20 (args0) rfl ((small6_ch h1 (hP.ext X1)).mono ?_))
  rintro _ h2 ⟨rfl, E2⟩
  intro u10 e10
  refine HL.still (Runs.assign e10) ?_
  intro u3 e3
  refine HL.nil ?_
  have hA2 := E2.keepE w1.new
  have X2 : Ext h h2 := X1.ext E2 (Nat.le_refl _)
  cases hok : okO x with
  | false =>
    -- region 2
    repeat refine HW.seq ?_
    refine HW.region ?_
    refine HL.still (Runs.loadAgg Tryd.underlying36 rfl sz36 e1 (cs := x.cells) rfl (hd_load hA2)) ?_
    intro u12 e12
    refine HL.one (HO.call Tryd.func26 bd26 nm26 (args1 e12) rfl ((print_no h2 x (hP.ext X2) hn' hk' hok).mono ?_))
    rintro _ h3 ⟨rfl, E3⟩
    intro u13 e13
    refine HL.still (Runs.move e13) ?_
    intro u11 e11
    refine HL.still (Runs.extr e11 rfl) ?_
    intro u14 e14
    refine HL.still (Runs.extr e11 rfl) ?_
    intro u15 e15
    refine HL.still (Runs.assign e14) ?_
    intro u4 e4
    refine HL.still (Runs.assign e15) ?_
    intro u5 e5
    refine HL.nil ?_
    -- region 3
    repeat refine HW.seq ?_
    refine HW.region ?_
    refine HL.still (Runs.move e5) ?_
    intro u16 e16
    refine HL.still (Runs.notb e16 (t := false) (u := true) rfl) ?_
    intro u17 e17
    refine HL.nil ?_
    repeat refine HW.seq ?_
    refine HW.yes ?_ ?_
    exact e17
    -- region 4
    repeat refine HW.seq ?_
    refine HW.region ?_
    refine HL.still (Runs.move e3) ?_
    intro u18 e18
    refine HL.still (Runs.move e18) ?_
    intro u19 e19
    refine HL.stillG rfl rfl e19 (Runs.move e4) ?_
    intro u20 e20
    refine HL.stillG rfl rfl e19 (Runs.lenSl rfl Tryd.underlying22 e20) ?_
    intro u21 e21
    refine HL.stillG rfl rfl e19 (Runs.eql e21 rfl (t := true) rfl) ?_
    intro u22 e22
    refine HL.still (Runs.pick e19 e22) ?_
    intro u23 e23
    refine HL.still (Runs.assign e23) ?_
    intro u2 e2
    refine HL.nil ?_
    refine HW.ret ?_
    exact RT.one rfl e2 ⟨rfl, X2.ext E3 (Nat.le_refl _)⟩
  | true =>
    have hbl := blk_len hok
    -- region 2
    repeat refine HW.seq ?_
    refine HW.region ?_
    refine HL.still (Runs.loadAgg Tryd.underlying36 rfl sz36 e1 (cs := x.cells) rfl (hd_load hA2)) ?_
    intro u12 e12
    refine HL.one (HO.call Tryd.func26 bd26 nm26 (args1 e12) rfl ((print_yes h2 x (hP.ext X2) hn' hk' hok).mono ?_))
    rintro _ h3 ⟨b, hb2, rfl, hbb, E3⟩
    intro u13 e13
    refine HL.still (Runs.move e13) ?_
    intro u11 e11
    refine HL.still (Runs.extr e11 rfl) ?_
    intro u14 e14
    refine HL.still (Runs.extr e11 rfl) ?_
    intro u15 e15
    refine HL.still (Runs.assign e14) ?_
    intro u4 e4
    refine HL.still (Runs.assign e15) ?_
    intro u5 e5
    refine HL.nil ?_
    have X3 : Ext h h3 := X2.ext E3 (Nat.le_refl _)
    have hA3 := E3.keepE hA2
    -- region 3
    repeat refine HW.seq ?_
    refine HW.region ?_
    refine HL.still (Runs.move e5) ?_
    intro u16 e16
    refine HL.still (Runs.notb e16 (t := true) (u := false) rfl) ?_
    intro u17 e17
    refine HL.nil ?_
    repeat refine HW.seq ?_
    refine HW.no ?_ ?_
    exact e17
    refine HW.skip ?_
    -- region 5
    repeat refine HW.seq ?_
    refine HW.region ?_
    refine HL.still (Runs.move e4) ?_
    intro u25 e25
    refine HL.one (HO.call Tryd.func21 bd21 nm21 (args1 e25) rfl ((parse_n h3 (blk x) _ _ _ (parse_back (okO_spec hok)) hbl.symm (hP.ext X3) (byt_block hbb) (by omega) (by omega)).mono ?_))
    rintro _ h4 ⟨rfl, E4⟩
    intro u26 e26
    refine HL.still (Runs.move e26) ?_
    intro u24 e24
    refine HL.still (Runs.extr e24 rfl) ?_
    intro u27 e27
    refine HL.still (Runs.extr e24 rfl) ?_
    intro u28 e28
    refine HL.one (HO.alloc zr36 ?_)
    intro h5 w5
    intro u6 e6
    refine HL.zero (HO.storeAll sz36 e6 e27 (one_cells _) w5.new rfl rfl ?_)
    intro h6 w6
    refine HL.still (Runs.assign e28) ?_
    intro u7 e7
    refine HL.nil ?_
    have E36 : Ext h3 h6 := E4.ext (w5.ext.wr w6 (Nat.le_refl _)) (Nat.le_refl _)
    have X6 : Ext h h6 := X3.ext E36 (Nat.le_refl _)
    -- region 6
    repeat refine HW.seq ?_
    refine HW.region ?_
    refine HL.still (Runs.loadAgg Tryd.underlying36 rfl sz36 e6 (cs := x.cells) rfl (hd_load w6.new)) ?_
    intro u30 e30
    refine HL.one (HO.call Tryd.func26 bd26 nm26 (args1 e30) rfl ((print_yes h6 x (hP.ext X6) hn' hk' hok).mono ?_))
    rintro _ h7 ⟨b', hb6, rfl, hbb', E7⟩
    intro u31 e31
    refine HL.still (Runs.move e31) ?_
    intro u29 e29
    refine HL.still (Runs.extr e29 rfl) ?_
    intro u32 e32
    refine HL.still (Runs.extr e29 rfl) ?_
    intro u33 e33
    refine HL.still (Runs.assign e32) ?_
    intro u8 e8
    refine HL.still (Runs.assign e33) ?_
    intro u9 e9
    refine HL.nil ?_
    have E37 : Ext h3 h7 := E36.ext E7 (Nat.le_refl _)
    -- region 7
    repeat refine HW.seq ?_
    refine HW.region ?_
    refine HL.still (Runs.move e3) ?_
    intro u34 e34
    refine HL.still (Runs.move e34) ?_
    intro u35 e35
    refine HL.stillG rfl rfl e35 (Runs.move e7) ?_
    intro u36 e36
    refine HL.stillG rfl rfl e35 (Runs.eql e36 rfl (t := true) rfl) ?_
    intro u37 e37
    refine HL.still (Runs.pick e35 e37) ?_
    intro u38 e38
    refine HL.still (Runs.move e38) ?_
    intro u39 e39
    refine HL.stillG rfl rfl e39 (Runs.loadAgg Tryd.underlying36 rfl sz36 e6 (cs := x.cells) rfl (hd_load (E7.keepE w6.new))) ?_
    intro u40 e40
    refine HL.stillG rfl rfl e39 (Runs.loadAgg Tryd.underlying36 rfl sz36 e1 (cs := x.cells) rfl (hd_load (E37.keepE hA3))) ?_
    intro u41 e41
    refine HL.stillG rfl rfl e39 (Runs.eqStructSelf Tryd.underlying36 sih36 eg36 e40 e41 (by kernel_rfl)) ?_
    intro u42 e42
    refine HL.still (Runs.pick e39 e42) ?_
    intro u43 e43
    refine HL.still (Runs.move e43) ?_
    intro u44 e44
    refine HL.stillG rfl rfl e44 (Runs.move e9) ?_
    intro u45 e45
    refine HL.still (Runs.pick e44 e45) ?_
    intro u46 e46
    refine HL.still (Runs.move e46) ?_
    intro u47 e47
    refine HL.stillG rfl rfl e47 (Runs.move e8) ?_
    intro u48 e48
    refine HL.stillG rfl rfl e47 (Runs.toStrB Tryd.underlying22 Tryd.underlying5 Tryd.underlying9 e48 hbl.symm (byt_block hbb')) ?_
    intro u49 e49
    refine HL.stillG rfl rfl e47 (Runs.move e4) ?_
    intro u50 e50
    refine HL.stillG rfl rfl e47 (Runs.toStrB Tryd.underlying22 Tryd.underlying5 Tryd.underlying9 e50 hbl.symm (byt_block (E37.keepE hbb))) ?_
    intro u51 e51
    refine HL.stillG rfl rfl e47 (Runs.eqS e49 e51 (t := true) (beq_self_eq_true _)) ?_
    intro u52 e52
    refine HL.still (Runs.pick e47 e52) ?_
    intro u53 e53
    refine HL.still (Runs.move e53) ?_
    intro u54 e54
    refine HL.stillG rfl rfl e54 (Runs.move e4) ?_
    intro u55 e55
    refine HL.oneG rfl rfl e54 (HO.call Tryd.func24 bd24 nm24 (args1 e55) rfl ((empty_n h7 (blk x) _ _ _ (blk_full hok) hbl.symm (byt_block (E37.keepE hbb)) (by omega)).mono ?_))
    rintro _ h8 ⟨rfl, hh8⟩
    intro u56 e56
    refine HL.stillG rfl rfl e54 (Runs.notb e56 (t := false) (u := true) rfl) ?_
    intro u57 e57
    refine HL.still (Runs.pick e54 e57) ?_
    intro u58 e58
    refine HL.still (Runs.assign e58) ?_
    intro u2 e2
    refine HL.nil ?_
    refine HW.ret ?_
    exact RT.one rfl e2 ⟨rfl, by rw [hh8]; exact X3.ext E37 (Nat.le_refl _)⟩
theorem set_same (xs : List UInt8) (i : Nat) : xs.set i (xs.getD i 0) = xs := by
  apply List.ext_getElem?
  intro j
  rw [List.getElem?_set]
  by_cases e : i = j
  · subst e
    rw [if_pos rfl]
    by_cases hi : i < xs.length
    · rw [if_pos hi, get_of_lt hi]
    · rw [if_neg hi, List.getElem?_eq_none (by omega)]
  · rw [if_neg e]
theorem u8_int {c d : UInt8} : ((c.toNat : Int) == d.toNat) = (c == d) := by
  by_cases e : c = d
  · subst e; simp
  · rw [beq_eq_false_iff_ne.2 e, beq_eq_false_iff_ne]
    exact u8_ne e
set_option maxRecDepth 10000 in
theorem lawSum6_ch (h : Heap) (x : Hd) (n : Int) (c : UInt8) (hP : Plc h) (hn : x.name.length ≤ maxLen) (hk : x.link.length ≤ maxLen) :
    CH Tryd.prog 11 #[.agg x.cells.toArray, .int .i64 n, B8 c] h fun v h' => v = .bool true ∧ Ext h h' := by
  have hn' := hn
  have hk' := hk
  refine CH.of_body Tryd.func11 rfl rfl rfl ?_
  intro f hf
  have p0 : f 0 = .agg x.cells.toArray := by rw [hf]; exact fr0_at rfl
  have p1 : f 1 = .int .i64 n := by rw [hf]; exact fr0_at rfl
  have p2 : f 2 = B8 c := by rw [hf]; exact fr0_at rfl
  -- region 0
  repeat refine HW.seq ?_
  refine HW.region ?_
  refine HL.one (HO.box p0 ?_)
  intro h1 w1
  intro u3 e3
  refine HL.still (Runs.assign rfl) ?_
  intro u6 e6
  refine HL.nil ?_
  have X1 : Ext h h1 := w1.ext
  -- region 1
  repeat refine HW.seq ?_
  refine HW.region ?_
  refine HL.one (HO.call Tryd.func20 bd20 nm20 (args0) rfl ((small6_ch h1 (hP.ext X1)).mono ?_))
  rintro _ h2 ⟨rfl, E2⟩
  intro u13 e13
  refine HL.still (Runs.assign e13) ?_
  intro u7 e7
  refine HL.nil ?_
  have hA2 := E2.keepE w1.new
  have X2 : Ext h h2 := X1.ext E2 (Nat.le_refl _)
  cases hok : okO x with
  | false =>
    -- region 2
    repeat refine HW.seq ?_
    refine HW.region ?_
    refine HL.still (Runs.loadAgg Tryd.underlying36 rfl sz36 e3 (cs := x.cells) rfl (hd_load hA2)) ?_
    intro u15 e15
    refine HL.one (HO.call Tryd.func26 bd26 nm26 (args1 e15) rfl ((print_no h2 x (hP.ext X2) hn' hk' hok).mono ?_))
    rintro _ h3 ⟨rfl, E3⟩
    intro u16 e16
    refine HL.still (Runs.move e16) ?_
    intro u14 e14
    refine HL.still (Runs.extr e14 rfl) ?_
    intro u17 e17
    refine HL.still (Runs.extr e14 rfl) ?_
    intro u18 e18
    refine HL.still (Runs.assign e17) ?_
    intro u8 e8
    refine HL.still (Runs.assign e18) ?_
    intro u9 e9
    refine HL.nil ?_
    -- region 3
    repeat refine HW.seq ?_
    refine HW.region ?_
    refine HL.still (Runs.move e9) ?_
    intro u19 e19
    refine HL.still (Runs.notb e19 (t := false) (u := true) rfl) ?_
    intro u20 e20
    refine HL.still (Runs.move e20) ?_
    intro u21 e21
    refine HL.skipG rfl rfl e21 ?_
    intro u22 e22
    refine HL.skipG rfl rfl e21 ?_
    intro u23 e23
    refine HL.skipG rfl rfl e21 ?_
    intro u24 e24
    refine HL.still (Runs.pick e21 rfl) ?_
    intro u25 e25
    refine HL.still (Runs.move e25) ?_
    intro u26 e26
    refine HL.skipG rfl rfl e26 ?_
    intro u27 e27
    refine HL.skipG rfl rfl e26 ?_
    intro u28 e28
    refine HL.still (Runs.pick e26 rfl) ?_
    intro u29 e29
    refine HL.still (Runs.move e29) ?_
    intro u30 e30
    refine HL.skipG rfl rfl e30 ?_
    intro u31 e31
    refine HL.skipG rfl rfl e30 ?_
    intro u32 e32
    refine HL.still (Runs.pick e30 rfl) ?_
    intro u33 e33
    refine HL.still (Runs.move e33) ?_
    intro u34 e34
    refine HL.skipG rfl rfl e34 ?_
    intro u35 e35
    refine HL.skipG rfl rfl e34 ?_
    intro u36 e36
    refine HL.skipG rfl rfl e34 ?_
    intro u37 e37
    refine HL.skipU rfl rfl e37 ?_
    intro u38 e38
    refine HL.skipU rfl rfl e37 ?_
    intro u39 e39
    refine HL.skipG rfl rfl e34 ?_
    intro u40 e40
    refine HL.still (Runs.pick e34 rfl) ?_
    intro u41 e41
    refine HL.nil ?_
    repeat refine HW.seq ?_
    refine HW.yes ?_ ?_
    exact e41
    -- region 4
    repeat refine HW.seq ?_
    refine HW.region ?_
    refine HL.still (Runs.move e7) ?_
    intro u42 e42
    refine HL.still (Runs.assign e42) ?_
    intro u6 e6
    refine HL.nil ?_
    refine HW.ret ?_
    exact RT.one rfl e6 ⟨rfl, X2.ext E3 (Nat.le_refl _)⟩
  | true =>
  have hbl := blk_len hok
  -- region 2
  repeat refine HW.seq ?_
  refine HW.region ?_
  refine HL.still (Runs.loadAgg Tryd.underlying36 rfl sz36 e3 (cs := x.cells) rfl (hd_load hA2)) ?_
  intro u15 e15
  refine HL.one (HO.call Tryd.func26 bd26 nm26 (args1 e15) rfl ((print_yes h2 x (hP.ext X2) hn' hk' hok).mono ?_))
  rintro _ h3 ⟨b, hb2, rfl, hbb, E3⟩
  intro u16 e16
  refine HL.still (Runs.move e16) ?_
  intro u14 e14
  refine HL.still (Runs.extr e14 rfl) ?_
  intro u17 e17
  refine HL.still (Runs.extr e14 rfl) ?_
  intro u18 e18
  refine HL.still (Runs.assign e17) ?_
  intro u8 e8
  refine HL.still (Runs.assign e18) ?_
  intro u9 e9
  refine HL.nil ?_
  have X3 : Ext h h3 := X2.ext E3 (Nat.le_refl _)
  have g8 : u8 = .slice (some ⟨b, 0, none⟩) 512 512 := e8
  have g9 : u9 = .bool true := e9
  repeat refine HW.seq ?_
  refine HW.mono (N := fun f' g => g = h3 ∧ f' 41 = .bool (decide (n < 0 ∨ n > 511 ∨ 148 ≤ n ∧ n < 156)) ∧ f' 1 = .int .i64 n ∧ f' 2 = B8 c ∧ f' 7 = .bool true ∧ f' 8 = .slice (some ⟨b, 0, none⟩) 512 512) ?_ ?_ (fun _ _ _ h => h) (fun _ _ h => h)
  · by_cases c1 : n < 0
    · skip
      -- region 3
      repeat refine HW.seq ?_
      refine HW.region ?_
      refine HL.still (Runs.move g9) ?_
      intro u19 e19
      refine HL.still (Runs.notb e19 (t := true) (u := false) rfl) ?_
      intro u20 e20
      refine HL.still (Runs.move e20) ?_
      intro u21 e21
      refine HL.stillG rfl rfl e21 (Runs.move g8) ?_
      intro u22 e22
      refine HL.stillG rfl rfl e21 (Runs.lenSl rfl Tryd.underlying22 e22) ?_
      intro u23 e23
      refine HL.stillG rfl rfl e21 (Runs.neq e23 rfl (t := false) rfl) ?_
      intro u24 e24
      refine HL.still (Runs.pick e21 e24) ?_
      intro u25 e25
      refine HL.still (Runs.move e25) ?_
      intro u26 e26
      refine HL.stillG rfl rfl e26 (Runs.move p1) ?_
      intro u27 e27
      refine HL.stillG rfl rfl e26 (Runs.lss e27 rfl (t := true) (decide_eq_true c1)) ?_
      intro u28 e28
      refine HL.still (Runs.pick e26 e28) ?_
      intro u29 e29
      refine HL.still (Runs.move e29) ?_
      intro u30 e30
      refine HL.skipG rfl rfl e30 ?_
      intro u31 e31
      refine HL.skipG rfl rfl e30 ?_
      intro u32 e32
      refine HL.still (Runs.pick e30 rfl) ?_
      intro u33 e33
      refine HL.still (Runs.move e33) ?_
      intro u34 e34
      refine HL.skipG rfl rfl e34 ?_
      intro u35 e35
      refine HL.skipG rfl rfl e34 ?_
      intro u36 e36
      refine HL.skipG rfl rfl e34 ?_
      intro u37 e37
      refine HL.skipU rfl rfl e37 ?_
      intro u38 e38
      refine HL.skipU rfl rfl e37 ?_
      intro u39 e39
      refine HL.skipG rfl rfl e34 ?_
      intro u40 e40
      refine HL.still (Runs.pick e34 rfl) ?_
      intro u41 e41
      refine HL.nil ?_
      exact ⟨rfl, e41.trans (congrArg Value.bool (decide_eq_true (by omega)).symm), p1, p2, e7, g8⟩
    by_cases c2 : n > 511
    · skip
      -- region 3
      repeat refine HW.seq ?_
      refine HW.region ?_
      refine HL.still (Runs.move g9) ?_
      intro u19 e19
      refine HL.still (Runs.notb e19 (t := true) (u := false) rfl) ?_
      intro u20 e20
      refine HL.still (Runs.move e20) ?_
      intro u21 e21
      refine HL.stillG rfl rfl e21 (Runs.move g8) ?_
      intro u22 e22
      refine HL.stillG rfl rfl e21 (Runs.lenSl rfl Tryd.underlying22 e22) ?_
      intro u23 e23
      refine HL.stillG rfl rfl e21 (Runs.neq e23 rfl (t := false) rfl) ?_
      intro u24 e24
      refine HL.still (Runs.pick e21 e24) ?_
      intro u25 e25
      refine HL.still (Runs.move e25) ?_
      intro u26 e26
      refine HL.stillG rfl rfl e26 (Runs.move p1) ?_
      intro u27 e27
      refine HL.stillG rfl rfl e26 (Runs.lss e27 rfl (t := false) (decide_eq_false c1)) ?_
      intro u28 e28
      refine HL.still (Runs.pick e26 e28) ?_
      intro u29 e29
      refine HL.still (Runs.move e29) ?_
      intro u30 e30
      refine HL.stillG rfl rfl e30 (Runs.move p1) ?_
      intro u31 e31
      refine HL.stillG rfl rfl e30 (Runs.gtr e31 rfl (t := true) (decide_eq_true c2)) ?_
      intro u32 e32
      refine HL.still (Runs.pick e30 e32) ?_
      intro u33 e33
      refine HL.still (Runs.move e33) ?_
      intro u34 e34
      refine HL.skipG rfl rfl e34 ?_
      intro u35 e35
      refine HL.skipG rfl rfl e34 ?_
      intro u36 e36
      refine HL.skipG rfl rfl e34 ?_
      intro u37 e37
      refine HL.skipU rfl rfl e37 ?_
      intro u38 e38
      refine HL.skipU rfl rfl e37 ?_
      intro u39 e39
      refine HL.skipG rfl rfl e34 ?_
      intro u40 e40
      refine HL.still (Runs.pick e34 rfl) ?_
      intro u41 e41
      refine HL.nil ?_
      exact ⟨rfl, e41.trans (congrArg Value.bool (decide_eq_true (by omega)).symm), p1, p2, e7, g8⟩
    by_cases c3 : n ≥ 148
    · by_cases c4 : n < 156
      · skip
        -- region 3
        repeat refine HW.seq ?_
        refine HW.region ?_
        refine HL.still (Runs.move g9) ?_
        intro u19 e19
        refine HL.still (Runs.notb e19 (t := true) (u := false) rfl) ?_
        intro u20 e20
        refine HL.still (Runs.move e20) ?_
        intro u21 e21
        refine HL.stillG rfl rfl e21 (Runs.move g8) ?_
        intro u22 e22
        refine HL.stillG rfl rfl e21 (Runs.lenSl rfl Tryd.underlying22 e22) ?_
        intro u23 e23
        refine HL.stillG rfl rfl e21 (Runs.neq e23 rfl (t := false) rfl) ?_
        intro u24 e24
        refine HL.still (Runs.pick e21 e24) ?_
        intro u25 e25
        refine HL.still (Runs.move e25) ?_
        intro u26 e26
        refine HL.stillG rfl rfl e26 (Runs.move p1) ?_
        intro u27 e27
        refine HL.stillG rfl rfl e26 (Runs.lss e27 rfl (t := false) (decide_eq_false c1)) ?_
        intro u28 e28
        refine HL.still (Runs.pick e26 e28) ?_
        intro u29 e29
        refine HL.still (Runs.move e29) ?_
        intro u30 e30
        refine HL.stillG rfl rfl e30 (Runs.move p1) ?_
        intro u31 e31
        refine HL.stillG rfl rfl e30 (Runs.gtr e31 rfl (t := false) (decide_eq_false c2)) ?_
        intro u32 e32
        refine HL.still (Runs.pick e30 e32) ?_
        intro u33 e33
        refine HL.still (Runs.move e33) ?_
        intro u34 e34
        refine HL.stillG rfl rfl e34 (Runs.move p1) ?_
        intro u35 e35
        refine HL.stillG rfl rfl e34 (Runs.geq e35 rfl (t := true) (decide_eq_true c3)) ?_
        intro u36 e36
        refine HL.stillG rfl rfl e34 (Runs.move e36) ?_
        intro u37 e37
        refine HL.stillG rfl rfl e37 (Runs.move p1) ?_
        intro u38 e38
        refine HL.stillG rfl rfl e37 (Runs.lss e38 rfl (t := true) (decide_eq_true c4)) ?_
        intro u39 e39
        refine HL.stillG rfl rfl e34 (Runs.pick e37 e39) ?_
        intro u40 e40
        refine HL.still (Runs.pick e34 e40) ?_
        intro u41 e41
        refine HL.nil ?_
        exact ⟨rfl, e41.trans (congrArg Value.bool (decide_eq_true (by omega)).symm), p1, p2, e7, g8⟩
      · skip
        -- region 3
        repeat refine HW.seq ?_
        refine HW.region ?_
        refine HL.still (Runs.move g9) ?_
        intro u19 e19
        refine HL.still (Runs.notb e19 (t := true) (u := false) rfl) ?_
        intro u20 e20
        refine HL.still (Runs.move e20) ?_
        intro u21 e21
        refine HL.stillG rfl rfl e21 (Runs.move g8) ?_
        intro u22 e22
        refine HL.stillG rfl rfl e21 (Runs.lenSl rfl Tryd.underlying22 e22) ?_
        intro u23 e23
        refine HL.stillG rfl rfl e21 (Runs.neq e23 rfl (t := false) rfl) ?_
        intro u24 e24
        refine HL.still (Runs.pick e21 e24) ?_
        intro u25 e25
        refine HL.still (Runs.move e25) ?_
        intro u26 e26
        refine HL.stillG rfl rfl e26 (Runs.move p1) ?_
        intro u27 e27
        refine HL.stillG rfl rfl e26 (Runs.lss e27 rfl (t := false) (decide_eq_false c1)) ?_
        intro u28 e28
        refine HL.still (Runs.pick e26 e28) ?_
        intro u29 e29
        refine HL.still (Runs.move e29) ?_
        intro u30 e30
        refine HL.stillG rfl rfl e30 (Runs.move p1) ?_
        intro u31 e31
        refine HL.stillG rfl rfl e30 (Runs.gtr e31 rfl (t := false) (decide_eq_false c2)) ?_
        intro u32 e32
        refine HL.still (Runs.pick e30 e32) ?_
        intro u33 e33
        refine HL.still (Runs.move e33) ?_
        intro u34 e34
        refine HL.stillG rfl rfl e34 (Runs.move p1) ?_
        intro u35 e35
        refine HL.stillG rfl rfl e34 (Runs.geq e35 rfl (t := true) (decide_eq_true c3)) ?_
        intro u36 e36
        refine HL.stillG rfl rfl e34 (Runs.move e36) ?_
        intro u37 e37
        refine HL.stillG rfl rfl e37 (Runs.move p1) ?_
        intro u38 e38
        refine HL.stillG rfl rfl e37 (Runs.lss e38 rfl (t := false) (decide_eq_false c4)) ?_
        intro u39 e39
        refine HL.stillG rfl rfl e34 (Runs.pick e37 e39) ?_
        intro u40 e40
        refine HL.still (Runs.pick e34 e40) ?_
        intro u41 e41
        refine HL.nil ?_
        exact ⟨rfl, e41.trans (congrArg Value.bool (decide_eq_false (by omega)).symm), p1, p2, e7, g8⟩
    · skip
      -- region 3
      repeat refine HW.seq ?_
      refine HW.region ?_
      refine HL.still (Runs.move g9) ?_
      intro u19 e19
      refine HL.still (Runs.notb e19 (t := true) (u := false) rfl) ?_
      intro u20 e20
      refine HL.still (Runs.move e20) ?_
      intro u21 e21
      refine HL.stillG rfl rfl e21 (Runs.move g8) ?_
      intro u22 e22
      refine HL.stillG rfl rfl e21 (Runs.lenSl rfl Tryd.underlying22 e22) ?_
      intro u23 e23
      refine HL.stillG rfl rfl e21 (Runs.neq e23 rfl (t := false) rfl) ?_
      intro u24 e24
      refine HL.still (Runs.pick e21 e24) ?_
      intro u25 e25
      refine HL.still (Runs.move e25) ?_
      intro u26 e26
      refine HL.stillG rfl rfl e26 (Runs.move p1) ?_
      intro u27 e27
      refine HL.stillG rfl rfl e26 (Runs.lss e27 rfl (t := false) (decide_eq_false c1)) ?_
      intro u28 e28
      refine HL.still (Runs.pick e26 e28) ?_
      intro u29 e29
      refine HL.still (Runs.move e29) ?_
      intro u30 e30
      refine HL.stillG rfl rfl e30 (Runs.move p1) ?_
      intro u31 e31
      refine HL.stillG rfl rfl e30 (Runs.gtr e31 rfl (t := false) (decide_eq_false c2)) ?_
      intro u32 e32
      refine HL.still (Runs.pick e30 e32) ?_
      intro u33 e33
      refine HL.still (Runs.move e33) ?_
      intro u34 e34
      refine HL.stillG rfl rfl e34 (Runs.move p1) ?_
      intro u35 e35
      refine HL.stillG rfl rfl e34 (Runs.geq e35 rfl (t := false) (decide_eq_false c3)) ?_
      intro u36 e36
      refine HL.stillG rfl rfl e34 (Runs.move e36) ?_
      intro u37 e37
      refine HL.skipG rfl rfl e37 ?_
      intro u38 e38
      refine HL.skipG rfl rfl e37 ?_
      intro u39 e39
      refine HL.stillG rfl rfl e34 (Runs.pick e37 rfl) ?_
      intro u40 e40
      refine HL.still (Runs.pick e34 e40) ?_
      intro u41 e41
      refine HL.nil ?_
      exact ⟨rfl, e41.trans (congrArg Value.bool (decide_eq_false (by omega)).symm), p1, p2, e7, g8⟩
  clear e3 e7 e8 e9 g8 g9
  rintro f g ⟨hg, f41, f1, f2, f7, f8⟩
  rw [hg]
  clear hg
  by_cases hbad : n < 0 ∨ n > 511 ∨ 148 ≤ n ∧ n < 156
  · rw [decide_eq_true hbad] at f41
    repeat refine HW.seq ?_
    refine HW.yes f41 ?_
    -- region 4
    repeat refine HW.seq ?_
    refine HW.region ?_
    refine HL.still (Runs.move f7) ?_
    intro u42 e42
    refine HL.still (Runs.assign e42) ?_
    intro u6 e6
    refine HL.nil ?_
    refine HW.ret ?_
    exact RT.one rfl e6 ⟨rfl, X3⟩
  rw [decide_eq_false hbad] at f41
  repeat refine HW.seq ?_
  refine HW.no f41 ?_
  refine HW.skip ?_
  obtain ⟨i, rfl⟩ : ∃ i : Nat, n = (i : Int) := ⟨n.toNat, by omega⟩
  have hcell := cellH_map (j := i) 0 hbb (by omega)
  have zx2 := X2.size
  -- region 5
  repeat refine HW.seq ?_
  refine HW.region ?_
  refine HL.still (Runs.move f8) ?_
  intro u43 e43
  refine HL.still (Runs.move f1) ?_
  intro u44 e44
  refine HL.still (Runs.ixSl (o' := i) Tryd.underlying22 sz5 e43 e44 (by omega) (by omega) (by omega)) ?_
  intro u45 e45
  refine HL.still (Runs.load Tryd.underlying5 rfl e45 hcell) ?_
  intro u46 e46
  refine HL.still (Runs.assign e46) ?_
  intro u10 e10
  refine HL.nil ?_
  -- region 6
  repeat refine HW.seq ?_
  refine HW.region ?_
  refine HL.still (Runs.move f8) ?_
  intro u47 e47
  refine HL.still (Runs.move f1) ?_
  intro u48 e48
  refine HL.still (Runs.move f2) ?_
  intro u49 e49
  refine HL.still (Runs.ixSl (o' := i) Tryd.underlying22 sz5 e47 e48 (by omega) (by omega) (by omega)) ?_
  intro u50 e50
  refine HL.zero (HO.store (s := 1) sz5 e50 e49 rfl hbb (by rw [List.length_map, hbl]; omega) rfl ?_)
  intro h4 w4
  refine HL.nil ?_
  have hb4 := w4.new
  rw [← List.map_set] at hb4
  have X4 : Ext h h4 := X3.wr w4 (by omega)
  have hsl : ((blk x).set i c).length = 512 := by rw [List.length_set, hbl]
  have hOk := okO_spec hok
  by_cases hc : c = (blk x).getD i 0
  · have hpr : parseO ((blk x).set i c) = (x, 0) := by rw [hc, set_same]; exact parse_back hOk
    -- region 7
    repeat refine HW.seq ?_
    refine HW.region ?_
    refine HL.still (Runs.move f8) ?_
    intro u52 e52
    refine HL.one (HO.call Tryd.func21 bd21 nm21 (args1 e52) rfl ((parse_n h4 ((blk x).set i c) _ _ _ hpr hsl.symm (hP.ext X4) (byt_block hb4) (by omega) (by omega)).mono ?_))
    rintro _ h5 ⟨rfl, E5⟩
    intro u53 e53
    refine HL.still (Runs.move e53) ?_
    intro u51 e51
    refine HL.still (Runs.extr e51 rfl) ?_
    intro u54 e54
    refine HL.still (Runs.extr e51 rfl) ?_
    intro u55 e55
    refine HL.one (HO.alloc zr36 ?_)
    intro h6 w6
    intro u11 e11
    refine HL.zero (HO.storeAll sz36 e11 e54 (one_cells _) w6.new rfl rfl ?_)
    intro h7 w7
    refine HL.still (Runs.assign e55) ?_
    intro u12 e12
    refine HL.nil ?_
    have X7 : Ext h h7 := X4.ext (E5.ext (w6.ext.wr w7 (Nat.le_refl _)) (Nat.le_refl _)) (Nat.le_refl _)
    -- region 8
    repeat refine HW.seq ?_
    refine HW.region ?_
    refine HL.still (Runs.move f7) ?_
    intro u56 e56
    refine HL.still (Runs.move e56) ?_
    intro u57 e57
    refine HL.stillG rfl rfl e57 (Runs.move e12) ?_
    intro u58 e58
    refine HL.stillG rfl rfl e57 (Runs.eql e58 rfl (t := true) rfl) ?_
    intro u59 e59
    refine HL.stillG rfl rfl e57 (Runs.move e10) ?_
    intro u60 e60
    refine HL.stillG rfl rfl e57 (Runs.move f2) ?_
    intro u61 e61
    refine HL.stillG rfl rfl e57 (Runs.eql e60 e61 (t := true) (by rw [u8_int, hc]; exact beq_self_eq_true _)) ?_
    intro u62 e62
    refine HL.stillG rfl rfl e57 (Runs.eqB Tryd.underlying4 e59 e62 (b := true) rfl) ?_
    intro u63 e63
    refine HL.still (Runs.pick e57 e63) ?_
    intro u64 e64
    refine HL.still (Runs.move e64) ?_
    intro u65 e65
    refine HL.stillG rfl rfl e65 (Runs.move e10) ?_
    intro u66 e66
    refine HL.stillG rfl rfl e65 (Runs.move f2) ?_
    intro u67 e67
    refine HL.stillG rfl rfl e65 (Runs.eql e66 e67 (t := true) (by rw [u8_int, hc]; exact beq_self_eq_true _)) ?_
    intro u68 e68
    refine HL.stillG rfl rfl e65 (Runs.move e68) ?_
    intro u69 e69
    refine HL.skipG rfl rfl e69 ?_
    intro u70 e70
    refine HL.skipG rfl rfl e69 ?_
    intro u71 e71
    refine HL.skipG rfl rfl e69 ?_
    intro u72 e72
    refine HL.skipU rfl rfl e72 ?_
    intro u73 e73
    refine HL.skipU rfl rfl e72 ?_
    intro u74 e74
    refine HL.skipU rfl rfl e72 ?_
    intro u75 e75
    refine HL.skipG rfl rfl e69 ?_
    intro u76 e76
    refine HL.stillG rfl rfl e65 (Runs.pick e69 rfl) ?_
    intro u77 e77
    refine HL.still (Runs.pick e65 e77) ?_
    intro u78 e78
    refine HL.still (Runs.assign e78) ?_
    intro u6 e6
    refine HL.nil ?_
    refine HW.ret ?_
    exact RT.one rfl e6 ⟨rfl, X7⟩
  · have hpr : parseO ((blk x).set i c) = (Hd.zero, 5) := parse_other hbl (by omega) (by omega) (sums_blk hOk) hc
    have hne : (((blk x).getD i 0) == c) = false := beq_eq_false_iff_ne.2 (Ne.symm hc)
    -- region 7
    repeat refine HW.seq ?_
    refine HW.region ?_
    refine HL.still (Runs.move f8) ?_
    intro u52 e52
    refine HL.one (HO.call Tryd.func21 bd21 nm21 (args1 e52) rfl ((parse_n h4 ((blk x).set i c) _ _ _ hpr hsl.symm (hP.ext X4) (byt_block hb4) (by omega) (by omega)).mono ?_))
    rintro _ h5 ⟨rfl, E5⟩
    intro u53 e53
    refine HL.still (Runs.move e53) ?_
    intro u51 e51
    refine HL.still (Runs.extr e51 rfl) ?_
    intro u54 e54
    refine HL.still (Runs.extr e51 rfl) ?_
    intro u55 e55
    refine HL.one (HO.alloc zr36 ?_)
    intro h6 w6
    intro u11 e11
    refine HL.zero (HO.storeAll sz36 e11 e54 (one_cells _) w6.new rfl rfl ?_)
    intro h7 w7
    refine HL.still (Runs.assign e55) ?_
    intro u12 e12
    refine HL.nil ?_
    have X7 : Ext h h7 := X4.ext (E5.ext (w6.ext.wr w7 (Nat.le_refl _)) (Nat.le_refl _)) (Nat.le_refl _)
    -- region 8
    repeat refine HW.seq ?_
    refine HW.region ?_
    refine HL.still (Runs.move f7) ?_
    intro u56 e56
    refine HL.still (Runs.move e56) ?_
    intro u57 e57
    refine HL.stillG rfl rfl e57 (Runs.move e12) ?_
    intro u58 e58
    refine HL.stillG rfl rfl e57 (Runs.eql e58 rfl (t := false) rfl) ?_
    intro u59 e59
    refine HL.stillG rfl rfl e57 (Runs.move e10) ?_
    intro u60 e60
    refine HL.stillG rfl rfl e57 (Runs.move f2) ?_
    intro u61 e61
    refine HL.stillG rfl rfl e57 (Runs.eql e60 e61 (t := false) (by rw [u8_int]; exact hne)) ?_
    intro u62 e62
    refine HL.stillG rfl rfl e57 (Runs.eqB Tryd.underlying4 e59 e62 (b := true) rfl) ?_
    intro u63 e63
    refine HL.still (Runs.pick e57 e63) ?_
    intro u64 e64
    refine HL.still (Runs.move e64) ?_
    intro u65 e65
    refine HL.stillG rfl rfl e65 (Runs.move e10) ?_
    intro u66 e66
    refine HL.stillG rfl rfl e65 (Runs.move f2) ?_
    intro u67 e67
    refine HL.stillG rfl rfl e65 (Runs.eql e66 e67 (t := false) (by rw [u8_int]; exact hne)) ?_
    intro u68 e68
    refine HL.stillG rfl rfl e65 (Runs.move e68) ?_
    intro u69 e69
    refine HL.stillG rfl rfl e69 (Runs.move e12) ?_
    intro u70 e70
    refine HL.stillG rfl rfl e69 (Runs.eql e70 rfl (t := true) rfl) ?_
    intro u71 e71
    refine HL.stillG rfl rfl e69 (Runs.move e71) ?_
    intro u72 e72
    refine HL.stillG rfl rfl e72 (Runs.loadAgg Tryd.underlying36 rfl sz36 e11 (cs := Hd.zero.cells) rfl (hd_load w7.new)) ?_
    intro u73 e73
    refine HL.stillG rfl rfl e72 Runs.buildZ ?_
    intro u74 e74
    refine HL.stillG rfl rfl e72 (Runs.eqStructSelf Tryd.underlying36 sih36 eg36 e73 e74 (by kernel_rfl)) ?_
    intro u75 e75
    refine HL.stillG rfl rfl e69 (Runs.pick e72 e75) ?_
    intro u76 e76
    refine HL.stillG rfl rfl e65 (Runs.pick e69 e76) ?_
    intro u77 e77
    refine HL.still (Runs.pick e65 e77) ?_
    intro u78 e78
    refine HL.still (Runs.assign e78) ?_
    intro u6 e6
    refine HL.nil ?_
    refine HW.ret ?_
    exact RT.one rfl e6 ⟨rfl, X7⟩
end Go.Proofs.YtfogkggkjmkdiaaDoor
