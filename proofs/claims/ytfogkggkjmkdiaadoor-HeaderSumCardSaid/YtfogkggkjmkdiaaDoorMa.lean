/- onionskinlaw06.HeaderParses, HeaderPrints return true. -/
import Derived.Test.YtfogkggkjmkdiaaDoorMz
namespace Go.Proofs.YtfogkggkjmkdiaaDoor
set_option linter.unnecessarySimpa false
set_option linter.unusedSimpArgs false
set_option linter.unusedVariables false
open Go.RowKit
theorem rparse_n (h : Heap) (xs : List UInt8) (n : Nat) (a : Option Addr) (cap : Nat) (hn : n = xs.length) (hsrc : Byt h a xs) (hcap : xs.length ≤ cap) (hlen : xs.length < 4611686018427387904) :
    CH Tryd.prog 22 #[.slice a n cap] h fun v h' => v = .tuple #[.agg (parseO xs).1.cells.toArray, I64 (parseO xs).2] ∧ Ext h h' := by
  subst hn
  exact rparse_ch h xs a cap hsrc hcap hlen
theorem sealO_len (xs : List UInt8) : (sealO xs).length = 512 := by
  have h1 : (over zeros 0 (xs.take 512)).length = 512 := by rw [over_len _ _ _ (by rw [List.length_take, zeros_len]; omega), zeros_len]
  have h2 := sum7_len _ h1
  unfold sealO
  rw [over_len _ _ _ (by omega), h1]
set_option maxRecDepth 10000 in
theorem lawParses_ch (h : Heap) (xs : List UInt8) (a : Option Addr) (cap : Nat) (hP : Plc h) (hsrc : Byt h a xs) (hcap : xs.length ≤ cap) :
    CH Tryd.prog 8 #[.slice a xs.length cap] h fun v h' => v = .bool true ∧ Ext h h' := by
  refine CH.of_body Tryd.func8 rfl rfl rfl ?_
  intro f hf
  have p0 : f 0 = .slice a xs.length cap := by rw [hf]; exact fr0_at rfl
  -- region 0
  repeat refine HW.seq ?_
  refine HW.region ?_
  refine HL.still (Runs.assign rfl) ?_
  intro u2 e2
  refine HL.nil ?_
  -- region 1
  repeat refine HW.seq ?_
  refine HW.region ?_
  refine HL.one (HO.call Tryd.func20 bd20 nm20 (args0) rfl ((small6_ch h hP).mono ?_))
  rintro _ h1 ⟨rfl, E1⟩
  intro u13 e13
  refine HL.still (Runs.assign e13) ?_
  intro u3 e3
  refine HL.nil ?_
  by_cases hbig : xs.length > 600
  · skip
    -- region 2
    repeat refine HW.seq ?_
    refine HW.region ?_
    refine HL.still (Runs.move p0) ?_
    intro u14 e14
    refine HL.still (Runs.lenSl rfl Tryd.underlying22 e14) ?_
    intro u15 e15
    refine HL.still (Runs.gtr e15 rfl (t := true) (decide_eq_true (by omega))) ?_
    intro u16 e16
    refine HL.nil ?_
    repeat refine HW.seq ?_
    refine HW.yes ?_ ?_
    exact e16
    -- region 3
    repeat refine HW.seq ?_
    refine HW.region ?_
    refine HL.still (Runs.move e3) ?_
    intro u17 e17
    refine HL.still (Runs.assign e17) ?_
    intro u2 e2
    refine HL.nil ?_
    refine HW.ret ?_
    exact RT.one rfl e2 ⟨rfl, E1⟩
  -- region 2
  repeat refine HW.seq ?_
  refine HW.region ?_
  refine HL.still (Runs.move p0) ?_
  intro u14 e14
  refine HL.still (Runs.lenSl rfl Tryd.underlying22 e14) ?_
  intro u15 e15
  refine HL.still (Runs.gtr e15 rfl (t := false) (decide_eq_false (by omega))) ?_
  intro u16 e16
  refine HL.nil ?_
  repeat refine HW.seq ?_
  refine HW.no ?_ ?_
  exact e16
  refine HW.skip ?_
  -- region 4
  repeat refine HW.seq ?_
  refine HW.region ?_
  refine HL.still (Runs.move p0) ?_
  intro u19 e19
  refine HL.one (HO.call Tryd.func21 bd21 nm21 (args1 e19) rfl ((parse_ch h1 xs a cap (hP.ext E1) (hsrc.ext E1) hcap (by omega)).mono ?_))
  rintro _ h2 ⟨rfl, E2⟩
  intro u20 e20
  refine HL.still (Runs.move e20) ?_
  intro u18 e18
  refine HL.still (Runs.extr e18 rfl) ?_
  intro u21 e21
  refine HL.still (Runs.extr e18 rfl) ?_
  intro u22 e22
  refine HL.one (HO.alloc zr36 ?_)
  intro h3 w3
  intro u4 e4
  refine HL.zero (HO.storeAll sz36 e4 e21 (one_cells _) w3.new rfl rfl ?_)
  intro h4 w4
  refine HL.still (Runs.assign e22) ?_
  intro u5 e5
  refine HL.nil ?_
  have X4 : Ext h h4 := (E1.ext E2 (Nat.le_refl _)).ext (w3.ext.wr w4 (Nat.le_refl _)) (Nat.le_refl _)
  -- region 5
  repeat refine HW.seq ?_
  refine HW.region ?_
  refine HL.still (Runs.move p0) ?_
  intro u24 e24
  refine HL.one (HO.call Tryd.func22 bd22 nm22 (args1 e24) rfl ((rparse_ch h4 xs a cap (hsrc.ext X4) hcap (by omega)).mono ?_))
  rintro _ h5 ⟨rfl, E5⟩
  intro u25 e25
  refine HL.still (Runs.move e25) ?_
  intro u23 e23
  refine HL.still (Runs.extr e23 rfl) ?_
  intro u26 e26
  refine HL.still (Runs.extr e23 rfl) ?_
  intro u27 e27
  refine HL.one (HO.alloc zr36 ?_)
  intro h6 w6
  intro u6 e6
  refine HL.zero (HO.storeAll sz36 e6 e26 (one_cells _) w6.new rfl rfl ?_)
  intro h7 w7
  refine HL.still (Runs.assign e27) ?_
  intro u7 e7
  refine HL.nil ?_
  have E47 : Ext h4 h7 := E5.ext (w6.ext.wr w7 (Nat.le_refl _)) (Nat.le_refl _)
  have X7 : Ext h h7 := X4.ext E47 (Nat.le_refl _)
  -- region 6
  repeat refine HW.seq ?_
  refine HW.region ?_
  refine HL.still (Runs.move p0) ?_
  intro u28 e28
  refine HL.one (HO.call Tryd.func23 bd23 nm23 (args1 e28) rfl ((sealed_ch h7 xs a cap (hsrc.ext X7) hcap (by omega)).mono ?_))
  rintro _ h8 ⟨rfl, hb8, E8⟩
  intro u29 e29
  refine HL.still (Runs.assign e29) ?_
  intro u8 e8
  refine HL.nil ?_
  have X8 : Ext h h8 := X7.ext E8 (Nat.le_refl _)
  have hsl := sealO_len xs
  -- region 7
  repeat refine HW.seq ?_
  refine HW.region ?_
  refine HL.still (Runs.move e8) ?_
  intro u31 e31
  refine HL.one (HO.call Tryd.func21 bd21 nm21 (args1 e31) rfl ((parse_n h8 (sealO xs) _ _ _ rfl hsl.symm (hP.ext X8) (byt_block hb8) (by omega) (by omega)).mono ?_))
  rintro _ h9 ⟨rfl, E9⟩
  intro u32 e32
  refine HL.still (Runs.move e32) ?_
  intro u30 e30
  refine HL.still (Runs.extr e30 rfl) ?_
  intro u33 e33
  refine HL.still (Runs.extr e30 rfl) ?_
  intro u34 e34
  refine HL.one (HO.alloc zr36 ?_)
  intro h10 w10
  intro u9 e9
  refine HL.zero (HO.storeAll sz36 e9 e33 (one_cells _) w10.new rfl rfl ?_)
  intro h11 w11
  refine HL.still (Runs.assign e34) ?_
  intro u10 e10
  refine HL.nil ?_
  have E811 : Ext h8 h11 := E9.ext (w10.ext.wr w11 (Nat.le_refl _)) (Nat.le_refl _)
  have hb11 := E811.keepE hb8
  -- region 8
  repeat refine HW.seq ?_
  refine HW.region ?_
  refine HL.still (Runs.move e8) ?_
  intro u36 e36
  refine HL.one (HO.call Tryd.func22 bd22 nm22 (args1 e36) rfl ((rparse_n h11 (sealO xs) _ _ _ hsl.symm (byt_block hb11) (by omega) (by omega)).mono ?_))
  rintro _ h12 ⟨rfl, E12⟩
  intro u37 e37
  refine HL.still (Runs.move e37) ?_
  intro u35 e35
  refine HL.still (Runs.extr e35 rfl) ?_
  intro u38 e38
  refine HL.still (Runs.extr e35 rfl) ?_
  intro u39 e39
  refine HL.one (HO.alloc zr36 ?_)
  intro h13 w13
  intro u11 e11
  refine HL.zero (HO.storeAll sz36 e11 e38 (one_cells _) w13.new rfl rfl ?_)
  intro h14 w14
  refine HL.still (Runs.assign e39) ?_
  intro u12 e12
  refine HL.nil ?_
  have E1114 : Ext h11 h14 := E12.ext (w13.ext.wr w14 (Nat.le_refl _)) (Nat.le_refl _)
  have E714 : Ext h7 h14 := (E8.ext E811 (Nat.le_refl _)).ext E1114 (Nat.le_refl _)
  have X14 : Ext h h14 := X7.ext E714 (Nat.le_refl _)
  -- region 9
  repeat refine HW.seq ?_
  refine HW.region ?_
  refine HL.still (Runs.move e3) ?_
  intro u40 e40
  refine HL.still (Runs.move e40) ?_
  intro u41 e41
  refine HL.stillG rfl rfl e41 (Runs.loadAgg Tryd.underlying36 rfl sz36 e4 (cs := (parseO xs).1.cells) rfl (hd_load (E714.keepE (E47.keepE w4.new)))) ?_
  intro u42 e42
  refine HL.stillG rfl rfl e41 (Runs.loadAgg Tryd.underlying36 rfl sz36 e6 (cs := (parseO xs).1.cells) rfl (hd_load (E714.keepE w7.new))) ?_
  intro u43 e43
  refine HL.stillG rfl rfl e41 (Runs.eqStructSelf Tryd.underlying36 sih36 eg36 e42 e43 (by kernel_rfl)) ?_
  intro u44 e44
  refine HL.still (Runs.pick e41 e44) ?_
  intro u45 e45
  refine HL.still (Runs.move e45) ?_
  intro u46 e46
  refine HL.stillG rfl rfl e46 (Runs.move e5) ?_
  intro u47 e47
  refine HL.stillG rfl rfl e46 (Runs.move e7) ?_
  intro u48 e48
  refine HL.stillG rfl rfl e46 (Runs.eql e47 e48 (t := true) (beq_self_eq_true _)) ?_
  intro u49 e49
  refine HL.still (Runs.pick e46 e49) ?_
  intro u50 e50
  refine HL.still (Runs.move e50) ?_
  intro u51 e51
  refine HL.stillG rfl rfl e51 (Runs.loadAgg Tryd.underlying36 rfl sz36 e9 (cs := (parseO (sealO xs)).1.cells) rfl (hd_load (E1114.keepE w11.new))) ?_
  intro u52 e52
  refine HL.stillG rfl rfl e51 (Runs.loadAgg Tryd.underlying36 rfl sz36 e11 (cs := (parseO (sealO xs)).1.cells) rfl (hd_load w14.new)) ?_
  intro u53 e53
  refine HL.stillG rfl rfl e51 (Runs.eqStructSelf Tryd.underlying36 sih36 eg36 e52 e53 (by kernel_rfl)) ?_
  intro u54 e54
  refine HL.still (Runs.pick e51 e54) ?_
  intro u55 e55
  refine HL.still (Runs.move e55) ?_
  intro u56 e56
  refine HL.stillG rfl rfl e56 (Runs.move e10) ?_
  intro u57 e57
  refine HL.stillG rfl rfl e56 (Runs.move e12) ?_
  intro u58 e58
  refine HL.stillG rfl rfl e56 (Runs.eql e57 e58 (t := true) (beq_self_eq_true _)) ?_
  intro u59 e59
  refine HL.still (Runs.pick e56 e59) ?_
  intro u60 e60
  refine HL.still (Runs.move e60) ?_
  intro u61 e61
  refine HL.stillG rfl rfl e61 (Runs.move p0) ?_
  intro u62 e62
  refine HL.oneG rfl rfl e61 (HO.call Tryd.func24 bd24 nm24 (args1 e62) rfl ((empty_ch h14 xs a cap (hsrc.ext X14) (by omega)).mono ?_))
  rintro _ h15 ⟨rfl, hh15⟩
  intro u63 e63
  refine HL.stillG rfl rfl e61 (Runs.move p0) ?_
  intro u64 e64
  refine HL.oneG rfl rfl e61 (HO.call Tryd.func25 bd25 nm25 (args1 e64) rfl ((rempty_ch h15 xs a cap (by rw [hh15]; exact hsrc.ext X14) (by omega)).mono ?_))
  rintro _ h16 ⟨rfl, hh16⟩
  intro u65 e65
  refine HL.stillG rfl rfl e61 (Runs.eqB Tryd.underlying4 e63 e65 (b := true) (beq_self_eq_true _)) ?_
  intro u66 e66
  refine HL.still (Runs.pick e61 e66) ?_
  intro u67 e67
  refine HL.still (Runs.assign e67) ?_
  intro u2 e2
  refine HL.nil ?_
  refine HW.ret ?_
  exact RT.one rfl e2 ⟨rfl, by rw [hh16, hh15]; exact X14⟩
theorem printB_ch (h : Heap) (x : Hd) (hP : Plc h) (hn : x.name.length ≤ maxLen) (hk : x.link.length ≤ maxLen) : CH Tryd.prog 26 #[.agg x.cells.toArray] h fun v h' => ∃ a c, v = .tuple #[.slice a (printO x).1.length c, .bool (printO x).2] ∧ Byt h' a (printO x).1 ∧ (printO x).1.length ≤ c ∧ Ext h h' :=
  (print_ch h x hP hn hk).mono fun v h' q => by
    rcases q with ⟨q1, q2, q3⟩ | ⟨q1, b, q2, q3, q4, q5⟩
    · rw [printO_no q1]; exact ⟨none, 0, q2, .inl rfl, Nat.le_refl _, q3⟩
    · rw [printO_yes q1]
      have := blk_len q1
      exact ⟨_, 512, by show _ = Value.tuple #[.slice _ (blk x).length _, _]; rw [this]; exact q3, byt_block q4, by show (blk x).length ≤ 512; omega, q5⟩
set_option maxRecDepth 10000 in
theorem lawPrints_ch (h : Heap) (x : Hd) (hP : Plc h) (hn : x.name.length ≤ maxLen) (hk : x.link.length ≤ maxLen) :
    CH Tryd.prog 9 #[.agg x.cells.toArray] h fun v h' => v = .bool true ∧ Ext h h' := by
  have hn' := hn
  have hk' := hk
  refine CH.of_body Tryd.func9 rfl rfl rfl ?_
  intro f hf
  have p0 : f 0 = .agg x.cells.toArray := by rw [hf]; exact fr0_at rfl
  -- region 0
  repeat refine HW.seq ?_
  refine HW.region ?_
  refine HL.one (HO.box p0 ?_)
  intro h1 w1
  intro u1 e1
  refine HL.still (Runs.assign rfl) ?_
  intro u2 e2
  refine HL.nil ?_
  have X1 : Ext h h1 := w1.ext
  -- region 1
  repeat refine HW.seq ?_
  refine HW.region ?_
  refine HL.one (HO.call Tryd.func20 bd20 nm20 (args0) rfl ((small6_ch h1 (hP.ext X1)).mono ?_))
  rintro _ h2 ⟨rfl, E2⟩
  intro u8 e8
  refine HL.still (Runs.assign e8) ?_
  intro u3 e3
  refine HL.nil ?_
  have hA2 := E2.keepE w1.new
  have X2 : Ext h h2 := X1.ext E2 (Nat.le_refl _)
  -- region 2
  repeat refine HW.seq ?_
  refine HW.region ?_
  refine HL.still (Runs.fld (o' := 0) Tryd.underlying36 rfl sz9 (by decide) e1 (by rfl)) ?_
  intro u9 e9
  refine HL.still (Runs.load Tryd.underlying9 rfl e9 ((cellH_of hA2 0).trans (show _ = some (Value.string (strOf x.name)) from rfl))) ?_
  intro u10 e10
  refine HL.still (Runs.lenS rfl Tryd.underlying9 e10) ?_
  intro u11 e11
  refine HL.still (Runs.gtr e11 rfl rfl) ?_
  intro u12 e12
  refine HL.still (Runs.move e12) ?_
  intro u13 e13
  refine HL.anyG rfl rfl e13 (fun hg => Runs.fld (o' := 7) Tryd.underlying36 rfl sz9 (by decide) e1 (by rfl)) ?_
  intro u14 e14
  refine HL.anyG rfl rfl e13 (fun hg => Runs.load Tryd.underlying9 rfl (e14.trans (if_pos hg)) ((cellH_of hA2 7).trans (show _ = some (Value.string (strOf x.link)) from rfl))) ?_
  intro u15 e15
  refine HL.anyG rfl rfl e13 (fun hg => Runs.lenS rfl Tryd.underlying9 (e15.trans (if_pos hg))) ?_
  intro u16 e16
  refine HL.anyG rfl rfl e13 (fun hg => Runs.gtr (e16.trans (if_pos hg)) rfl rfl) ?_
  intro u17 e17
  refine HL.still (Runs.pick e13 (or_pick e17)) ?_
  intro u18 e18
  refine HL.nil ?_
  by_cases hc : (decide ((x.name.length : Int) > 500) || decide ((x.link.length : Int) > 500)) = true
  · repeat refine HW.seq ?_
    refine HW.yes (e18.trans (congrArg Value.bool hc)) ?_
    -- region 3
    repeat refine HW.seq ?_
    refine HW.region ?_
    refine HL.still (Runs.move e3) ?_
    intro u19 e19
    refine HL.still (Runs.assign e19) ?_
    intro u2 e2
    refine HL.nil ?_
    refine HW.ret ?_
    exact RT.one rfl e2 ⟨rfl, X2⟩
  repeat refine HW.seq ?_
  refine HW.no (e18.trans (congrArg Value.bool (Bool.eq_false_iff.2 hc))) ?_
  refine HW.skip ?_
  -- region 4
  repeat refine HW.seq ?_
  refine HW.region ?_
  refine HL.still (Runs.loadAgg Tryd.underlying36 rfl sz36 e1 (cs := x.cells) rfl (hd_load hA2)) ?_
  intro u21 e21
  refine HL.one (HO.call Tryd.func26 bd26 nm26 (args1 e21) rfl ((printB_ch h2 x (hP.ext X2) hn' hk').mono ?_))
  rintro _ h3 ⟨a3, c3, rfl, b3, k3, E3⟩
  intro u22 e22
  refine HL.still (Runs.move e22) ?_
  intro u20 e20
  refine HL.still (Runs.extr e20 rfl) ?_
  intro u23 e23
  refine HL.still (Runs.extr e20 rfl) ?_
  intro u24 e24
  refine HL.still (Runs.assign e23) ?_
  intro u4 e4
  refine HL.still (Runs.assign e24) ?_
  intro u5 e5
  refine HL.nil ?_
  have X3 : Ext h h3 := X2.ext E3 (Nat.le_refl _)
  -- region 5
  repeat refine HW.seq ?_
  refine HW.region ?_
  refine HL.still (Runs.loadAgg Tryd.underlying36 rfl sz36 e1 (cs := x.cells) rfl (hd_load (E3.keepE hA2))) ?_
  intro u26 e26
  refine HL.one (HO.call Tryd.func27 bd27 nm27 (args1 e26) rfl ((rprint_ch h3 x hn' hk').mono ?_))
  rintro _ h4 ⟨a4, c4, rfl, b4, k4, E4⟩
  intro u27 e27
  refine HL.still (Runs.move e27) ?_
  intro u25 e25
  refine HL.still (Runs.extr e25 rfl) ?_
  intro u28 e28
  refine HL.still (Runs.extr e25 rfl) ?_
  intro u29 e29
  refine HL.still (Runs.assign e28) ?_
  intro u6 e6
  refine HL.still (Runs.assign e29) ?_
  intro u7 e7
  refine HL.nil ?_
  -- region 6
  repeat refine HW.seq ?_
  refine HW.region ?_
  refine HL.still (Runs.move e3) ?_
  intro u30 e30
  refine HL.still (Runs.move e30) ?_
  intro u31 e31
  refine HL.stillG rfl rfl e31 (Runs.move e4) ?_
  intro u32 e32
  refine HL.stillG rfl rfl e31 (Runs.toStrB Tryd.underlying22 Tryd.underlying5 Tryd.underlying9 e32 rfl (b3.ext E4)) ?_
  intro u33 e33
  refine HL.stillG rfl rfl e31 (Runs.move e6) ?_
  intro u34 e34
  refine HL.stillG rfl rfl e31 (Runs.toStrB Tryd.underlying22 Tryd.underlying5 Tryd.underlying9 e34 rfl b4) ?_
  intro u35 e35
  refine HL.stillG rfl rfl e31 (Runs.eqS e33 e35 (t := true) (beq_self_eq_true _)) ?_
  intro u36 e36
  refine HL.still (Runs.pick e31 e36) ?_
  intro u37 e37
  refine HL.still (Runs.move e37) ?_
  intro u38 e38
  refine HL.stillG rfl rfl e38 (Runs.move e5) ?_
  intro u39 e39
  refine HL.stillG rfl rfl e38 (Runs.move e7) ?_
  intro u40 e40
  refine HL.stillG rfl rfl e38 (Runs.eqB Tryd.underlying4 e39 e40 (b := true) (beq_self_eq_true _)) ?_
  intro u41 e41
  refine HL.still (Runs.pick e38 e41) ?_
  intro u42 e42
  refine HL.still (Runs.assign e42) ?_
  intro u2 e2
  refine HL.nil ?_
  refine HW.ret ?_
  exact RT.one rfl e2 ⟨rfl, X3.ext E4 (Nat.le_refl _)⟩
end Go.Proofs.YtfogkggkjmkdiaaDoor
