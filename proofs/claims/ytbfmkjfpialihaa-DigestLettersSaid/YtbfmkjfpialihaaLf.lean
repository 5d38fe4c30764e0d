/- onionskinlaw02: DigestOf, DigestTells, DigestBack, DigestOrder return true. -/
import Derived.Test.YtbfmkjfpialihaaDe
namespace Go.Proofs.Ytbfmkjfpialihaa
set_option linter.unnecessarySimpa false
set_option linter.unusedSimpArgs false
set_option linter.unusedVariables false
open Go.RowKit
set_option maxRecDepth 10000
theorem lawOf_ch (h : Heap) (xs : List UInt8) (a : Option Addr) (cap : Nat) (hsrc : Byt h a xs) (hcap : xs.length ≤ cap) :
    CH Try.prog 12 #[.slice a xs.length cap] h fun v h' => v = .bool true ∧ Ext h h' := by
  refine CH.of_body Try.func12 rfl rfl rfl ?_
  intro f hf
  have p0 : f 0 = .slice a xs.length cap := by rw [hf]; exact fr0_at rfl
  -- region 0
  repeat refine HW.seq ?_
  refine HW.region ?_
  refine HL.still (Runs.assign rfl) ?_
  intro u2 e2
  refine HL.nil ?_
  -- region 1
  repeat refine HW.seq ?_
  refine HW.region ?_
  refine HL.one (HO.call Try.func20 bd20 nm20 (args0) rfl ((small2_ch _).mono ?_))
  rintro _ h1 ⟨rfl, E1⟩
  intro u4 e4
  refine HL.still (Runs.assign e4) ?_
  intro u3 e3
  refine HL.nil ?_
  by_cases hbig : xs.length > 1000
  · skip
    -- region 2
    repeat refine HW.seq ?_
    refine HW.region ?_
    refine HL.still (Runs.move e3) ?_
    intro u5 e5
    refine HL.still (Runs.move e5) ?_
    intro u6 e6
    refine HL.stillG rfl rfl e6 (Runs.move p0) ?_
    intro u7 e7
    refine HL.stillG rfl rfl e6 (Runs.lenSl rfl Try.underlying22 e7) ?_
    intro u8 e8
    refine HL.stillG rfl rfl e6 (Runs.gtr e8 rfl (t := true) (decide_eq_true (by omega))) ?_
    intro u9 e9
    refine HL.stillG rfl rfl e6 (Runs.move e9) ?_
    intro u10 e10
    refine HL.skipG rfl rfl e10 ?_
    intro u11 e11
    refine HL.skipG rfl rfl e10 ?_
    intro u12 e12
    refine HL.skipG rfl rfl e10 ?_
    intro u13 e13
    refine HL.skipG rfl rfl e10 ?_
    intro u14 e14
    refine HL.skipG rfl rfl e10 ?_
    intro u15 e15
    refine HL.stillG rfl rfl e6 (Runs.pick e10 rfl) ?_
    intro u16 e16
    refine HL.still (Runs.pick e6 e16) ?_
    intro u17 e17
    refine HL.still (Runs.assign e17) ?_
    intro u2 e2
    refine HL.nil ?_
    refine HW.ret ?_
    exact RT.one rfl e2 ⟨rfl, E1⟩
  · skip
    -- region 2
    repeat refine HW.seq ?_
    refine HW.region ?_
    refine HL.still (Runs.move e3) ?_
    intro u5 e5
    refine HL.still (Runs.move e5) ?_
    intro u6 e6
    refine HL.stillG rfl rfl e6 (Runs.move p0) ?_
    intro u7 e7
    refine HL.stillG rfl rfl e6 (Runs.lenSl rfl Try.underlying22 e7) ?_
    intro u8 e8
    refine HL.stillG rfl rfl e6 (Runs.gtr e8 rfl (t := false) (decide_eq_false (by omega))) ?_
    intro u9 e9
    refine HL.stillG rfl rfl e6 (Runs.move e9) ?_
    intro u10 e10
    refine HL.stillG rfl rfl e10 (Runs.move p0) ?_
    intro u11 e11
    refine HL.oneG rfl rfl e10 (HO.call Try.func27 bd27 nm27 (args1 e11) rfl ((of_ch h1 xs a cap (hsrc.ext E1) hcap (by omega)).mono ?_))
    rintro _ h2 ⟨rfl, E2⟩
    intro u12 e12
    refine HL.stillG rfl rfl e10 (Runs.move p0) ?_
    intro u13 e13
    refine HL.oneG rfl rfl e10 (HO.call Try.func15 bd15 nm15 (args1 e13) rfl ((rsum_ch h2 xs a cap ((hsrc.ext E1).ext E2) (by omega)).mono ?_))
    rintro _ h3 ⟨rfl, E3⟩
    intro u14 e14
    refine HL.stillG rfl rfl e10 (Runs.eqBytes Try.underlying25 Try.underlying5 sz5 eg25 e12 e14 (t := true) (SHA_len _) (SHA_len _) (beq_self_eq_true _)) ?_
    intro u15 e15
    refine HL.stillG rfl rfl e6 (Runs.pick e10 e15) ?_
    intro u16 e16
    refine HL.still (Runs.pick e6 e16) ?_
    intro u17 e17
    refine HL.still (Runs.assign e17) ?_
    intro u2 e2
    refine HL.nil ?_
    refine HW.ret ?_
    exact RT.one rfl e2 ⟨rfl, (E1.ext E2 (Nat.le_refl _)).ext E3 (Nat.le_refl _)⟩
theorem lawTells_ch (h : Heap) (xs ys s : List UInt8) (hx' : xs.length = 32) (hy' : ys.length = 32) :
    CH Try.prog 8 #[.agg (xs.map B8).toArray, .agg (ys.map B8).toArray, .string (strOf s)] h fun v h' => v = .bool true ∧ Ext h h' := by
  refine CH.of_body Try.func8 rfl rfl rfl ?_
  intro f hf
  have p0 : f 0 = .agg (xs.map B8).toArray := by rw [hf]; exact fr0_at rfl
  have p1 : f 1 = .agg (ys.map B8).toArray := by rw [hf]; exact fr0_at rfl
  have p2 : f 2 = .string (strOf s) := by rw [hf]; exact fr0_at rfl
  -- region 0
  repeat refine HW.seq ?_
  refine HW.region ?_
  refine HL.one (HO.box p0 ?_)
  intro h1 w1
  intro u3 e3
  refine HL.one (HO.box p1 ?_)
  intro h2 w2
  intro u4 e4
  refine HL.still (Runs.assign rfl) ?_
  intro u6 e6
  refine HL.nil ?_
  have z1 := w1.size
  have z2 := w2.size
  have X2 : Ext h h2 := w1.ext.ext w2.ext (Nat.le_refl _)
  -- region 1
  repeat refine HW.seq ?_
  refine HW.region ?_
  refine HL.one (HO.call Try.func20 bd20 nm20 (args0) rfl ((small2_ch _).mono ?_))
  rintro _ h3 ⟨rfl, E3⟩
  intro u12 e12
  refine HL.still (Runs.assign e12) ?_
  intro u7 e7
  refine HL.nil ?_
  have z3 := E3.size
  have X3 := X2.ext E3 (Nat.le_refl _)
  by_cases hbig : s.length > 1000
  · skip
    -- region 2
    repeat refine HW.seq ?_
    refine HW.region ?_
    refine HL.still (Runs.move p2) ?_
    intro u13 e13
    refine HL.still (Runs.lenS rfl Try.underlying9 e13) ?_
    intro u14 e14
    refine HL.still (Runs.gtr e14 rfl (t := true) (decide_eq_true (by omega))) ?_
    intro u15 e15
    refine HL.nil ?_
    repeat refine HW.seq ?_
    refine HW.yes ?_ ?_
    exact e15
    -- region 3
    repeat refine HW.seq ?_
    refine HW.region ?_
    refine HL.still (Runs.move e7) ?_
    intro u16 e16
    refine HL.still (Runs.assign e16) ?_
    intro u6 e6
    refine HL.nil ?_
    refine HW.ret ?_
    exact RT.one rfl e6 ⟨rfl, X3⟩
  · skip
    -- region 2
    repeat refine HW.seq ?_
    refine HW.region ?_
    refine HL.still (Runs.move p2) ?_
    intro u13 e13
    refine HL.still (Runs.lenS rfl Try.underlying9 e13) ?_
    intro u14 e14
    refine HL.still (Runs.gtr e14 rfl (t := false) (decide_eq_false (by omega))) ?_
    intro u15 e15
    refine HL.nil ?_
    repeat refine HW.seq ?_
    refine HW.no ?_ ?_
    exact e15
    refine HW.skip ?_
    have A3 := E3.keepE (w2.keep w1.new)
    have B3 := E3.keepE w2.new
    -- region 4
    repeat refine HW.seq ?_
    refine HW.region ?_
    refine HL.still (Runs.move p2) ?_
    intro u18 e18
    refine HL.one (HO.call Try.func21 bd21 nm21 (args1 e18) rfl ((parse_ch h3 s (by omega)).mono ?_))
    rintro _ h4 ⟨rfl, E4⟩
    intro u19 e19
    refine HL.still (Runs.move e19) ?_
    intro u17 e17
    refine HL.still (Runs.extr e17 rfl) ?_
    intro u20 e20
    refine HL.still (Runs.extr e17 rfl) ?_
    intro u21 e21
    refine HL.one (HO.alloc zr25 ?_)
    intro h5 w5
    intro u8 e8
    refine HL.zero (HO.storeAll sz25 e8 e20 (one_map B8 (fun _ => rfl) _) w5.new (by rw [List.length_map, parse_len]) rfl ?_)
    intro h6 w6
    refine HL.still (Runs.assign e21) ?_
    intro u9 e9
    refine HL.nil ?_
    have z4 := E4.size
    have z5 := w5.size
    have z6 := w6.size
    have X6 : Ext h h6 := ((X3.ext E4 (Nat.le_refl _)).nw w5 (Nat.le_refl _)).wr w6 (by omega)
    have A6 := w6.keep (w5.keep (E4.keepE A3)) (by omega)
    have B6 := w6.keep (w5.keep (E4.keepE B3)) (by omega)
    -- region 5
    repeat refine HW.seq ?_
    refine HW.region ?_
    refine HL.still (Runs.move p2) ?_
    intro u23 e23
    refine HL.one (HO.call Try.func22 bd22 nm22 (args1 e23) rfl ((rparse_ch h6 s (by omega)).mono ?_))
    rintro _ h7 ⟨rfl, E7⟩
    intro u24 e24
    refine HL.still (Runs.move e24) ?_
    intro u22 e22
    refine HL.still (Runs.extr e22 rfl) ?_
    intro u25 e25
    refine HL.still (Runs.extr e22 rfl) ?_
    intro u26 e26
    refine HL.one (HO.alloc zr25 ?_)
    intro h8 w8
    intro u10 e10
    refine HL.zero (HO.storeAll sz25 e10 e25 (one_map B8 (fun _ => rfl) _) w8.new (by rw [List.length_map, parse_len]) rfl ?_)
    intro h9 w9
    refine HL.still (Runs.assign e26) ?_
    intro u11 e11
    refine HL.nil ?_
    have z7 := E7.size
    have z8 := w8.size
    have z9 := w9.size
    have X9 : Ext h h9 := ((X6.ext E7 (Nat.le_refl _)).nw w8 (Nat.le_refl _)).wr w9 (by omega)
    have A9 := w9.keep (w8.keep (E7.keepE A6)) (by omega)
    have B9 := w9.keep (w8.keep (E7.keepE B6)) (by omega)
    have C9 := w9.keep (w8.keep (E7.keepE w6.new)) (by omega)
    have D9 := w9.new
    -- region 6
    repeat refine HW.seq ?_
    refine HW.grow #[0, 1, 3, 7, 3, 31, 63, 127, 255, 511, 511, 2047, 4095, 8191, 16383, 16383, 65535, 131071, 262143, 524287, 524287, 2097151, 524287, 524287, 16777215, 33554431, 67108863, 134217727] (Mk h9.size) mixed (by kernel_rfl) (Mk.refl _) Mk.trans ?_
    refine HM.still (Mk.refl _) (fun f h K => Runs.move ((K.keep (by kernel_rfl)).trans e7)) ?_
    refine HM.still (Mk.refl _) (fun f h K => Runs.move (K.at 0 27 rfl rfl)) ?_
    refine HM.stillG (Mk.refl _) rfl rfl rfl (fun f h K => K.at 1 28 rfl rfl) (fun f h K => Runs.loadAgg Try.underlying25 rfl sz25 ((K.keep (by kernel_rfl)).trans e3) (by rw [List.length_map, hx']) (fun j v hj => K.grown.cell (load_blk A9 j v hj))) ?_
    refine HM.oneG (fun x _ => x = _) (fun _ _ _ _ e => e) rfl rfl rfl (fun f h K => K.at 1 28 rfl rfl) (fun f h K => HO.call Try.func23 bd23 nm23 (args1 (K.at 2 29 rfl rfl)) rfl ((print_ch h xs hx').mono fun _ _ q => ⟨Mk.of_ext q.2 K.grown.size, q.1⟩)) ?_
    refine HM.stillG (Mk.refl _) rfl rfl rfl (fun f h K => K.at 1 28 rfl rfl) (fun f h K => Runs.loadAgg Try.underlying25 rfl sz25 ((K.keep (by kernel_rfl)).trans e3) (by rw [List.length_map, hx']) (fun j v hj => K.grown.cell (load_blk A9 j v hj))) ?_
    refine HM.oneG (fun x _ => x = _) (fun _ _ _ _ e => e) rfl rfl rfl (fun f h K => K.at 1 28 rfl rfl) (fun f h K => HO.call Try.func24 bd24 nm24 (args1 (K.at 4 31 rfl rfl)) rfl ((rprint_ch h xs hx').mono fun _ _ q => ⟨Mk.of_ext q.2 K.grown.size, q.1⟩)) ?_
    refine HM.stillG (Mk.refl _) rfl rfl rfl (fun f h K => K.at 1 28 rfl rfl) (fun f h K => Runs.eqS (K.at 3 30 rfl rfl) (K.at 5 32 rfl rfl) (t := true) (beq_self_eq_true _)) ?_
    refine HM.still (Mk.refl _) (fun f h K => Runs.pick (K.at 1 28 rfl rfl) (K.at 6 33 rfl rfl)) ?_
    refine HM.still (Mk.refl _) (fun f h K => Runs.move (K.at 7 34 rfl rfl)) ?_
    refine HM.stillG (Mk.refl _) rfl rfl rfl (fun f h K => K.at 8 35 rfl rfl) (fun f h K => Runs.loadAgg Try.underlying25 rfl sz25 ((K.keep (by kernel_rfl)).trans e8) (by rw [List.length_map, parse_len]) (fun j v hj => K.grown.cell (load_blk C9 j v hj))) ?_
    refine HM.stillG (Mk.refl _) rfl rfl rfl (fun f h K => K.at 8 35 rfl rfl) (fun f h K => Runs.loadAgg Try.underlying25 rfl sz25 ((K.keep (by kernel_rfl)).trans e10) (by rw [List.length_map, parse_len]) (fun j v hj => K.grown.cell (load_blk D9 j v hj))) ?_
    refine HM.stillG (Mk.refl _) rfl rfl rfl (fun f h K => K.at 8 35 rfl rfl) (fun f h K => Runs.eqBytes Try.underlying25 Try.underlying5 sz5 eg25 (K.at 9 36 rfl rfl) (K.at 10 37 rfl rfl) (t := true) (parse_len _) (parse_len _) (beq_self_eq_true _)) ?_
    refine HM.still (Mk.refl _) (fun f h K => Runs.pick (K.at 8 35 rfl rfl) (K.at 11 38 rfl rfl)) ?_
    refine HM.still (Mk.refl _) (fun f h K => Runs.move (K.at 12 39 rfl rfl)) ?_
    refine HM.stillG (Mk.refl _) rfl rfl rfl (fun f h K => K.at 13 40 rfl rfl) (fun f h K => Runs.move ((K.keep (by kernel_rfl)).trans e9)) ?_
    refine HM.stillG (Mk.refl _) rfl rfl rfl (fun f h K => K.at 13 40 rfl rfl) (fun f h K => Runs.move ((K.keep (by kernel_rfl)).trans e11)) ?_
    refine HM.stillG (Mk.refl _) rfl rfl rfl (fun f h K => K.at 13 40 rfl rfl) (fun f h K => Runs.eqB Try.underlying4 (K.at 14 41 rfl rfl) (K.at 15 42 rfl rfl) (b := true) (beq_self_eq_true _)) ?_
    refine HM.still (Mk.refl _) (fun f h K => Runs.pick (K.at 13 40 rfl rfl) (K.at 16 43 rfl rfl)) ?_
    refine HM.still (Mk.refl _) (fun f h K => Runs.move (K.at 17 44 rfl rfl)) ?_
    refine HM.stillG (Mk.refl _) rfl rfl rfl (fun f h K => K.at 18 45 rfl rfl) (fun f h K => Runs.loadAgg Try.underlying25 rfl sz25 ((K.keep (by kernel_rfl)).trans e3) (by rw [List.length_map, hx']) (fun j v hj => K.grown.cell (load_blk A9 j v hj))) ?_
    refine HM.stillG (Mk.refl _) rfl rfl rfl (fun f h K => K.at 18 45 rfl rfl) (fun f h K => Runs.loadAgg Try.underlying25 rfl sz25 ((K.keep (by kernel_rfl)).trans e4) (by rw [List.length_map, hy']) (fun j v hj => K.grown.cell (load_blk B9 j v hj))) ?_
    refine HM.oneG (fun x _ => x = _) (fun _ _ _ _ e => e) rfl rfl rfl (fun f h K => K.at 18 45 rfl rfl) (fun f h K => HO.call Try.func25 bd25 nm25 (args2 (K.at 19 46 rfl rfl) (K.at 20 47 rfl rfl)) rfl ((less_ch h xs ys hx' hy').mono fun _ _ q => ⟨Mk.of_ext q.2 K.grown.size, q.1⟩)) ?_
    refine HM.stillG (Mk.refl _) rfl rfl rfl (fun f h K => K.at 18 45 rfl rfl) (fun f h K => Runs.loadAgg Try.underlying25 rfl sz25 ((K.keep (by kernel_rfl)).trans e3) (by rw [List.length_map, hx']) (fun j v hj => K.grown.cell (load_blk A9 j v hj))) ?_
    refine HM.stillG (Mk.refl _) rfl rfl rfl (fun f h K => K.at 18 45 rfl rfl) (fun f h K => Runs.loadAgg Try.underlying25 rfl sz25 ((K.keep (by kernel_rfl)).trans e4) (by rw [List.length_map, hy']) (fun j v hj => K.grown.cell (load_blk B9 j v hj))) ?_
    refine HM.oneG (fun x _ => x = _) (fun _ _ _ _ e => e) rfl rfl rfl (fun f h K => K.at 18 45 rfl rfl) (fun f h K => HO.call Try.func26 bd26 nm26 (args2 (K.at 22 49 rfl rfl) (K.at 23 50 rfl rfl)) rfl ((rless_ch h xs ys hx' hy').mono fun _ _ q => ⟨Mk.of_ext q.2 K.grown.size, q.1⟩)) ?_
    refine HM.stillG (Mk.refl _) rfl rfl rfl (fun f h K => K.at 18 45 rfl rfl) (fun f h K => Runs.eqB Try.underlying4 (K.at 21 48 rfl rfl) (K.at 24 51 rfl rfl) (b := true) (beq_self_eq_true _)) ?_
    refine HM.still (Mk.refl _) (fun f h K => Runs.pick (K.at 18 45 rfl rfl) (K.at 25 52 rfl rfl)) ?_
    refine HM.still (Mk.refl _) (fun f h K => Runs.assign (K.at 26 53 rfl rfl)) ?_
    intro f' h' hR V _
    refine HW.ret ?_
    exact RT.one rfl (last_at V 27 6 rfl) ⟨rfl, X9.trans (hR.bel.mono (by omega))⟩
theorem lawBack_ch (h : Heap) (xs s : List UInt8) (hx' : xs.length = 32) :
    CH Try.prog 9 #[.agg (xs.map B8).toArray, .string (strOf s)] h fun v h' => v = .bool true ∧ Ext h h' := by
  refine CH.of_body Try.func9 rfl rfl rfl ?_
  intro f hf
  have p0 : f 0 = .agg (xs.map B8).toArray := by rw [hf]; exact fr0_at rfl
  have p1 : f 1 = .string (strOf s) := by rw [hf]; exact fr0_at rfl
  -- region 0
  repeat refine HW.seq ?_
  refine HW.region ?_
  refine HL.one (HO.box p0 ?_)
  intro h1 w1
  intro u2 e2
  refine HL.still (Runs.assign rfl) ?_
  intro u4 e4
  refine HL.nil ?_
  have z1 := w1.size
  -- region 1
  repeat refine HW.seq ?_
  refine HW.region ?_
  refine HL.one (HO.call Try.func20 bd20 nm20 (args0) rfl ((small2_ch _).mono ?_))
  rintro _ h3 ⟨rfl, E3⟩
  intro u10 e10
  refine HL.still (Runs.assign e10) ?_
  intro u5 e5
  refine HL.nil ?_
  have z3 := E3.size
  have X3 := w1.ext.ext E3 (Nat.le_refl _)
  have A3 := E3.keepE w1.new
  by_cases hbig : s.length > 1000
  · skip
    -- region 2
    repeat refine HW.seq ?_
    refine HW.region ?_
    refine HL.still (Runs.move p1) ?_
    intro u11 e11
    refine HL.still (Runs.lenS rfl Try.underlying9 e11) ?_
    intro u12 e12
    refine HL.still (Runs.gtr e12 rfl (t := true) (decide_eq_true (by omega))) ?_
    intro u13 e13
    refine HL.nil ?_
    repeat refine HW.seq ?_
    refine HW.yes ?_ ?_
    exact e13
    -- region 3
    repeat refine HW.seq ?_
    refine HW.region ?_
    refine HL.still (Runs.move e5) ?_
    intro u14 e14
    refine HL.still (Runs.assign e14) ?_
    intro u4 e4
    refine HL.nil ?_
    refine HW.ret ?_
    exact RT.one rfl e4 ⟨rfl, X3⟩
  · skip
    -- region 2
    repeat refine HW.seq ?_
    refine HW.region ?_
    refine HL.still (Runs.move p1) ?_
    intro u11 e11
    refine HL.still (Runs.lenS rfl Try.underlying9 e11) ?_
    intro u12 e12
    refine HL.still (Runs.gtr e12 rfl (t := false) (decide_eq_false (by omega))) ?_
    intro u13 e13
    refine HL.nil ?_
    repeat refine HW.seq ?_
    refine HW.no ?_ ?_
    exact e13
    refine HW.skip ?_
    have hpl : (prD xs).length = 71 := by rw [prD_len, hx']
    -- region 4
    repeat refine HW.seq ?_
    refine HW.region ?_
    refine HL.still (Runs.loadAgg Try.underlying25 rfl sz25 e2 (by rw [List.length_map, hx']) (load_blk A3)) ?_
    intro u16 e16
    refine HL.one (HO.call Try.func23 bd23 nm23 (args1 e16) rfl ((print_ch h3 xs hx').mono ?_))
    rintro _ h4 ⟨rfl, E4⟩
    intro u17 e17
    refine HL.one (HO.call Try.func21 bd21 nm21 (args1 e17) rfl ((parse_ch h4 (prD xs) (by omega)).mono ?_))
    rintro _ h5 ⟨rfl, E5⟩
    intro u18 e18
    refine HL.still (Runs.move e18) ?_
    intro u15 e15
    refine HL.still (Runs.extr e15 rfl) ?_
    intro u19 e19
    refine HL.still (Runs.extr e15 rfl) ?_
    intro u20 e20
    refine HL.one (HO.alloc zr25 ?_)
    intro h6 w6
    intro u6 e6
    refine HL.zero (HO.storeAll sz25 e6 e19 (one_map B8 (fun _ => rfl) _) w6.new (by rw [List.length_map, parse_len]) rfl ?_)
    intro h7 w7
    refine HL.still (Runs.assign e20) ?_
    intro u7 e7
    refine HL.nil ?_
    have z4 := E4.size
    have z5 := E5.size
    have z6 := w6.size
    have z7 := w7.size
    have X7 : Ext h h7 := (((X3.ext E4 (Nat.le_refl _)).ext E5 (Nat.le_refl _)).nw w6 (Nat.le_refl _)).wr w7 (by omega)
    have A7 := w7.keep (w6.keep (E5.keepE (E4.keepE A3))) (by omega)
    have C7 := w7.new
    rw [parse_prD xs hx'] at e7 C7
    -- region 5
    repeat refine HW.seq ?_
    refine HW.region ?_
    refine HL.still (Runs.move p1) ?_
    intro u22 e22
    refine HL.one (HO.call Try.func21 bd21 nm21 (args1 e22) rfl ((parse_ch h7 s (by omega)).mono ?_))
    rintro _ h8 ⟨rfl, E8⟩
    intro u23 e23
    refine HL.still (Runs.move e23) ?_
    intro u21 e21
    refine HL.still (Runs.extr e21 rfl) ?_
    intro u24 e24
    refine HL.still (Runs.extr e21 rfl) ?_
    intro u25 e25
    refine HL.one (HO.alloc zr25 ?_)
    intro h9 w9
    intro u8 e8
    refine HL.zero (HO.storeAll sz25 e8 e24 (one_map B8 (fun _ => rfl) _) w9.new (by rw [List.length_map, parse_len]) rfl ?_)
    intro h10 w10
    refine HL.still (Runs.assign e25) ?_
    intro u9 e9
    refine HL.nil ?_
    have z8 := E8.size
    have z9 := w9.size
    have z10 := w10.size
    have X10 : Ext h h10 := ((X7.ext E8 (Nat.le_refl _)).nw w9 (Nat.le_refl _)).wr w10 (by omega)
    have A10 := w10.keep (w9.keep (E8.keepE A7)) (by omega)
    have C10 := w10.keep (w9.keep (E8.keepE C7)) (by omega)
    have D10 := w10.new
    cases hok : (parseD s).2 with
    | true =>
      rw [hok] at e9
      have hback := prD_parse s hok
      -- region 6
      repeat refine HW.seq ?_
      refine HW.region ?_
      refine HL.still (Runs.move e9) ?_
      intro u26 e26
      refine HL.still (Runs.move e26) ?_
      intro u27 e27
      refine HL.stillG rfl rfl e27 (Runs.loadAgg Try.underlying25 rfl sz25 e8 (by rw [List.length_map, parse_len]) (load_blk D10)) ?_
      intro u28 e28
      refine HL.oneG rfl rfl e27 (HO.call Try.func23 bd23 nm23 (args1 e28) rfl ((print_ch h10 (parseD s).1 (parse_len s)).mono ?_))
      rintro _ h11 ⟨rfl, E11⟩
      intro u29 e29
      refine HL.stillG rfl rfl e27 (Runs.move p1) ?_
      intro u30 e30
      refine HL.stillG rfl rfl e27 (Runs.neqS e29 e30 (t := false) (by rw [hback]; simp)) ?_
      intro u31 e31
      refine HL.still (Runs.pick e27 e31) ?_
      intro u32 e32
      refine HL.still (Runs.move e32) ?_
      intro u33 e33
      refine HL.stillG rfl rfl e33 (Runs.move e9) ?_
      intro u34 e34
      refine HL.stillG rfl rfl e33 (Runs.notb e34 (t := true) (u := false) rfl) ?_
      intro u35 e35
      refine HL.stillG rfl rfl e33 (Runs.move e35) ?_
      intro u36 e36
      refine HL.skipG rfl rfl e36 ?_
      intro u37 e37
      refine HL.skipG rfl rfl e36 ?_
      intro u38 e38
      refine HL.skipG rfl rfl e36 ?_
      intro u39 e39
      refine HL.stillG rfl rfl e33 (Runs.pick e36 rfl) ?_
      intro u40 e40
      refine HL.still (Runs.pick e33 e40) ?_
      intro u41 e41
      refine HL.nil ?_
      repeat refine HW.seq ?_
      refine HW.no ?_ ?_
      exact e41
      refine HW.skip ?_
      -- region 8
      repeat refine HW.seq ?_
      refine HW.region ?_
      refine HL.still (Runs.move e5) ?_
      intro u42 e42
      refine HL.still (Runs.move e42) ?_
      intro u43 e43
      refine HL.stillG rfl rfl e43 (Runs.move e7) ?_
      intro u44 e44
      refine HL.still (Runs.pick e43 e44) ?_
      intro u45 e45
      refine HL.still (Runs.move e45) ?_
      intro u46 e46
      refine HL.stillG rfl rfl e46 (Runs.loadAgg Try.underlying25 rfl sz25 e6 (by rw [List.length_map]; exact hx') (load_blk (E11.keepE C10))) ?_
      intro u47 e47
      refine HL.stillG rfl rfl e46 (Runs.loadAgg Try.underlying25 rfl sz25 e2 (by rw [List.length_map]; exact hx') (load_blk (E11.keepE A10))) ?_
      intro u48 e48
      refine HL.stillG rfl rfl e46 (Runs.eqBytes Try.underlying25 Try.underlying5 sz5 eg25 e47 e48 (t := true) hx' hx' (beq_self_eq_true _)) ?_
      intro u49 e49
      refine HL.still (Runs.pick e46 e49) ?_
      intro u50 e50
      refine HL.still (Runs.assign e50) ?_
      intro u4 e4
      refine HL.nil ?_
      refine HW.ret ?_
      exact RT.one rfl e4 ⟨rfl, X10.ext E11 (Nat.le_refl _)⟩
    | false =>
      rw [hok] at e9
      rw [parse_no s hok] at D10
      -- region 6
      repeat refine HW.seq ?_
      refine HW.region ?_
      refine HL.still (Runs.move e9) ?_
      intro u26 e26
      refine HL.still (Runs.move e26) ?_
      intro u27 e27
      refine HL.skipG rfl rfl e27 ?_
      intro u28 e28
      refine HL.skipG rfl rfl e27 ?_
      intro u29 e29
      refine HL.skipG rfl rfl e27 ?_
      intro u30 e30
      refine HL.skipG rfl rfl e27 ?_
      intro u31 e31
      refine HL.still (Runs.pick e27 rfl) ?_
      intro u32 e32
      refine HL.still (Runs.move e32) ?_
      intro u33 e33
      refine HL.stillG rfl rfl e33 (Runs.move e9) ?_
      intro u34 e34
      refine HL.stillG rfl rfl e33 (Runs.notb e34 (t := false) (u := true) rfl) ?_
      intro u35 e35
      refine HL.stillG rfl rfl e33 (Runs.move e35) ?_
      intro u36 e36
      refine HL.stillG rfl rfl e36 (Runs.loadAgg Try.underlying25 rfl sz25 e8 (by rfl) (load_blk D10)) ?_
      intro u37 e37
      refine HL.stillG rfl rfl e36 (Runs.build (v := .agg (zero32.map B8).toArray) (fun w => by kernel_rfl)) ?_
      intro u38 e38
      refine HL.stillG rfl rfl e36 (Runs.neqBytes Try.underlying25 Try.underlying5 sz5 eg25 e37 e38 (t := false) rfl rfl (by simp)) ?_
      intro u39 e39
      refine HL.stillG rfl rfl e33 (Runs.pick e36 e39) ?_
      intro u40 e40
      refine HL.still (Runs.pick e33 e40) ?_
      intro u41 e41
      refine HL.nil ?_
      repeat refine HW.seq ?_
      refine HW.no ?_ ?_
      exact e41
      refine HW.skip ?_
      -- region 8
      repeat refine HW.seq ?_
      refine HW.region ?_
      refine HL.still (Runs.move e5) ?_
      intro u42 e42
      refine HL.still (Runs.move e42) ?_
      intro u43 e43
      refine HL.stillG rfl rfl e43 (Runs.move e7) ?_
      intro u44 e44
      refine HL.still (Runs.pick e43 e44) ?_
      intro u45 e45
      refine HL.still (Runs.move e45) ?_
      intro u46 e46
      refine HL.stillG rfl rfl e46 (Runs.loadAgg Try.underlying25 rfl sz25 e6 (by rw [List.length_map]; exact hx') (load_blk C10)) ?_
      intro u47 e47
      refine HL.stillG rfl rfl e46 (Runs.loadAgg Try.underlying25 rfl sz25 e2 (by rw [List.length_map]; exact hx') (load_blk A10)) ?_
      intro u48 e48
      refine HL.stillG rfl rfl e46 (Runs.eqBytes Try.underlying25 Try.underlying5 sz5 eg25 e47 e48 (t := true) hx' hx' (beq_self_eq_true _)) ?_
      intro u49 e49
      refine HL.still (Runs.pick e46 e49) ?_
      intro u50 e50
      refine HL.still (Runs.assign e50) ?_
      intro u4 e4
      refine HL.nil ?_
      refine HW.ret ?_
      exact RT.one rfl e4 ⟨rfl, X10⟩
theorem lawOrder_ch (h : Heap) (xs ys zs : List UInt8) (hx' : xs.length = 32) (hy' : ys.length = 32) (hz' : zs.length = 32) :
    CH Try.prog 10 #[.agg (xs.map B8).toArray, .agg (ys.map B8).toArray, .agg (zs.map B8).toArray] h fun v h' => v = .bool true ∧ Ext h h' := by
  refine CH.of_body Try.func10 rfl rfl rfl ?_
  intro f hf
  have p0 : f 0 = .agg (xs.map B8).toArray := by rw [hf]; exact fr0_at rfl
  have p1 : f 1 = .agg (ys.map B8).toArray := by rw [hf]; exact fr0_at rfl
  have p2 : f 2 = .agg (zs.map B8).toArray := by rw [hf]; exact fr0_at rfl
  -- region 0
  repeat refine HW.seq ?_
  refine HW.region ?_
  refine HL.one (HO.box p0 ?_)
  intro h1 w1
  intro u3 e3
  refine HL.one (HO.box p1 ?_)
  intro h2 w2
  intro u4 e4
  refine HL.one (HO.box p2 ?_)
  intro h3 w3
  intro u5 e5
  refine HL.still (Runs.assign rfl) ?_
  intro u6 e6
  refine HL.nil ?_
  have z1 := w1.size
  have z2 := w2.size
  have z3 := w3.size
  have X3 : Ext h h3 := (w1.ext.ext w2.ext (Nat.le_refl _)).ext w3.ext (Nat.le_refl _)
  -- region 1
  repeat refine HW.seq ?_
  refine HW.region ?_
  refine HL.one (HO.call Try.func20 bd20 nm20 (args0) rfl ((small2_ch _).mono ?_))
  rintro _ h4 ⟨rfl, E4⟩
  intro u11 e11
  refine HL.still (Runs.assign e11) ?_
  intro u7 e7
  refine HL.nil ?_
  have A4 := E4.keepE (w3.keep (w2.keep w1.new))
  have B4 := E4.keepE (w3.keep w2.new)
  have C4 := E4.keepE w3.new
  -- region 2
  repeat refine HW.seq ?_
  refine HW.region ?_
  refine HL.still (Runs.loadAgg Try.underlying25 rfl sz25 e3 (by rw [List.length_map]; exact hx') (load_blk A4)) ?_
  intro u12 e12
  refine HL.still (Runs.loadAgg Try.underlying25 rfl sz25 e4 (by rw [List.length_map]; exact hy') (load_blk B4)) ?_
  intro u13 e13
  refine HL.one (HO.call Try.func25 bd25 nm25 (args2 e12 e13) rfl ((less_ch h4 xs ys hx' hy').mono ?_))
  rintro _ h5 ⟨rfl, E5⟩
  intro u14 e14
  refine HL.still (Runs.assign e14) ?_
  intro u8 e8
  refine HL.nil ?_
  have A5 := E5.keepE A4
  have B5 := E5.keepE B4
  have C5 := E5.keepE C4
  -- region 3
  repeat refine HW.seq ?_
  refine HW.region ?_
  refine HL.still (Runs.loadAgg Try.underlying25 rfl sz25 e4 (by rw [List.length_map]; exact hy') (load_blk B5)) ?_
  intro u15 e15
  refine HL.still (Runs.loadAgg Try.underlying25 rfl sz25 e3 (by rw [List.length_map]; exact hx') (load_blk A5)) ?_
  intro u16 e16
  refine HL.one (HO.call Try.func25 bd25 nm25 (args2 e15 e16) rfl ((less_ch h5 ys xs hy' hx').mono ?_))
  rintro _ h6 ⟨rfl, E6⟩
  intro u17 e17
  refine HL.still (Runs.assign e17) ?_
  intro u9 e9
  refine HL.nil ?_
  have A6 := E6.keepE A5
  have B6 := E6.keepE B5
  have C6 := E6.keepE C5
  -- region 4
  repeat refine HW.seq ?_
  refine HW.region ?_
  refine HL.still (Runs.loadAgg Try.underlying25 rfl sz25 e4 (by rw [List.length_map]; exact hy') (load_blk B6)) ?_
  intro u18 e18
  refine HL.still (Runs.loadAgg Try.underlying25 rfl sz25 e5 (by rw [List.length_map]; exact hz') (load_blk C6)) ?_
  intro u19 e19
  refine HL.one (HO.call Try.func25 bd25 nm25 (args2 e18 e19) rfl ((less_ch h6 ys zs hy' hz').mono ?_))
  rintro _ h7 ⟨rfl, E7⟩
  intro u20 e20
  refine HL.still (Runs.assign e20) ?_
  intro u10 e10
  refine HL.nil ?_
  have A7 := E7.keepE A6
  have B7 := E7.keepE B6
  have C7 := E7.keepE C6
  have X7 : Ext h h7 := (((X3.ext E4 (Nat.le_refl _)).ext E5 (Nat.le_refl _)).ext E6 (Nat.le_refl _)).ext E7 (Nat.le_refl _)
  have htot := less_total xs ys (by omega)
  cases hp : lessL xs ys with
  | true =>
    have hq := less_asymm xs ys hp
    rw [hp] at e8
    rw [hq] at e9
    rw [hp, hq] at htot
    cases hr : lessL ys zs with
    | true =>
      have hac := less_trans xs ys zs hp hr
      rw [hr] at e10
      -- region 5
      repeat refine HW.seq ?_
      refine HW.region ?_
      refine HL.still (Runs.move e7) ?_
      intro u21 e21
      refine HL.still (Runs.move e21) ?_
      intro u22 e22
      refine HL.stillG rfl rfl e22 (Runs.move e8) ?_
      intro u23 e23
      refine HL.stillG rfl rfl e22 (Runs.move e23) ?_
      intro u24 e24
      refine HL.stillG rfl rfl e24 (Runs.move e9) ?_
      intro u25 e25
      refine HL.stillG rfl rfl e22 (Runs.pick e24 e25) ?_
      intro u26 e26
      refine HL.stillG rfl rfl e22 (Runs.notb e26 (t := false) (u := true) rfl) ?_
      intro u27 e27
      refine HL.still (Runs.pick e22 e27) ?_
      intro u28 e28
      refine HL.still (Runs.move e28) ?_
      intro u29 e29
      refine HL.stillG rfl rfl e29 (Runs.move e8) ?_
      intro u30 e30
      refine HL.stillG rfl rfl e29 (Runs.move e30) ?_
      intro u31 e31
      refine HL.skipG rfl rfl e31 ?_
      intro u32 e32
      refine HL.stillG rfl rfl e29 (Runs.pick e31 rfl) ?_
      intro u33 e33
      refine HL.stillG rfl rfl e29 (Runs.loadAgg Try.underlying25 rfl sz25 e3 (by rw [List.length_map]; exact hx') (load_blk A7)) ?_
      intro u34 e34
      refine HL.stillG rfl rfl e29 (Runs.loadAgg Try.underlying25 rfl sz25 e4 (by rw [List.length_map]; exact hy') (load_blk B7)) ?_
      intro u35 e35
      refine HL.stillG rfl rfl e29 (Runs.neqBytes Try.underlying25 Try.underlying5 sz5 eg25 e34 e35 (t := !(xs == ys)) hx' hy' rfl) ?_
      intro u36 e36
      refine HL.stillG rfl rfl e29 (Runs.eqB Try.underlying4 e33 e36 (b := true) (by rw [← htot]; rfl)) ?_
      intro u37 e37
      refine HL.still (Runs.pick e29 e37) ?_
      intro u38 e38
      refine HL.still (Runs.move e38) ?_
      intro u39 e39
      refine HL.stillG rfl rfl e39 (Runs.move e8) ?_
      intro u40 e40
      refine HL.stillG rfl rfl e39 (Runs.notb e40 (t := true) (u := false) rfl) ?_
      intro u41 e41
      refine HL.stillG rfl rfl e39 (Runs.move e41) ?_
      intro u42 e42
      refine HL.stillG rfl rfl e42 (Runs.move e10) ?_
      intro u43 e43
      refine HL.stillG rfl rfl e42 (Runs.notb e43 (t := true) (u := false) rfl) ?_
      intro u44 e44
      refine HL.stillG rfl rfl e39 (Runs.pick e42 e44) ?_
      intro u45 e45
      refine HL.stillG rfl rfl e39 (Runs.move e45) ?_
      intro u46 e46
      refine HL.stillG rfl rfl e46 (Runs.loadAgg Try.underlying25 rfl sz25 e3 (by rw [List.length_map]; exact hx') (load_blk A7)) ?_
      intro u47 e47
      refine HL.stillG rfl rfl e46 (Runs.loadAgg Try.underlying25 rfl sz25 e5 (by rw [List.length_map]; exact hz') (load_blk C7)) ?_
      intro u48 e48
      refine HL.oneG rfl rfl e46 (HO.call Try.func25 bd25 nm25 (args2 e47 e48) rfl ((((less_ch h7 xs zs hx' hz').mono fun v h' q => (⟨by rw [q.1, hac], q.2⟩ : v = .bool true ∧ Ext h7 h'))).mono ?_))
      rintro _ h8 ⟨rfl, E8⟩
      intro u49 e49
      refine HL.stillG rfl rfl e39 (Runs.pick e46 e49) ?_
      intro u50 e50
      refine HL.still (Runs.pick e39 e50) ?_
      intro u51 e51
      refine HL.still (Runs.move e51) ?_
      intro u52 e52
      refine HL.stillG rfl rfl e52 (Runs.loadAgg Try.underlying25 rfl sz25 e3 (by rw [List.length_map]; exact hx') (load_blk (E8.keepE A7))) ?_
      intro u53 e53
      refine HL.stillG rfl rfl e52 (Runs.loadAgg Try.underlying25 rfl sz25 e3 (by rw [List.length_map]; exact hx') (load_blk (E8.keepE A7))) ?_
      intro u54 e54
      refine HL.oneG rfl rfl e52 (HO.call Try.func25 bd25 nm25 (args2 e53 e54) rfl ((less_ch h8 xs xs hx' hx').mono ?_))
      rintro _ h9 ⟨rfl, E9⟩
      intro u55 e55
      refine HL.stillG rfl rfl e52 (Runs.notb e55 (t := lessL xs xs) (u := true) (by rw [less_irrefl]; rfl)) ?_
      intro u56 e56
      refine HL.still (Runs.pick e52 e56) ?_
      intro u57 e57
      refine HL.still (Runs.assign e57) ?_
      intro u6 e6
      refine HL.nil ?_
      refine HW.ret ?_
      exact RT.one rfl e6 ⟨rfl, (X7.ext E8 (Nat.le_refl _)).ext E9 (Nat.le_refl _)⟩
    | false =>
      rw [hr] at e10
      -- region 5
      repeat refine HW.seq ?_
      refine HW.region ?_
      refine HL.still (Runs.move e7) ?_
      intro u21 e21
      refine HL.still (Runs.move e21) ?_
      intro u22 e22
      refine HL.stillG rfl rfl e22 (Runs.move e8) ?_
      intro u23 e23
      refine HL.stillG rfl rfl e22 (Runs.move e23) ?_
      intro u24 e24
      refine HL.stillG rfl rfl e24 (Runs.move e9) ?_
      intro u25 e25
      refine HL.stillG rfl rfl e22 (Runs.pick e24 e25) ?_
      intro u26 e26
      refine HL.stillG rfl rfl e22 (Runs.notb e26 (t := false) (u := true) rfl) ?_
      intro u27 e27
      refine HL.still (Runs.pick e22 e27) ?_
      intro u28 e28
      refine HL.still (Runs.move e28) ?_
      intro u29 e29
      refine HL.stillG rfl rfl e29 (Runs.move e8) ?_
      intro u30 e30
      refine HL.stillG rfl rfl e29 (Runs.move e30) ?_
      intro u31 e31
      refine HL.skipG rfl rfl e31 ?_
      intro u32 e32
      refine HL.stillG rfl rfl e29 (Runs.pick e31 rfl) ?_
      intro u33 e33
      refine HL.stillG rfl rfl e29 (Runs.loadAgg Try.underlying25 rfl sz25 e3 (by rw [List.length_map]; exact hx') (load_blk A7)) ?_
      intro u34 e34
      refine HL.stillG rfl rfl e29 (Runs.loadAgg Try.underlying25 rfl sz25 e4 (by rw [List.length_map]; exact hy') (load_blk B7)) ?_
      intro u35 e35
      refine HL.stillG rfl rfl e29 (Runs.neqBytes Try.underlying25 Try.underlying5 sz5 eg25 e34 e35 (t := !(xs == ys)) hx' hy' rfl) ?_
      intro u36 e36
      refine HL.stillG rfl rfl e29 (Runs.eqB Try.underlying4 e33 e36 (b := true) (by rw [← htot]; rfl)) ?_
      intro u37 e37
      refine HL.still (Runs.pick e29 e37) ?_
      intro u38 e38
      refine HL.still (Runs.move e38) ?_
      intro u39 e39
      refine HL.stillG rfl rfl e39 (Runs.move e8) ?_
      intro u40 e40
      refine HL.stillG rfl rfl e39 (Runs.notb e40 (t := true) (u := false) rfl) ?_
      intro u41 e41
      refine HL.stillG rfl rfl e39 (Runs.move e41) ?_
      intro u42 e42
      refine HL.stillG rfl rfl e42 (Runs.move e10) ?_
      intro u43 e43
      refine HL.stillG rfl rfl e42 (Runs.notb e43 (t := false) (u := true) rfl) ?_
      intro u44 e44
      refine HL.stillG rfl rfl e39 (Runs.pick e42 e44) ?_
      intro u45 e45
      refine HL.stillG rfl rfl e39 (Runs.move e45) ?_
      intro u46 e46
      refine HL.skipG rfl rfl e46 ?_
      intro u47 e47
      refine HL.skipG rfl rfl e46 ?_
      intro u48 e48
      refine HL.skipG rfl rfl e46 ?_
      intro u49 e49
      refine HL.stillG rfl rfl e39 (Runs.pick e46 rfl) ?_
      intro u50 e50
      refine HL.still (Runs.pick e39 e50) ?_
      intro u51 e51
      refine HL.still (Runs.move e51) ?_
      intro u52 e52
      refine HL.stillG rfl rfl e52 (Runs.loadAgg Try.underlying25 rfl sz25 e3 (by rw [List.length_map]; exact hx') (load_blk A7)) ?_
      intro u53 e53
      refine HL.stillG rfl rfl e52 (Runs.loadAgg Try.underlying25 rfl sz25 e3 (by rw [List.length_map]; exact hx') (load_blk A7)) ?_
      intro u54 e54
      refine HL.oneG rfl rfl e52 (HO.call Try.func25 bd25 nm25 (args2 e53 e54) rfl ((less_ch h7 xs xs hx' hx').mono ?_))
      rintro _ h9 ⟨rfl, E9⟩
      intro u55 e55
      refine HL.stillG rfl rfl e52 (Runs.notb e55 (t := lessL xs xs) (u := true) (by rw [less_irrefl]; rfl)) ?_
      intro u56 e56
      refine HL.still (Runs.pick e52 e56) ?_
      intro u57 e57
      refine HL.still (Runs.assign e57) ?_
      intro u6 e6
      refine HL.nil ?_
      refine HW.ret ?_
      exact RT.one rfl e6 ⟨rfl, X7.ext E9 (Nat.le_refl _)⟩
  | false =>
    rw [hp] at e8
    rw [hp, Bool.false_or] at htot
    -- region 5
    repeat refine HW.seq ?_
    refine HW.region ?_
    refine HL.still (Runs.move e7) ?_
    intro u21 e21
    refine HL.still (Runs.move e21) ?_
    intro u22 e22
    refine HL.stillG rfl rfl e22 (Runs.move e8) ?_
    intro u23 e23
    refine HL.stillG rfl rfl e22 (Runs.move e23) ?_
    intro u24 e24
    refine HL.skipG rfl rfl e24 ?_
    intro u25 e25
    refine HL.stillG rfl rfl e22 (Runs.pick e24 rfl) ?_
    intro u26 e26
    refine HL.stillG rfl rfl e22 (Runs.notb e26 (t := false) (u := true) rfl) ?_
    intro u27 e27
    refine HL.still (Runs.pick e22 e27) ?_
    intro u28 e28
    refine HL.still (Runs.move e28) ?_
    intro u29 e29
    refine HL.stillG rfl rfl e29 (Runs.move e8) ?_
    intro u30 e30
    refine HL.stillG rfl rfl e29 (Runs.move e30) ?_
    intro u31 e31
    refine HL.stillG rfl rfl e31 (Runs.move e9) ?_
    intro u32 e32
    refine HL.stillG rfl rfl e29 (Runs.pick e31 e32) ?_
    intro u33 e33
    refine HL.stillG rfl rfl e29 (Runs.loadAgg Try.underlying25 rfl sz25 e3 (by rw [List.length_map]; exact hx') (load_blk A7)) ?_
    intro u34 e34
    refine HL.stillG rfl rfl e29 (Runs.loadAgg Try.underlying25 rfl sz25 e4 (by rw [List.length_map]; exact hy') (load_blk B7)) ?_
    intro u35 e35
    refine HL.stillG rfl rfl e29 (Runs.neqBytes Try.underlying25 Try.underlying5 sz5 eg25 e34 e35 (t := !(xs == ys)) hx' hy' rfl) ?_
    intro u36 e36
    refine HL.stillG rfl rfl e29 (Runs.eqB Try.underlying4 e33 e36 (b := true) (by rw [← htot]; exact beq_self_eq_true _)) ?_
    intro u37 e37
    refine HL.still (Runs.pick e29 e37) ?_
    intro u38 e38
    refine HL.still (Runs.move e38) ?_
    intro u39 e39
    refine HL.stillG rfl rfl e39 (Runs.move e8) ?_
    intro u40 e40
    refine HL.stillG rfl rfl e39 (Runs.notb e40 (t := false) (u := true) rfl) ?_
    intro u41 e41
    refine HL.stillG rfl rfl e39 (Runs.move e41) ?_
    intro u42 e42
    refine HL.skipG rfl rfl e42 ?_
    intro u43 e43
    refine HL.skipG rfl rfl e42 ?_
    intro u44 e44
    refine HL.stillG rfl rfl e39 (Runs.pick e42 rfl) ?_
    intro u45 e45
    refine HL.stillG rfl rfl e39 (Runs.move e45) ?_
    intro u46 e46
    refine HL.skipG rfl rfl e46 ?_
    intro u47 e47
    refine HL.skipG rfl rfl e46 ?_
    intro u48 e48
    refine HL.skipG rfl rfl e46 ?_
    intro u49 e49
    refine HL.stillG rfl rfl e39 (Runs.pick e46 rfl) ?_
    intro u50 e50
    refine HL.still (Runs.pick e39 e50) ?_
    intro u51 e51
    refine HL.still (Runs.move e51) ?_
    intro u52 e52
    refine HL.stillG rfl rfl e52 (Runs.loadAgg Try.underlying25 rfl sz25 e3 (by rw [List.length_map]; exact hx') (load_blk A7)) ?_
    intro u53 e53
    refine HL.stillG rfl rfl e52 (Runs.loadAgg Try.underlying25 rfl sz25 e3 (by rw [List.length_map]; exact hx') (load_blk A7)) ?_
    intro u54 e54
    refine HL.oneG rfl rfl e52 (HO.call Try.func25 bd25 nm25 (args2 e53 e54) rfl ((less_ch h7 xs xs hx' hx').mono ?_))
    rintro _ h9 ⟨rfl, E9⟩
    intro u55 e55
    refine HL.stillG rfl rfl e52 (Runs.notb e55 (t := lessL xs xs) (u := true) (by rw [less_irrefl]; rfl)) ?_
    intro u56 e56
    refine HL.still (Runs.pick e52 e56) ?_
    intro u57 e57
    refine HL.still (Runs.assign e57) ?_
    intro u6 e6
    refine HL.nil ?_
    refine HW.ret ?_
    exact RT.one rfl e6 ⟨rfl, X7.ext E9 (Nat.le_refl _)⟩
end Go.Proofs.Ytbfmkjfpialihaa
