/- onionskinlaw02.small: the small case comes out right. -/
import Derived.Test.YtbfmkjfpialihaaDd
namespace Go.Proofs.Ytbfmkjfpialihaa
set_option linter.unnecessarySimpa false
set_option linter.unusedSimpArgs false
set_option linter.unusedVariables false
open Go.RowKit
def d0 : List UInt8 := 171 :: (List.replicate 30 0 ++ [9])
def s2 : List UInt8 := [115, 104, 97, 50, 53, 54, 58, 65, 66] ++ ((prD d0).take (prD d0).length).drop 9
theorem d0_len : d0.length = 32 := rfl
theorem pd0_len : (prD d0).length = 71 := by rw [prD_len]; rfl
theorem s2_no : (parseD s2).2 = false := by decide +kernel
theorem s2_len : s2.length = 71 := by decide +kernel
theorem pre_no : (parseD pre7).2 = false := by decide +kernel
theorem pd0_a : (((prD d0).take 9).drop 0 == [115, 104, 97, 50, 53, 54, 58, 97, 98]) = true := by decide +kernel
theorem pd0_b : (((prD d0).take (prD d0).length).drop 69 == [48, 57]) = true := by decide +kernel
theorem less_d0 : lessL zero32 d0 = true := by decide +kernel
set_option maxRecDepth 10000 in
theorem small2_ch (h : Heap) : CH Try.prog 20 #[] h fun v h' => v = .bool true ∧ Ext h h' := by
  refine CH.of_body Try.func20 rfl rfl rfl ?_
  intro f hf
  have hpl := pd0_len
  -- region 0
  repeat refine HW.seq ?_
  refine HW.region ?_
  refine HL.still (Runs.assign rfl) ?_
  intro u0 e0
  refine HL.nil ?_
  -- region 1
  repeat refine HW.seq ?_
  refine HW.region ?_
  refine HL.still (Runs.build (v := .agg (d0.map B8).toArray) (fun w => by kernel_rfl)) ?_
  intro u9 e9
  refine HL.one (HO.alloc zr25 ?_)
  intro h1 w1
  intro u1 e1
  refine HL.zero (HO.storeAll sz25 e1 e9 (one_map B8 (fun _ => rfl) _) w1.new rfl rfl ?_)
  intro h2 w2
  refine HL.nil ?_
  have z1 := w1.size
  have z2 := w2.size
  have X2 : Ext h h2 := w1.ext.wr w2 (Nat.le_refl _)
  have D2 := w2.new
  -- region 2
  repeat refine HW.seq ?_
  refine HW.region ?_
  refine HL.still (Runs.loadAgg Try.underlying25 rfl sz25 e1 (by rfl) (load_blk D2)) ?_
  intro u10 e10
  refine HL.one (HO.call Try.func23 bd23 nm23 (args1 e10) rfl ((print_ch h2 d0 rfl).mono ?_))
  rintro _ h3 ⟨rfl, E3⟩
  intro u11 e11
  refine HL.still (Runs.assign e11) ?_
  intro u2 e2
  refine HL.nil ?_
  have X3 : Ext h h3 := X2.ext E3 (Nat.le_refl _)
  have D3 := E3.keepE D2
  -- region 3
  repeat refine HW.seq ?_
  refine HW.region ?_
  refine HL.still (Runs.move e2) ?_
  intro u13 e13
  refine HL.one (HO.call Try.func21 bd21 nm21 (args1 e13) rfl ((parse_ch h3 (prD d0) (by omega)).mono ?_))
  rintro _ h4 ⟨rfl, E4⟩
  intro u14 e14
  refine HL.still (Runs.move e14) ?_
  intro u12 e12
  refine HL.still (Runs.extr e12 rfl) ?_
  intro u15 e15
  refine HL.still (Runs.extr e12 rfl) ?_
  intro u16 e16
  refine HL.one (HO.alloc zr25 ?_)
  intro h5 w5
  intro u3 e3
  refine HL.zero (HO.storeAll sz25 e3 e15 (one_map B8 (fun _ => rfl) _) w5.new (by rw [List.length_map, parse_len]) rfl ?_)
  intro h6 w6
  refine HL.still (Runs.assign e16) ?_
  intro u4 e4
  refine HL.nil ?_
  have z3 := E3.size
  have z4 := E4.size
  have z5 := w5.size
  have z6 := w6.size
  rw [parse_prD d0 rfl] at e4
  have P6 := w6.new
  rw [parse_prD d0 rfl] at P6
  have X6 : Ext h h6 := ((X3.ext E4 (Nat.le_refl _)).nw w5 (Nat.le_refl _)).wr w6 (by have := X3.size; omega)
  have D6 := w6.keep (w5.keep (E4.keepE D3)) (by have := X3.size; omega)
  -- region 4
  repeat refine HW.seq ?_
  refine HW.region ?_
  refine HL.still (Runs.move e2) ?_
  intro u18 e18
  refine HL.still (Runs.move e2) ?_
  intro u19 e19
  refine HL.still (Runs.lenS rfl Try.underlying9 e19) ?_
  intro u20 e20
  refine HL.still (Runs.minI rfl e20 (c := 9) (by rw [hpl]; rfl)) ?_
  intro u21 e21
  refine HL.still (Runs.sliceS Try.underlying9 e18 (lo := 9) (hi := (prD d0).length) ⟨_, e21⟩ rfl (by omega) (Nat.le_refl _)) ?_
  intro u22 e22
  refine HL.still (Runs.addS rfl e22 (xs := [115, 104, 97, 50, 53, 54, 58, 65, 66]) (hl := by simp; omega)) ?_
  intro u23 e23
  refine HL.one (HO.call Try.func21 bd21 nm21 (args1 e23) rfl ((parse_ch h6 s2 (by rw [s2_len]; decide)).mono ?_))
  rintro _ h7 ⟨rfl, E7⟩
  intro u24 e24
  refine HL.still (Runs.move e24) ?_
  intro u17 e17
  refine HL.still (Runs.extr e17 rfl) ?_
  intro u25 e25
  refine HL.still (Runs.extr e17 rfl) ?_
  intro u26 e26
  refine HL.one (HO.alloc zr25 ?_)
  intro h8 w8
  intro u5 e5
  refine HL.zero (HO.storeAll sz25 e5 e25 (one_map B8 (fun _ => rfl) _) w8.new (by rw [List.length_map, parse_len]) rfl ?_)
  intro h9 w9
  refine HL.still (Runs.assign e26) ?_
  intro u6 e6
  refine HL.nil ?_
  have z7 := E7.size
  have z8 := w8.size
  have z9 := w9.size
  rw [s2_no] at e6
  have hx1 := X3.size
  have X9 : Ext h h9 := ((X6.ext E7 (Nat.le_refl _)).nw w8 (Nat.le_refl _)).wr w9 (by omega)
  have D9 := w9.keep (w8.keep (E7.keepE D6)) (by omega)
  have P9 := w9.keep (w8.keep (E7.keepE P6)) (by omega)
  -- region 5
  repeat refine HW.seq ?_
  refine HW.region ?_
  refine HL.one (HO.call Try.func21 bd21 nm21 (args1 rfl) rfl ((parse_ch h9 pre7 (by decide)).mono ?_))
  rintro _ h10 ⟨rfl, E10⟩
  intro u28 e28
  refine HL.still (Runs.move e28) ?_
  intro u27 e27
  refine HL.still (Runs.extr e27 rfl) ?_
  intro u29 e29
  refine HL.still (Runs.extr e27 rfl) ?_
  intro u30 e30
  refine HL.one (HO.alloc zr25 ?_)
  intro h11 w11
  intro u7 e7
  refine HL.zero (HO.storeAll sz25 e7 e29 (one_map B8 (fun _ => rfl) _) w11.new (by rw [List.length_map, parse_len]) rfl ?_)
  intro h12 w12
  refine HL.still (Runs.assign e30) ?_
  intro u8 e8
  refine HL.nil ?_
  have z10 := E10.size
  have z11 := w11.size
  have z12 := w12.size
  rw [pre_no] at e8
  have X12 : Ext h h12 := ((X9.ext E10 (Nat.le_refl _)).nw w11 (Nat.le_refl _)).wr w12 (by omega)
  have D12 := w12.keep (w11.keep (E10.keepE D9)) (by omega)
  have P12 := w12.keep (w11.keep (E10.keepE P9)) (by omega)
  -- region 6
  repeat refine HW.seq ?_
  refine HW.region ?_
  refine HL.still (Runs.move e2) ?_
  intro u31 e31
  refine HL.still (Runs.lenS rfl Try.underlying9 e31) ?_
  intro u32 e32
  refine HL.still (Runs.eql e32 rfl (t := true) (by rw [hpl]; rfl)) ?_
  intro u33 e33
  refine HL.still (Runs.move e33) ?_
  intro u34 e34
  refine HL.stillG rfl rfl e34 (Runs.move e2) ?_
  intro u35 e35
  refine HL.stillG rfl rfl e34 (Runs.sliceS Try.underlying9 e35 (lo := 0) (hi := 9) rfl ⟨_, rfl⟩ (by decide) (by omega)) ?_
  intro u36 e36
  refine HL.stillG rfl rfl e34 (Runs.eqS e36 rfl (ys := [115, 104, 97, 50, 53, 54, 58, 97, 98]) (t := true) pd0_a) ?_
  intro u37 e37
  refine HL.still (Runs.pick e34 e37) ?_
  intro u38 e38
  refine HL.still (Runs.move e38) ?_
  intro u39 e39
  refine HL.stillG rfl rfl e39 (Runs.move e2) ?_
  intro u40 e40
  refine HL.stillG rfl rfl e39 (Runs.sliceS Try.underlying9 e40 (lo := 69) (hi := (prD d0).length) ⟨_, rfl⟩ rfl (by omega) (Nat.le_refl _)) ?_
  intro u41 e41
  refine HL.stillG rfl rfl e39 (Runs.eqS e41 rfl (ys := [48, 57]) (t := true) pd0_b) ?_
  intro u42 e42
  refine HL.still (Runs.pick e39 e42) ?_
  intro u43 e43
  refine HL.still (Runs.move e43) ?_
  intro u44 e44
  refine HL.stillG rfl rfl e44 (Runs.loadAgg Try.underlying25 rfl sz25 e3 (by rfl) (load_blk P12)) ?_
  intro u45 e45
  refine HL.stillG rfl rfl e44 (Runs.loadAgg Try.underlying25 rfl sz25 e1 (by rfl) (load_blk D12)) ?_
  intro u46 e46
  refine HL.stillG rfl rfl e44 (Runs.eqBytes Try.underlying25 Try.underlying5 sz5 eg25 e45 e46 (t := true) rfl rfl (beq_self_eq_true _)) ?_
  intro u47 e47
  refine HL.still (Runs.pick e44 e47) ?_
  intro u48 e48
  refine HL.still (Runs.move e48) ?_
  intro u49 e49
  refine HL.stillG rfl rfl e49 (Runs.move e4) ?_
  intro u50 e50
  refine HL.still (Runs.pick e49 e50) ?_
  intro u51 e51
  refine HL.still (Runs.move e51) ?_
  intro u52 e52
  refine HL.stillG rfl rfl e52 (Runs.move e6) ?_
  intro u53 e53
  refine HL.stillG rfl rfl e52 (Runs.notb e53 (t := false) (u := true) rfl) ?_
  intro u54 e54
  refine HL.still (Runs.pick e52 e54) ?_
  intro u55 e55
  refine HL.still (Runs.move e55) ?_
  intro u56 e56
  refine HL.stillG rfl rfl e56 (Runs.move e8) ?_
  intro u57 e57
  refine HL.stillG rfl rfl e56 (Runs.notb e57 (t := false) (u := true) rfl) ?_
  intro u58 e58
  refine HL.still (Runs.pick e56 e58) ?_
  intro u59 e59
  refine HL.still (Runs.move e59) ?_
  intro u60 e60
  refine HL.stillG rfl rfl e60 (Runs.build (v := .agg (zero32.map B8).toArray) (fun w => by kernel_rfl)) ?_
  intro u61 e61
  refine HL.stillG rfl rfl e60 (Runs.loadAgg Try.underlying25 rfl sz25 e1 (by rfl) (load_blk D12)) ?_
  intro u62 e62
  refine HL.oneG rfl rfl e60 (HO.call Try.func25 bd25 nm25 (args2 e61 e62) rfl ((less_ch h12 zero32 d0 rfl rfl).mono ?_))
  rintro _ h13 ⟨rfl, E13⟩
  intro u63 e63
  refine HL.still (Runs.pick e60 (e63.trans (by rw [less_d0]))) ?_
  intro u64 e64
  refine HL.still (Runs.move e64) ?_
  intro u65 e65
  refine HL.stillG rfl rfl e65 (Runs.loadAgg Try.underlying25 rfl sz25 e1 (by rfl) (load_blk (E13.keepE D12))) ?_
  intro u66 e66
  refine HL.stillG rfl rfl e65 (Runs.loadAgg Try.underlying25 rfl sz25 e1 (by rfl) (load_blk (E13.keepE D12))) ?_
  intro u67 e67
  refine HL.oneG rfl rfl e65 (HO.call Try.func25 bd25 nm25 (args2 e66 e67) rfl ((less_ch h13 d0 d0 rfl rfl).mono ?_))
  rintro _ h14 ⟨rfl, E14⟩
  intro u68 e68
  refine HL.stillG rfl rfl e65 (Runs.notb e68 (t := lessL d0 d0) (u := true) (by rw [less_irrefl]; rfl)) ?_
  intro u69 e69
  refine HL.still (Runs.pick e65 e69) ?_
  intro u70 e70
  refine HL.still (Runs.move e70) ?_
  intro u71 e71
  refine HL.oneG rfl rfl e71 (HO.call Try.func27 bd27 nm27 (args1 rfl) rfl ((of_ch h14 [] none 0 (.inl rfl) (Nat.le_refl _) (by decide)).mono ?_))
  rintro _ h15 ⟨rfl, E15⟩
  intro u72 e72
  refine HL.oneG rfl rfl e71 (HO.call Try.func14 bd14 nm14 (args1 rfl) rfl ((sum_ch h15 [] none 0 (.inl rfl) (Nat.le_refl _) (by decide)).mono ?_))
  rintro _ h16 ⟨rfl, E16⟩
  intro u73 e73
  refine HL.stillG rfl rfl e71 (Runs.eqBytes Try.underlying25 Try.underlying5 sz5 eg25 e72 e73 (t := true) (SHA_len _) (SHA_len _) (beq_self_eq_true _)) ?_
  intro u74 e74
  refine HL.still (Runs.pick e71 e74) ?_
  intro u75 e75
  refine HL.still (Runs.assign e75) ?_
  intro u0 e0
  refine HL.nil ?_
  refine HW.ret ?_
  exact RT.one rfl e0 ⟨rfl, (((X12.ext E13 (Nat.le_refl _)).ext E14 (Nat.le_refl _)).ext E15 (Nat.le_refl _)).ext E16 (Nat.le_refl _)⟩
end Go.Proofs.Ytbfmkjfpialihaa
