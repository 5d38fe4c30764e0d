/- onionskinlaw06.small: the small case comes out right. -/
import Derived.Test.YtfogkggkjmkdiaaDoorHf
namespace Go.Proofs.YtfogkggkjmkdiaaDoor
set_option linter.unnecessarySimpa false
set_option linter.unusedSimpArgs false
set_option linter.unusedVariables false
open Go.RowKit
theorem sih36 : Tryd.prog.stoodInHeld 36 = false := by kernel_rfl
theorem eg36 : Tryd.prog.eqGuardType Tryd.prog.depth 36 = false := by kernel_rfl
/-- The cells of a header that lies in a block. -/
theorem hd_load {h : Heap} {b : Nat} {l : List Value} {t : TypeId} {fr : Nat × Nat} (hb : h[b]? = some (.cells l.toArray t fr)) : ∀ j v, l[j]? = some v → cellH h b (0 + j) = some v := fun j v hj => by
  rw [Nat.zero_add]
  exact cell_list hb hj
theorem print_yes (h : Heap) (x : Hd) (hP : Plc h) (hn : x.name.length ≤ maxLen) (hk : x.link.length ≤ maxLen) (hok : okO x = true) :
    CH Tryd.prog 26 #[.agg x.cells.toArray] h fun v h' => ∃ b, h.size ≤ b ∧ v = .tuple #[.slice (some ⟨b, 0, none⟩) 512 512, .bool true] ∧ h'[b]? = some (.cells ((blk x).map B8).toArray 5 (0, 0)) ∧ Ext h h' :=
  (print_ch h x hP hn hk).mono fun v h' q => by
    rcases q with ⟨q, _⟩ | ⟨_, q⟩
    · rw [hok] at q; cases q
    · exact q
theorem print_no (h : Heap) (x : Hd) (hP : Plc h) (hn : x.name.length ≤ maxLen) (hk : x.link.length ≤ maxLen) (hok : okO x = false) :
    CH Tryd.prog 26 #[.agg x.cells.toArray] h fun v h' => v = .tuple #[.slice none 0 0, .bool false] ∧ Ext h h' :=
  (print_ch h x hP hn hk).mono fun v h' q => by
    rcases q with ⟨_, q⟩ | ⟨q, _⟩
    · exact q
    · rw [hok] at q; cases q
theorem parse_n (h : Heap) (xs : List UInt8) (n : Nat) (a : Option Addr) (cap : Nat) {x : Hd} {e : Int} (hr : parseO xs = (x, e)) (hn : n = xs.length) (hP : Plc h) (hsrc : Byt h a xs) (hcap : xs.length ≤ cap) (hlen : xs.length < 4611686018427387904) :
    CH Tryd.prog 21 #[.slice a n cap] h fun v h' => v = .tuple #[.agg x.cells.toArray, I64 e] ∧ Ext h h' := by
  subst hn
  have := parse_ch h xs a cap hP hsrc hcap hlen
  rwa [hr] at this
theorem empty_n (h : Heap) (xs : List UInt8) (n : Nat) (a : Option Addr) (cap : Nat) {t : Bool} (hr : emptyO xs = t) (hn : n = xs.length) (hsrc : Byt h a xs) (hlen : xs.length < 4611686018427387904) : CH Tryd.prog 24 #[.slice a n cap] h fun v h' => v = .bool t ∧ h' = h := by
  subst hn
  rw [← hr]
  exact empty_ch h xs a cap hsrc hlen
def hd0 : Hd := ⟨[97, 47, 98], 420, 0, 0, 1099511627776, 0, 48, [99], 0, 7⟩
def hd1 : Hd := ⟨[97, 0], 0, 0, 0, 0, 0, 0, [], 0, 0⟩
theorem hd0_ok : okO hd0 = true := by decide +kernel
theorem hd1_no : okO hd1 = false := by decide +kernel
theorem blk_len {x : Hd} (h : okO x = true) : (blk x).length = 512 := (parts_blk (okO_spec h)).len
theorem zeros_sum : sumsO zeros = false := by decide +kernel
theorem zeros_parse : parseO zeros = (Hd.zero, 5) := by
  unfold parseO
  rw [if_neg (fun q => q zeros_len), zeros_sum, if_pos rfl]
theorem zeros_empty : emptyO zeros = true := by decide +kernel
theorem nil_empty : emptyO [] = false := rfl
theorem short_parse {xs : List UInt8} (h : xs.length ≠ 512) : parseO xs = (Hd.zero, 4) := by
  unfold parseO
  rw [if_pos h]
theorem hd0_first : (blk hd0).getD 0 0 = 97 := by decide +kernel
theorem hd0_other : parseO ((blk hd0).set 0 122) = (Hd.zero, 5) := parse_other (blk_len hd0_ok) (by decide) (by decide) (sums_blk (okO_spec hd0_ok)) (by rw [hd0_first]; decide)
theorem set_full (xs : List UInt8) (h : xs.length = 512) (c : UInt8) (hc : isZ c = false) : emptyO (xs.set 0 c) = false := by
  unfold emptyO
  cases xs with
  | nil => cases h
  | cons y ys => rw [List.set_cons_zero, List.all_cons, hc, Bool.false_and, Bool.and_false]
set_option maxRecDepth 10000 in
theorem small6_ch (h : Heap) (hP : Plc h) : CH Tryd.prog 20 #[] h fun v h' => v = .bool true ∧ Ext h h' := by
  refine CH.of_body Tryd.func20 rfl rfl rfl ?_
  intro f hf
  -- region 0
  repeat refine HW.seq ?_
  refine HW.region ?_
  refine HL.still (Runs.assign rfl) ?_
  intro u0 e0
  refine HL.nil ?_
  -- region 1
  repeat refine HW.seq ?_
  refine HW.region ?_
  refine HL.still (Runs.build (v := .agg hd0.cells.toArray) (fun w => by kernel_rfl)) ?_
  intro u14 e14
  refine HL.one (HO.alloc zr36 ?_)
  intro h1 w1
  intro u1 e1
  refine HL.zero (HO.storeAll sz36 e1 e14 (one_cells _) w1.new rfl rfl ?_)
  intro h2 w2
  refine HL.nil ?_
  have z1 := w1.size
  have X2 : Ext h h2 := w1.ext.wr w2 (Nat.le_refl _)
  have hb := blk_len hd0_ok
  -- region 2
  repeat refine HW.seq ?_
  refine HW.region ?_
  refine HL.still (Runs.loadAgg Tryd.underlying36 rfl sz36 e1 (cs := hd0.cells) rfl (hd_load w2.new)) ?_
  intro u16 e16
  refine HL.one (HO.call Tryd.func26 bd26 nm26 (args1 e16) rfl ((print_yes h2 hd0 (hP.ext X2) (by decide) (by decide) hd0_ok).mono ?_))
  rintro _ h3 ⟨b, hbl, rfl, hbb, E3⟩
  intro u17 e17
  refine HL.still (Runs.move e17) ?_
  intro u15 e15
  refine HL.still (Runs.extr e15 rfl) ?_
  intro u18 e18
  refine HL.still (Runs.extr e15 rfl) ?_
  intro u19 e19
  refine HL.still (Runs.assign e18) ?_
  intro u2 e2
  refine HL.still (Runs.assign e19) ?_
  intro u3 e3
  refine HL.nil ?_
  have X3 : Ext h h3 := X2.ext E3 (Nat.le_refl _)
  have g2 : u2 = .slice (some ⟨b, 0, none⟩) 512 512 := e2
  have g3 : u3 = .bool true := e3
  have z2 := w2.size
  have hbs := lt_of_some hbb
  have hA3 := E3.keepE w2.new
  -- region 3
  repeat refine HW.seq ?_
  refine HW.region ?_
  refine HL.still (Runs.move g3) ?_
  intro u20 e20
  refine HL.still (Runs.notb e20 (u := false) rfl) ?_
  intro u21 e21
  refine HL.still (Runs.move e21) ?_
  intro u22 e22
  refine HL.stillG rfl rfl e22 (Runs.move g2) ?_
  intro u23 e23
  refine HL.stillG rfl rfl e22 (Runs.lenSl rfl Tryd.underlying22 e23) ?_
  intro u24 e24
  refine HL.stillG rfl rfl e22 (Runs.neq e24 rfl (t := false) rfl) ?_
  intro u25 e25
  refine HL.still (Runs.pick e22 e25) ?_
  intro u26 e26
  refine HL.nil ?_
  repeat refine HW.seq ?_
  refine HW.no ?_ ?_
  exact e26
  refine HW.skip ?_
  -- region 5
  repeat refine HW.seq ?_
  refine HW.region ?_
  refine HL.still (Runs.move g2) ?_
  intro u28 e28
  refine HL.one (HO.call Tryd.func21 bd21 nm21 (args1 e28) rfl ((parse_n h3 (blk hd0) _ _ _ (parse_back (okO_spec hd0_ok)) hb.symm (hP.ext X3) (byt_block hbb) (by omega) (by omega)).mono ?_))
  rintro _ h4 ⟨rfl, E4⟩
  intro u29 e29
  refine HL.still (Runs.move e29) ?_
  intro u27 e27
  refine HL.still (Runs.extr e27 rfl) ?_
  intro u30 e30
  refine HL.still (Runs.extr e27 rfl) ?_
  intro u31 e31
  refine HL.one (HO.alloc zr36 ?_)
  intro h5 w5
  intro u4 e4
  refine HL.zero (HO.storeAll sz36 e4 e30 (one_cells _) w5.new rfl rfl ?_)
  intro h6 w6
  refine HL.still (Runs.assign e31) ?_
  intro u5 e5
  refine HL.nil ?_
  have z5 := w5.size
  have E36 : Ext h3 h6 := (E4.nw w5 (Nat.le_refl _)).wr w6 E4.size
  have X6 : Ext h h6 := X3.ext E36 (Nat.le_refl _)
  have hbb6 := E36.keepE hbb
  have l5 := seg_len (blk hd0) 0 511 (by omega)
  -- region 6
  repeat refine HW.seq ?_
  refine HW.region ?_
  refine HL.still (Runs.move g2) ?_
  intro u33 e33
  refine HL.still (Runs.sliceSl Tryd.underlying22 sz5 e33 (lo := 0) (hi := 511) rfl ⟨_, rfl⟩ (by omega) (by omega) rfl) ?_
  intro u34 e34
  refine HL.one (HO.call Tryd.func21 bd21 nm21 (args1 e34) rfl ((parse_n h6 (seg (blk hd0) 0 511) _ _ _ (short_parse (by omega)) l5.symm (hP.ext X6) ((byt_block hbb6).seg 0 511 (by omega) (by omega) (by omega) rfl) (by omega) (by omega)).mono ?_))
  rintro _ h7 ⟨rfl, E7⟩
  intro u35 e35
  refine HL.still (Runs.move e35) ?_
  intro u32 e32
  refine HL.still (Runs.extr e32 rfl) ?_
  intro u36 e36
  refine HL.still (Runs.extr e32 rfl) ?_
  intro u37 e37
  refine HL.one (HO.alloc zr36 ?_)
  intro h8 w8
  intro u6 e6
  refine HL.zero (HO.storeAll sz36 e6 e36 (one_cells _) w8.new rfl rfl ?_)
  intro h9 w9
  refine HL.still (Runs.assign e37) ?_
  intro u7 e7
  refine HL.nil ?_
  have z8 := w8.size
  have E69 : Ext h6 h9 := (E7.nw w8 (Nat.le_refl _)).wr w9 E7.size
  have hbb9 := E69.keepE hbb6
  have z36 := E36.size
  have z69 := E69.size
  have zz2 := X2.size
  -- region 7
  repeat refine HW.seq ?_
  refine HW.region ?_
  refine HL.still (Runs.move g2) ?_
  intro u38 e38
  refine HL.still (Runs.ixSl (o' := 0) Tryd.underlying22 sz5 e38 rfl (by omega) (by omega) (by omega)) ?_
  intro u39 e39
  refine HL.zero (HO.store (s := 1) sz5 e39 rfl rfl hbb9 (by rw [List.length_map, hb]; decide) rfl ?_)
  intro h10 w10
  refine HL.nil ?_
  have hbb10 : h10[b]? = some (.cells (((blk hd0).map B8).set 0 (B8 122)).toArray 5 (0, 0)) := w10.new
  rw [← List.map_set] at hbb10
  have z10 := w10.size
  have X9 : Ext h h9 := X6.ext E69 (Nat.le_refl _)
  have X10 : Ext h h10 := X9.wr w10 (by omega)
  have hbl' : ((blk hd0).set 0 122).length = 512 := by rw [List.length_set, hb]
  -- region 8
  repeat refine HW.seq ?_
  refine HW.region ?_
  refine HL.still (Runs.move g2) ?_
  intro u41 e41
  refine HL.one (HO.call Tryd.func21 bd21 nm21 (args1 e41) rfl ((parse_n h10 ((blk hd0).set 0 122) _ _ _ hd0_other hbl'.symm (hP.ext X10) (byt_block hbb10) (by omega) (by omega)).mono ?_))
  rintro _ h11 ⟨rfl, E11⟩
  intro u42 e42
  refine HL.still (Runs.move e42) ?_
  intro u40 e40
  refine HL.still (Runs.extr e40 rfl) ?_
  intro u43 e43
  refine HL.still (Runs.extr e40 rfl) ?_
  intro u44 e44
  refine HL.one (HO.alloc zr36 ?_)
  intro h12 w12
  intro u8 e8
  refine HL.zero (HO.storeAll sz36 e8 e43 (one_cells _) w12.new rfl rfl ?_)
  intro h13 w13
  refine HL.still (Runs.assign e44) ?_
  intro u9 e9
  refine HL.nil ?_
  have E1013 : Ext h10 h13 := (E11.nw w12 (Nat.le_refl _)).wr w13 E11.size
  have X13 : Ext h h13 := X10.ext E1013 (Nat.le_refl _)
  -- region 9
  repeat refine HW.seq ?_
  refine HW.region ?_
  refine HL.one (HO.makeB Tryd.underlying22 in5 rfl rfl (n := 512) (by decide) ?_)
  intro h14 w14
  intro u46 e46
  refine HL.one (HO.call Tryd.func21 bd21 nm21 (args1 e46) rfl ((parse_n h14 zeros _ _ _ zeros_parse zeros_len.symm (hP.ext (X13.nw w14 (Nat.le_refl _))) (byt_block w14.new) (by rw [zeros_len]; exact Nat.le_refl _) (by rw [zeros_len]; decide)).mono ?_))
  rintro _ h15 ⟨rfl, E15⟩
  intro u47 e47
  refine HL.still (Runs.move e47) ?_
  intro u45 e45
  refine HL.still (Runs.extr e45 rfl) ?_
  intro u48 e48
  refine HL.still (Runs.extr e45 rfl) ?_
  intro u49 e49
  refine HL.one (HO.alloc zr36 ?_)
  intro h16 w16
  intro u10 e10
  refine HL.zero (HO.storeAll sz36 e10 e48 (one_cells _) w16.new rfl rfl ?_)
  intro h17 w17
  refine HL.still (Runs.assign e49) ?_
  intro u11 e11
  refine HL.nil ?_
  have z14 := w14.size
  have E1317 : Ext h13 h17 := ((w14.ext.ext E15 (Nat.le_refl _)).nw w16 (Nat.le_refl _)).wr w17 (by have := E15.size; omega)
  have X17 : Ext h h17 := X13.ext E1317 (Nat.le_refl _)
  -- region 10
  repeat refine HW.seq ?_
  refine HW.region ?_
  refine HL.still (Runs.build (v := .agg hd1.cells.toArray) (fun w => by kernel_rfl)) ?_
  intro u51 e51
  refine HL.one (HO.call Tryd.func26 bd26 nm26 (args1 e51) rfl ((print_no h17 hd1 (hP.ext X17) (by decide) (by decide) hd1_no).mono ?_))
  rintro _ h18 ⟨rfl, E18⟩
  intro u52 e52
  refine HL.still (Runs.move e52) ?_
  intro u50 e50
  refine HL.still (Runs.extr e50 rfl) ?_
  intro u53 e53
  refine HL.still (Runs.extr e50 rfl) ?_
  intro u54 e54
  refine HL.still (Runs.assign e53) ?_
  intro u12 e12
  refine HL.still (Runs.assign e54) ?_
  intro u13 e13
  refine HL.nil ?_
  have X18 : Ext h h18 := X17.ext E18 (Nat.le_refl _)
  have E1018 : Ext h10 h18 := (E1013.ext E1317 (Nat.le_refl _)).ext E18 (Nat.le_refl _)
  have hA18 := E1018.keepE (w10.keep (E69.keepE (E36.keepE hA3)) (by have := lt_of_some w2.new; omega))
  have hB18 := E1018.keepE (w10.keep (E69.keepE w6.new) (by have := E4.size; omega))
  have hC18 := E1018.keepE hbb10
  -- region 11
  repeat refine HW.seq ?_
  refine HW.region ?_
  refine HL.still (Runs.loadAgg Tryd.underlying36 rfl sz36 e4 (cs := hd0.cells) rfl (hd_load hB18)) ?_
  intro u55 e55
  refine HL.still (Runs.loadAgg Tryd.underlying36 rfl sz36 e1 (cs := hd0.cells) rfl (hd_load hA18)) ?_
  intro u56 e56
  refine HL.still (Runs.eqStructSelf Tryd.underlying36 sih36 eg36 e55 e56 (by kernel_rfl)) ?_
  intro u57 e57
  refine HL.still (Runs.move e57) ?_
  intro u58 e58
  refine HL.stillG rfl rfl e58 (Runs.move e5) ?_
  intro u59 e59
  refine HL.stillG rfl rfl e58 (Runs.eql e59 rfl (t := true) rfl) ?_
  intro u60 e60
  refine HL.still (Runs.pick e58 e60) ?_
  intro u61 e61
  refine HL.still (Runs.move e61) ?_
  intro u62 e62
  refine HL.stillG rfl rfl e62 (Runs.move e7) ?_
  intro u63 e63
  refine HL.stillG rfl rfl e62 (Runs.eql e63 rfl (t := true) rfl) ?_
  intro u64 e64
  refine HL.still (Runs.pick e62 e64) ?_
  intro u65 e65
  refine HL.still (Runs.move e65) ?_
  intro u66 e66
  refine HL.stillG rfl rfl e66 (Runs.move e9) ?_
  intro u67 e67
  refine HL.stillG rfl rfl e66 (Runs.eql e67 rfl (t := true) rfl) ?_
  intro u68 e68
  refine HL.still (Runs.pick e66 e68) ?_
  intro u69 e69
  refine HL.still (Runs.move e69) ?_
  intro u70 e70
  refine HL.stillG rfl rfl e70 (Runs.move e11) ?_
  intro u71 e71
  refine HL.stillG rfl rfl e70 (Runs.eql e71 rfl (t := true) rfl) ?_
  intro u72 e72
  refine HL.still (Runs.pick e70 e72) ?_
  intro u73 e73
  refine HL.still (Runs.move e73) ?_
  intro u74 e74
  refine HL.stillG rfl rfl e74 (Runs.move e13) ?_
  intro u75 e75
  refine HL.stillG rfl rfl e74 (Runs.notb e75 (t := false) (u := true) rfl) ?_
  intro u76 e76
  refine HL.still (Runs.pick e74 e76) ?_
  intro u77 e77
  refine HL.still (Runs.move e77) ?_
  intro u78 e78
  refine HL.oneG rfl rfl e78 (HO.makeB Tryd.underlying22 in5 rfl rfl (n := 512) (by decide) ?_)
  intro h19 w19
  intro u79 e79
  refine HL.oneG rfl rfl e78 (HO.call Tryd.func24 bd24 nm24 (args1 e79) rfl ((empty_n h19 zeros _ _ _ zeros_empty zeros_len.symm (byt_block w19.new) (by rw [zeros_len]; decide)).mono ?_))
  rintro _ h20 ⟨rfl, hh20⟩
  intro u80 e80
  refine HL.still (Runs.pick e78 e80) ?_
  intro u81 e81
  refine HL.still (Runs.move e81) ?_
  intro u82 e82
  refine HL.stillG rfl rfl e82 (Runs.move g2) ?_
  intro u83 e83
  refine HL.oneG rfl rfl e82 (HO.call Tryd.func24 bd24 nm24 (args1 e83) rfl ((empty_n h20 ((blk hd0).set 0 122) _ _ _ (set_full _ hb 122 rfl) hbl'.symm (by rw [hh20]; exact byt_block (w19.keep hC18)) (by omega)).mono ?_))
  rintro _ h21 ⟨rfl, hh21⟩
  intro u84 e84
  refine HL.stillG rfl rfl e82 (Runs.notb e84 (t := false) (u := true) rfl) ?_
  intro u85 e85
  refine HL.still (Runs.pick e82 e85) ?_
  intro u86 e86
  refine HL.still (Runs.move e86) ?_
  intro u87 e87
  refine HL.oneG rfl rfl e87 (HO.call Tryd.func24 bd24 nm24 (args1 rfl) rfl ((empty_n h21 [] _ _ _ nil_empty rfl (.inl rfl) (by decide)).mono ?_))
  rintro _ h22 ⟨rfl, hh22⟩
  intro u88 e88
  refine HL.stillG rfl rfl e87 (Runs.notb e88 (t := false) (u := true) rfl) ?_
  intro u89 e89
  refine HL.still (Runs.pick e87 e89) ?_
  intro u90 e90
  refine HL.still (Runs.assign e90) ?_
  intro u0 e0
  refine HL.nil ?_
  refine HW.ret ?_
  exact RT.one rfl e0 ⟨rfl, by rw [hh22, hh21, hh20]; exact X18.nw w19 (Nat.le_refl _)⟩
end Go.Proofs.YtfogkggkjmkdiaaDoor
