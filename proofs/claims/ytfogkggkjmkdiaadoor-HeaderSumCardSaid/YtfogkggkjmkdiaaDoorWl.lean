/- onionskinlaw05.small: the small case comes out right. -/
import Derived.Test.YtfogkggkjmkdiaaDoorWk
namespace Go.Proofs.YtfogkggkjmkdiaaDoor
set_option linter.unnecessarySimpa false
set_option linter.unusedSimpArgs false
set_option linter.unusedVariables false
open Go.RowKit
theorem w8 : writeO 8 4 = ([48, 49, 48, 0], true) := by decide +kernel
theorem w512 : writeO 512 4 = ([128, 0, 2, 0], true) := by decide +kernel
theorem wno : writeO 16777216 4 = ([], false) := by decide +kernel
theorem r17 : readO [32, 49, 55, 0, 32] = (15, true) := by decide +kernel
theorem r512 : readO [128, 0, 2, 0] = (512, true) := by decide +kernel
theorem r18 : readO [49, 56] = (0, false) := by decide +kernel
theorem r00 : readO [0, 0] = (0, true) := by decide +kernel
theorem rff : readO [255, 1] = (0, false) := by decide +kernel
theorem ck512 : checkO (List.replicate 512 0) = 256 := by decide +kernel
theorem ck0 : checkO [] = -1 := by decide +kernel
theorem writeAt (h : Heap) {n size : Int} {r : List UInt8 × Bool} (hr : writeO n size = r) : CH Tryd.prog 16 #[.int .i64 n, .int .i64 size] h (Gives h r) := by
  rw [← hr]
  exact write_ch h n size
theorem readAt (h : Heap) {xs : List UInt8} {n : Nat} {t : Bool} (hr : readO xs = (n, t)) (a : Option Addr) (cap : Nat) (hsrc : Byt h a xs) (hcap : xs.length ≤ cap) (hlen : xs.length < 4611686018427387904) : CH Tryd.prog 14 #[.slice a xs.length cap] h fun v h' => v = .tuple #[I64 (n : Int), .bool t] ∧ Ext h h' := by
  have := read_ch h xs a cap hsrc hcap hlen
  rwa [hr] at this
theorem run_five (x y z u v : UInt8) (w : World) : (Instr.buildSlice 22 5 #[(0, B8 x), (1, B8 y), (2, B8 z), (3, B8 u), (4, B8 v)]).run Tryd.prog w = .ok (.slice (some ⟨w.heap.size, 0, none⟩) 5 5) (w.alloc (.cells ([x, y, z, u, v].map B8).toArray 5)) := by kernel_rfl
section
variable {ρ : Operand → Value} {h : Heap} {d : Option Tmp} {ty : TypeId} {pos : String} {af : Array Edge} {gd : Option (Nat × Bool)} {K : Value → Heap → Prop} {x0 x1 x2 x3 x4 : Operand}
theorem HO.bytes5 (a b c e g : UInt8) (h0 : ρ x0 = B8 a) (h1 : ρ x1 = B8 b) (h2 : ρ x2 = B8 c) (h3 : ρ x3 = B8 e) (h4 : ρ x4 = B8 g) (k : ∀ h', Nw h h' (.cells ([a, b, c, e, g].map B8).toArray 5 (0, 0)) → K (.slice (some ⟨h.size, 0, none⟩) 5 5) h') : HO Tryd.prog ⟨d, .buildSlice 22 5 #[(0, x0), (1, x1), (2, x2), (3, x3), (4, x4)], ty, pos, af, gd⟩ ρ h K :=
  HO.buildSlice (fun w => by
    have q : (#[(0, x0), (1, x1), (2, x2), (3, x3), (4, x4)] : Array (Nat × Operand)).map (fun (i, x) => (i, ρ x)) = #[(0, B8 a), (1, B8 b), (2, B8 c), (3, B8 e), (4, B8 g)] := by simp [h0, h1, h2, h3, h4]
    rw [q]
    exact run_five a b c e g w) k
end
set_option maxRecDepth 10000 in
theorem small5_ch (h : Heap) : CH Tryd.prog 13 #[] h fun v h' => v = .bool true ∧ Ext h h' := by
  refine CH.of_body Tryd.func13 rfl rfl rfl ?_
  intro f hf
  -- region 0
  repeat refine HW.seq ?_
  refine HW.region ?_
  refine HL.still (Runs.assign rfl) ?_
  intro u0 e0
  refine HL.nil ?_
  -- region 1
  repeat refine HW.seq ?_
  refine HW.region ?_
  refine HL.one (HO.call Tryd.func16 bd16 nm16 (args2 rfl rfl) rfl ((writeAt _ w8).mono ?_))
  rintro _ h1 ⟨a1, c1, rfl, b1, k1, E1⟩
  intro u18 e18
  refine HL.still (Runs.move e18) ?_
  intro u17 e17
  refine HL.still (Runs.extr e17 rfl) ?_
  intro u19 e19
  refine HL.still (Runs.extr e17 rfl) ?_
  intro u20 e20
  refine HL.still (Runs.assign e19) ?_
  intro u1 e1
  refine HL.still (Runs.assign e20) ?_
  intro u2 e2
  refine HL.nil ?_
  -- region 2
  repeat refine HW.seq ?_
  refine HW.region ?_
  refine HL.one (HO.call Tryd.func16 bd16 nm16 (args2 rfl rfl) rfl ((writeAt _ w512).mono ?_))
  rintro _ h2 ⟨a2, c2, rfl, b2, k2, E2⟩
  intro u22 e22
  refine HL.still (Runs.move e22) ?_
  intro u21 e21
  refine HL.still (Runs.extr e21 rfl) ?_
  intro u23 e23
  refine HL.still (Runs.extr e21 rfl) ?_
  intro u24 e24
  refine HL.still (Runs.assign e23) ?_
  intro u3 e3
  refine HL.still (Runs.assign e24) ?_
  intro u4 e4
  refine HL.nil ?_
  -- region 3
  repeat refine HW.seq ?_
  refine HW.region ?_
  refine HL.one (HO.call Tryd.func16 bd16 nm16 (args2 rfl rfl) rfl ((writeAt _ wno).mono ?_))
  rintro _ h3 ⟨a3, c3, rfl, b3, k3, E3⟩
  intro u26 e26
  refine HL.still (Runs.move e26) ?_
  intro u25 e25
  refine HL.still (Runs.extr e25 rfl) ?_
  intro u27 e27
  refine HL.still (Runs.extr e25 rfl) ?_
  intro u28 e28
  refine HL.still (Runs.assign e27) ?_
  intro u5 e5
  refine HL.still (Runs.assign e28) ?_
  intro u6 e6
  refine HL.nil ?_
  have X3 : Ext h h3 := (E1.ext E2 (Nat.le_refl _)).ext E3 (Nat.le_refl _)
  have z3 := X3.size
  -- region 4
  repeat refine HW.seq ?_
  refine HW.region ?_
  refine HL.one (HO.bytes5 32 49 55 0 32 rfl rfl rfl rfl rfl ?_)
  intro h4 w4
  intro u30 e30
  refine HL.one (HO.mark Tryd.underlying22 Tryd.underlying5 e30 w4.new ?_)
  intro h5 fr5 w5 q5
  intro u31 e31
  refine HL.one (HO.call Tryd.func14 bd14 nm14 (args1 e31) rfl ((readAt _ r17 (some ⟨h3.size, 0, none⟩) 5 (byt_block w5.new) (Nat.le_refl _) (by decide)).mono ?_))
  rintro _ h6 ⟨rfl, E6⟩
  intro u32 e32
  refine HL.still (Runs.move e32) ?_
  intro u29 e29
  refine HL.still (Runs.extr e29 rfl) ?_
  intro u33 e33
  refine HL.still (Runs.extr e29 rfl) ?_
  intro u34 e34
  refine HL.still (Runs.assign e33) ?_
  intro u7 e7
  refine HL.still (Runs.assign e34) ?_
  intro u8 e8
  refine HL.nil ?_
  have z4 := w4.size
  have z5 := w5.size
  have z6 := E6.size
  have B36 : Ext h3 h6 := (w4.ext.wr w5 (Nat.le_refl _)).ext E6 (Nat.le_refl _)
  have X6 : Ext h h6 := X3.ext B36 (Nat.le_refl _)
  -- region 5
  repeat refine HW.seq ?_
  refine HW.region ?_
  refine HL.still (Runs.move e3) ?_
  intro u36 e36
  refine HL.one (HO.call Tryd.func14 bd14 nm14 (args1 e36) rfl ((readAt _ r512 a2 c2 ((b2.ext E3).ext B36) k2 (by decide)).mono ?_))
  rintro _ h7 ⟨rfl, E7⟩
  intro u37 e37
  refine HL.still (Runs.move e37) ?_
  intro u35 e35
  refine HL.still (Runs.extr e35 rfl) ?_
  intro u38 e38
  refine HL.still (Runs.extr e35 rfl) ?_
  intro u39 e39
  refine HL.still (Runs.assign e38) ?_
  intro u9 e9
  refine HL.still (Runs.assign e39) ?_
  intro u10 e10
  refine HL.nil ?_
  have z7 := E7.size
  have X7 : Ext h h7 := X6.ext E7 (Nat.le_refl _)
  -- region 6
  repeat refine HW.seq ?_
  refine HW.region ?_
  refine HL.one (HO.bytes2 49 56 rfl rfl ?_)
  intro h8 w8'
  intro u41 e41
  refine HL.one (HO.mark Tryd.underlying22 Tryd.underlying5 e41 w8'.new ?_)
  intro h9 fr9 w9 q9
  intro u42 e42
  refine HL.one (HO.call Tryd.func14 bd14 nm14 (args1 e42) rfl ((readAt _ r18 (some ⟨h7.size, 0, none⟩) 2 (byt_block w9.new) (Nat.le_refl _) (by decide)).mono ?_))
  rintro _ h10 ⟨rfl, E10⟩
  intro u43 e43
  refine HL.still (Runs.move e43) ?_
  intro u40 e40
  refine HL.still (Runs.extr e40 rfl) ?_
  intro u44 e44
  refine HL.still (Runs.extr e40 rfl) ?_
  intro u45 e45
  refine HL.still (Runs.assign e44) ?_
  intro u11 e11
  refine HL.still (Runs.assign e45) ?_
  intro u12 e12
  refine HL.nil ?_
  have B710 : Ext h7 h10 := (w8'.ext.wr w9 (Nat.le_refl _)).ext E10 (Nat.le_refl _)
  have X10 : Ext h h10 := X7.ext B710 (Nat.le_refl _)
  -- region 7
  repeat refine HW.seq ?_
  refine HW.region ?_
  refine HL.one (HO.bytes2 0 0 rfl rfl ?_)
  intro h11 w11
  intro u47 e47
  refine HL.one (HO.call Tryd.func14 bd14 nm14 (args1 e47) rfl ((readAt _ r00 (some ⟨h10.size, 0, none⟩) 2 (byt_block w11.new) (Nat.le_refl _) (by decide)).mono ?_))
  rintro _ h12 ⟨rfl, E12⟩
  intro u48 e48
  refine HL.still (Runs.move e48) ?_
  intro u46 e46
  refine HL.still (Runs.extr e46 rfl) ?_
  intro u49 e49
  refine HL.still (Runs.extr e46 rfl) ?_
  intro u50 e50
  refine HL.still (Runs.assign e49) ?_
  intro u13 e13
  refine HL.still (Runs.assign e50) ?_
  intro u14 e14
  refine HL.nil ?_
  have B1012 : Ext h10 h12 := w11.ext.ext E12 (Nat.le_refl _)
  have X12 : Ext h h12 := X10.ext B1012 (Nat.le_refl _)
  -- region 8
  repeat refine HW.seq ?_
  refine HW.region ?_
  refine HL.one (HO.bytes2 255 1 rfl rfl ?_)
  intro h13 w13
  intro u52 e52
  refine HL.one (HO.call Tryd.func14 bd14 nm14 (args1 e52) rfl ((readAt _ rff (some ⟨h12.size, 0, none⟩) 2 (byt_block w13.new) (Nat.le_refl _) (by decide)).mono ?_))
  rintro _ h14 ⟨rfl, E14⟩
  intro u53 e53
  refine HL.still (Runs.move e53) ?_
  intro u51 e51
  refine HL.still (Runs.extr e51 rfl) ?_
  intro u54 e54
  refine HL.still (Runs.extr e51 rfl) ?_
  intro u55 e55
  refine HL.still (Runs.assign e54) ?_
  intro u15 e15
  refine HL.still (Runs.assign e55) ?_
  intro u16 e16
  refine HL.nil ?_
  have B1214 : Ext h12 h14 := w13.ext.ext E14 (Nat.le_refl _)
  have X14 : Ext h h14 := X12.ext B1214 (Nat.le_refl _)
  have Y1 : Byt h14 a1 [48, 49, 48, 0] := ((((((b1.ext E2).ext E3).ext B36).ext E7).ext B710).ext B1012).ext B1214
  have Y2 : Byt h14 a2 [128, 0, 2, 0] := (((((b2.ext E3).ext B36).ext E7).ext B710).ext B1012).ext B1214
  -- region 9
  repeat refine HW.seq ?_
  refine HW.region ?_
  refine HL.still (Runs.move e1) ?_
  intro u56 e56
  refine HL.still (Runs.toStrB Tryd.underlying22 Tryd.underlying5 Tryd.underlying9 e56 rfl Y1) ?_
  intro u57 e57
  refine HL.still (Runs.eqS e57 rfl (ys := [48, 49, 48, 0]) (t := true) rfl) ?_
  intro u58 e58
  refine HL.still (Runs.move e58) ?_
  intro u59 e59
  refine HL.stillG rfl rfl e59 (Runs.move e2) ?_
  intro u60 e60
  refine HL.still (Runs.pick e59 e60) ?_
  intro u61 e61
  refine HL.still (Runs.move e61) ?_
  intro u62 e62
  refine HL.stillG rfl rfl e62 (Runs.move e3) ?_
  intro u63 e63
  refine HL.stillG rfl rfl e62 (Runs.toStrB Tryd.underlying22 Tryd.underlying5 Tryd.underlying9 e63 rfl Y2) ?_
  intro u64 e64
  refine HL.stillG rfl rfl e62 (Runs.eqS e64 rfl (ys := [128, 0, 2, 0]) (t := true) rfl) ?_
  intro u65 e65
  refine HL.still (Runs.pick e62 e65) ?_
  intro u66 e66
  refine HL.still (Runs.move e66) ?_
  intro u67 e67
  refine HL.stillG rfl rfl e67 (Runs.move e4) ?_
  intro u68 e68
  refine HL.still (Runs.pick e67 e68) ?_
  intro u69 e69
  refine HL.still (Runs.move e69) ?_
  intro u70 e70
  refine HL.stillG rfl rfl e70 (Runs.move e6) ?_
  intro u71 e71
  refine HL.stillG rfl rfl e70 (Runs.notb e71 (t := false) (u := true) rfl) ?_
  intro u72 e72
  refine HL.still (Runs.pick e70 e72) ?_
  intro u73 e73
  refine HL.still (Runs.move e73) ?_
  intro u74 e74
  refine HL.stillG rfl rfl e74 (Runs.move e7) ?_
  intro u75 e75
  refine HL.stillG rfl rfl e74 (Runs.eql e75 rfl (t := true) rfl) ?_
  intro u76 e76
  refine HL.still (Runs.pick e74 e76) ?_
  intro u77 e77
  refine HL.still (Runs.move e77) ?_
  intro u78 e78
  refine HL.stillG rfl rfl e78 (Runs.move e8) ?_
  intro u79 e79
  refine HL.still (Runs.pick e78 e79) ?_
  intro u80 e80
  refine HL.still (Runs.move e80) ?_
  intro u81 e81
  refine HL.stillG rfl rfl e81 (Runs.move e9) ?_
  intro u82 e82
  refine HL.stillG rfl rfl e81 (Runs.eql e82 rfl (t := true) rfl) ?_
  intro u83 e83
  refine HL.still (Runs.pick e81 e83) ?_
  intro u84 e84
  refine HL.still (Runs.move e84) ?_
  intro u85 e85
  refine HL.stillG rfl rfl e85 (Runs.move e10) ?_
  intro u86 e86
  refine HL.still (Runs.pick e85 e86) ?_
  intro u87 e87
  refine HL.still (Runs.move e87) ?_
  intro u88 e88
  refine HL.stillG rfl rfl e88 (Runs.move e12) ?_
  intro u89 e89
  refine HL.stillG rfl rfl e88 (Runs.notb e89 (t := false) (u := true) rfl) ?_
  intro u90 e90
  refine HL.still (Runs.pick e88 e90) ?_
  intro u91 e91
  refine HL.still (Runs.move e91) ?_
  intro u92 e92
  refine HL.stillG rfl rfl e92 (Runs.move e13) ?_
  intro u93 e93
  refine HL.stillG rfl rfl e92 (Runs.eql e93 rfl (t := true) rfl) ?_
  intro u94 e94
  refine HL.still (Runs.pick e92 e94) ?_
  intro u95 e95
  refine HL.still (Runs.move e95) ?_
  intro u96 e96
  refine HL.stillG rfl rfl e96 (Runs.move e14) ?_
  intro u97 e97
  refine HL.still (Runs.pick e96 e97) ?_
  intro u98 e98
  refine HL.still (Runs.move e98) ?_
  intro u99 e99
  refine HL.stillG rfl rfl e99 (Runs.move e16) ?_
  intro u100 e100
  refine HL.stillG rfl rfl e99 (Runs.notb e100 (t := false) (u := true) rfl) ?_
  intro u101 e101
  refine HL.still (Runs.pick e99 e101) ?_
  intro u102 e102
  refine HL.still (Runs.move e102) ?_
  intro u103 e103
  refine HL.oneG rfl rfl e103 (HO.makeB Tryd.underlying22 in5 rfl rfl (by decide) ?_)
  intro h15 w15
  intro u104 e104
  refine HL.oneG rfl rfl e103 (HO.call Tryd.func18 bd18 nm18 (args1 e104) rfl ((check_ch h15 (List.replicate 512 0) (some ⟨h14.size, 0, none⟩) 512 (byt_block w15.new) (by simp)).mono ?_))
  rintro _ h16 ⟨rfl, hh16⟩
  intro u105 e105
  refine HL.stillG rfl rfl e103 (Runs.eql e105 rfl (t := true) (by rw [ck512]; rfl)) ?_
  intro u106 e106
  refine HL.still (Runs.pick e103 e106) ?_
  intro u107 e107
  refine HL.still (Runs.move e107) ?_
  intro u108 e108
  refine HL.oneG rfl rfl e108 (HO.call Tryd.func18 bd18 nm18 (args1 rfl) rfl ((check_ch h16 [] none 0 (.inl rfl) (by decide)).mono ?_))
  rintro _ h17 ⟨rfl, hh17⟩
  intro u109 e109
  refine HL.stillG rfl rfl e108 (Runs.eql e109 rfl (t := true) (by rw [ck0]; rfl)) ?_
  intro u110 e110
  refine HL.still (Runs.pick e108 e110) ?_
  intro u111 e111
  refine HL.still (Runs.assign e111) ?_
  intro u0 e0
  refine HL.nil ?_
  refine HW.ret ?_
  exact RT.one rfl e0 ⟨rfl, by rw [hh17, hh16]; exact X14.nw w15 (Nat.le_refl _)⟩
end Go.Proofs.YtfogkggkjmkdiaaDoor
