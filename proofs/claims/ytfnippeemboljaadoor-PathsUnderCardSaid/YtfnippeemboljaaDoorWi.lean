/- The small values; PathsTells, PathsMarks. -/
import Derived.Test.YtfnippeemboljaaDoorWh
namespace Go.Proofs.YtfnippeemboljaaDoor
set_option linter.unnecessarySimpa false
set_option linter.unusedSimpArgs false
set_option linter.unusedVariables false
open Go.RowKit
section
variable {h : Heap}
theorem clean_is {s r : Str} {b : Bool} (e : cleanO s = (r, b)) (hs : s.length ≤ 10000) : CH Tryd.prog 9 #[S8 s] h fun v h' => v = .tuple #[S8 r, .bool b] ∧ Ext h h' := by have := clean_ch h s hs; rw [e] at this; exact this
theorem mark_is {s r : Str} {o : Int} {b : Bool} (e : markO s = (o, r, b)) (hs : s.length ≤ 10000) : CH Tryd.prog 17 #[S8 s] h fun v h' => v = .tuple #[I64 o, S8 r, .bool b] ∧ Ext h h' := by have := mark_ch h s hs; rw [e] at this; exact this
theorem unmark_is {s r : Str} {o : Int} {b : Bool} (e : unmarkO o s = (r, b)) (hs : s.length ≤ 4500) : CH Tryd.prog 19 #[I64 o, S8 s] h fun v h' => v = .tuple #[S8 r, .bool b] ∧ Ext h h' := by have := unmark_ch h o s hs; rw [e] at this; exact this
theorem compare_is {a b : Str} {r : Int} (e : compareO a b = r) (ha : a.length ≤ 10000) (hb : b.length ≤ 10000) : CH Tryd.prog 11 #[S8 a, S8 b] h fun v h' => v = I64 r ∧ Ext h h' := by have := compare_ch h a b ha hb; rw [e] at this; exact this
theorem parent_is {a r : Str} (e : parentO a = r) (ha : a.length ≤ 10000) : CH Tryd.prog 13 #[S8 a] h fun v h' => v = S8 r ∧ Ext h h' := by have := (parent_ch h a (by omega)).same; rw [e] at this; exact this
theorem under_is {a b : Str} {r : Bool} (e : underO a b = r) (ha : a.length ≤ 10000) : CH Tryd.prog 15 #[S8 a, S8 b] h fun v h' => v = .bool r ∧ Ext h h' := by have := (under_ch h a b (by omega)).same; rw [e] at this; exact this
end
theorem smC0 : cleanO [46, 47, 97, 47, 47, 98, 47] = ([97, 47, 98], true) := by kernel_rfl
theorem smC1 : cleanO [97, 47, 46, 46, 47, 98] = ([], false) := by kernel_rfl
theorem smC2 : cleanO [47, 46] = ([], false) := by kernel_rfl
theorem smM0 : markO [97, 47, 46, 119, 104, 46, 98] = (1, [97, 47, 98], true) := by kernel_rfl
theorem smM1 : markO [46, 119, 104, 46, 46, 119, 104, 46, 46, 111, 112, 113] = (2, [], true) := by kernel_rfl
theorem smM2 : markO [97, 47, 46, 119, 104, 46, 46, 119, 104, 46, 120] = (0, [], false) := by kernel_rfl
theorem smU0 : unmarkO 2 [97] = ([97, 47, 46, 119, 104, 46, 46, 119, 104, 46, 46, 111, 112, 113], true) := by kernel_rfl
theorem smU1 : unmarkO 1 [98] = ([46, 119, 104, 46, 98], true) := by kernel_rfl
theorem smU2 : unmarkO 0 [46, 119, 104, 46, 120] = ([], false) := by kernel_rfl
theorem smK0 : compareO [97, 47, 98] [97, 45, 98] = -1 := by kernel_rfl
theorem smK1 : compareO [97] [97, 47, 98] = -1 := by kernel_rfl
theorem smK2 : compareO [] [97] = -1 := by kernel_rfl
theorem smK3 : compareO [98] [97, 47, 122] = 1 := by kernel_rfl
theorem smP0 : parentO [97, 47, 98] = [97] := by kernel_rfl
theorem smP1 : parentO [97] = [] := by kernel_rfl
theorem smN0 : underO [97] [97, 47, 98] = true := by kernel_rfl
theorem smN1 : underO [97] [97, 98] = false := by kernel_rfl
theorem smN2 : underO [] [97] = true := by kernel_rfl
theorem smN3 : underO [] [] = false := by kernel_rfl
theorem small_ch (h : Heap) : CH Tryd.prog 8 #[] h fun v h' => v = .bool true ∧ Ext h h' := by
  refine CH.of_body Tryd.func8 rfl rfl rfl ?_
  intro f hf
  -- region 0
  repeat refine HW.seq ?_
  refine HW.region ?_
  refine HL.still (Runs.assign rfl) ?_
  intro u0 e0
  refine HL.nil ?_
  -- region 1
  repeat refine HW.seq ?_
  refine HW.region ?_
  refine HL.one (HO.call Tryd.func9 bd9 nm9 (args1 rfl) rfl ((clean_is smC0 (by decide)).mono ?_))
  rintro _ h1 ⟨rfl, X1⟩
  intro u23 e23
  refine HL.still (Runs.move e23) ?_
  intro u22 e22
  refine HL.still (Runs.extr e22 rfl) ?_
  intro u24 e24
  refine HL.still (Runs.extr e22 rfl) ?_
  intro u25 e25
  refine HL.still (Runs.assign e24) ?_
  intro u1 e1
  refine HL.still (Runs.assign e25) ?_
  intro u2 e2
  refine HL.nil ?_
  have Y1 : Ext h h1 := X1
  -- region 2
  repeat refine HW.seq ?_
  refine HW.region ?_
  refine HL.one (HO.call Tryd.func9 bd9 nm9 (args1 rfl) rfl ((clean_is smC1 (by decide)).mono ?_))
  rintro _ h2 ⟨rfl, X2⟩
  intro u27 e27
  refine HL.still (Runs.move e27) ?_
  intro u26 e26
  refine HL.still (Runs.extr e26 rfl) ?_
  intro u28 e28
  refine HL.still (Runs.extr e26 rfl) ?_
  intro u29 e29
  refine HL.still (Runs.assign e28) ?_
  intro u3 e3
  refine HL.still (Runs.assign e29) ?_
  intro u4 e4
  refine HL.nil ?_
  have Y2 : Ext h h2 := Y1.ext X2 (Nat.le_refl _)
  -- region 3
  repeat refine HW.seq ?_
  refine HW.region ?_
  refine HL.one (HO.call Tryd.func9 bd9 nm9 (args1 rfl) rfl ((clean_is smC2 (by decide)).mono ?_))
  rintro _ h3 ⟨rfl, X3⟩
  intro u31 e31
  refine HL.still (Runs.move e31) ?_
  intro u30 e30
  refine HL.still (Runs.extr e30 rfl) ?_
  intro u32 e32
  refine HL.still (Runs.extr e30 rfl) ?_
  intro u33 e33
  refine HL.still (Runs.assign e32) ?_
  intro u5 e5
  refine HL.still (Runs.assign e33) ?_
  intro u6 e6
  refine HL.nil ?_
  have Y3 : Ext h h3 := Y2.ext X3 (Nat.le_refl _)
  -- region 4
  repeat refine HW.seq ?_
  refine HW.region ?_
  refine HL.one (HO.call Tryd.func17 bd17 nm17 (args1 rfl) rfl ((mark_is smM0 (by decide)).mono ?_))
  rintro _ h4 ⟨rfl, X4⟩
  intro u35 e35
  refine HL.still (Runs.move e35) ?_
  intro u34 e34
  refine HL.still (Runs.extr e34 rfl) ?_
  intro u36 e36
  refine HL.still (Runs.extr e34 rfl) ?_
  intro u37 e37
  refine HL.still (Runs.extr e34 rfl) ?_
  intro u38 e38
  refine HL.still (Runs.assign e36) ?_
  intro u7 e7
  refine HL.still (Runs.assign e37) ?_
  intro u8 e8
  refine HL.still (Runs.assign e38) ?_
  intro u9 e9
  refine HL.nil ?_
  have Y4 : Ext h h4 := Y3.ext X4 (Nat.le_refl _)
  -- region 5
  repeat refine HW.seq ?_
  refine HW.region ?_
  refine HL.one (HO.call Tryd.func17 bd17 nm17 (args1 rfl) rfl ((mark_is smM1 (by decide)).mono ?_))
  rintro _ h5 ⟨rfl, X5⟩
  intro u40 e40
  refine HL.still (Runs.move e40) ?_
  intro u39 e39
  refine HL.still (Runs.extr e39 rfl) ?_
  intro u41 e41
  refine HL.still (Runs.extr e39 rfl) ?_
  intro u42 e42
  refine HL.still (Runs.extr e39 rfl) ?_
  intro u43 e43
  refine HL.still (Runs.assign e41) ?_
  intro u10 e10
  refine HL.still (Runs.assign e42) ?_
  intro u11 e11
  refine HL.still (Runs.assign e43) ?_
  intro u12 e12
  refine HL.nil ?_
  have Y5 : Ext h h5 := Y4.ext X5 (Nat.le_refl _)
  -- region 6
  repeat refine HW.seq ?_
  refine HW.region ?_
  refine HL.one (HO.call Tryd.func17 bd17 nm17 (args1 rfl) rfl ((mark_is smM2 (by decide)).mono ?_))
  rintro _ h6 ⟨rfl, X6⟩
  intro u45 e45
  refine HL.still (Runs.move e45) ?_
  intro u44 e44
  refine HL.still (Runs.extr e44 rfl) ?_
  intro u46 e46
  refine HL.still (Runs.extr e44 rfl) ?_
  intro u47 e47
  refine HL.still (Runs.extr e44 rfl) ?_
  intro u48 e48
  refine HL.still (Runs.assign e46) ?_
  intro u13 e13
  refine HL.still (Runs.assign e47) ?_
  intro u14 e14
  refine HL.still (Runs.assign e48) ?_
  intro u15 e15
  refine HL.nil ?_
  have Y6 : Ext h h6 := Y5.ext X6 (Nat.le_refl _)
  -- region 7
  repeat refine HW.seq ?_
  refine HW.region ?_
  refine HL.one (HO.call Tryd.func19 bd19 nm19 (args2 rfl rfl) rfl ((unmark_is smU0 (by decide)).mono ?_))
  rintro _ h7 ⟨rfl, X7⟩
  intro u50 e50
  refine HL.still (Runs.move e50) ?_
  intro u49 e49
  refine HL.still (Runs.extr e49 rfl) ?_
  intro u51 e51
  refine HL.still (Runs.extr e49 rfl) ?_
  intro u52 e52
  refine HL.still (Runs.assign e51) ?_
  intro u16 e16
  refine HL.still (Runs.assign e52) ?_
  intro u17 e17
  refine HL.nil ?_
  have Y7 : Ext h h7 := Y6.ext X7 (Nat.le_refl _)
  -- region 8
  repeat refine HW.seq ?_
  refine HW.region ?_
  refine HL.one (HO.call Tryd.func19 bd19 nm19 (args2 rfl rfl) rfl ((unmark_is smU1 (by decide)).mono ?_))
  rintro _ h8 ⟨rfl, X8⟩
  intro u54 e54
  refine HL.still (Runs.move e54) ?_
  intro u53 e53
  refine HL.still (Runs.extr e53 rfl) ?_
  intro u55 e55
  refine HL.still (Runs.extr e53 rfl) ?_
  intro u56 e56
  refine HL.still (Runs.assign e55) ?_
  intro u18 e18
  refine HL.still (Runs.assign e56) ?_
  intro u19 e19
  refine HL.nil ?_
  have Y8 : Ext h h8 := Y7.ext X8 (Nat.le_refl _)
  -- region 9
  repeat refine HW.seq ?_
  refine HW.region ?_
  refine HL.one (HO.call Tryd.func19 bd19 nm19 (args2 rfl rfl) rfl ((unmark_is smU2 (by decide)).mono ?_))
  rintro _ h9 ⟨rfl, X9⟩
  intro u58 e58
  refine HL.still (Runs.move e58) ?_
  intro u57 e57
  refine HL.still (Runs.extr e57 rfl) ?_
  intro u59 e59
  refine HL.still (Runs.extr e57 rfl) ?_
  intro u60 e60
  refine HL.still (Runs.assign e59) ?_
  intro u20 e20
  refine HL.still (Runs.assign e60) ?_
  intro u21 e21
  refine HL.nil ?_
  have Y9 : Ext h h9 := Y8.ext X9 (Nat.le_refl _)
  -- region 10
  repeat refine HW.seq ?_
  refine HW.region ?_
  refine HL.still (Runs.move e1) ?_
  intro u61 e61
  refine HL.still (Runs.eqS e61 rfl (ys := [97, 47, 98]) (t := true) rfl) ?_
  intro u62 e62
  refine HL.still (Runs.move e62) ?_
  intro u63 e63
  refine HL.stillG rfl rfl e63 (Runs.move e2) ?_
  intro u64 e64
  refine HL.still (Runs.pick e63 e64) ?_
  intro u65 e65
  refine HL.still (Runs.move e65) ?_
  intro u66 e66
  refine HL.stillG rfl rfl e66 (Runs.move e4) ?_
  intro u67 e67
  refine HL.stillG rfl rfl e66 (Runs.notb e67 (t := false) (u := true) rfl) ?_
  intro u68 e68
  refine HL.still (Runs.pick e66 e68) ?_
  intro u69 e69
  refine HL.still (Runs.move e69) ?_
  intro u70 e70
  refine HL.stillG rfl rfl e70 (Runs.move e6) ?_
  intro u71 e71
  refine HL.stillG rfl rfl e70 (Runs.notb e71 (t := false) (u := true) rfl) ?_
  intro u72 e72
  refine HL.still (Runs.pick e70 e72) ?_
  intro u73 e73
  refine HL.still (Runs.move e73) ?_
  intro u74 e74
  refine HL.stillG rfl rfl e74 (Runs.move e7) ?_
  intro u75 e75
  refine HL.stillG rfl rfl e74 (Runs.eql e75 rfl (t := true) rfl) ?_
  intro u76 e76
  refine HL.still (Runs.pick e74 e76) ?_
  intro u77 e77
  refine HL.still (Runs.move e77) ?_
  intro u78 e78
  refine HL.stillG rfl rfl e78 (Runs.move e8) ?_
  intro u79 e79
  refine HL.stillG rfl rfl e78 (Runs.eqS e79 rfl (ys := [97, 47, 98]) (t := true) rfl) ?_
  intro u80 e80
  refine HL.still (Runs.pick e78 e80) ?_
  intro u81 e81
  refine HL.still (Runs.move e81) ?_
  intro u82 e82
  refine HL.stillG rfl rfl e82 (Runs.move e9) ?_
  intro u83 e83
  refine HL.still (Runs.pick e82 e83) ?_
  intro u84 e84
  refine HL.still (Runs.move e84) ?_
  intro u85 e85
  refine HL.stillG rfl rfl e85 (Runs.move e10) ?_
  intro u86 e86
  refine HL.stillG rfl rfl e85 (Runs.eql e86 rfl (t := true) rfl) ?_
  intro u87 e87
  refine HL.still (Runs.pick e85 e87) ?_
  intro u88 e88
  refine HL.still (Runs.move e88) ?_
  intro u89 e89
  refine HL.stillG rfl rfl e89 (Runs.move e11) ?_
  intro u90 e90
  refine HL.stillG rfl rfl e89 (Runs.eqS e90 rfl (ys := []) (t := true) rfl) ?_
  intro u91 e91
  refine HL.still (Runs.pick e89 e91) ?_
  intro u92 e92
  refine HL.still (Runs.move e92) ?_
  intro u93 e93
  refine HL.stillG rfl rfl e93 (Runs.move e12) ?_
  intro u94 e94
  refine HL.still (Runs.pick e93 e94) ?_
  intro u95 e95
  refine HL.still (Runs.move e95) ?_
  intro u96 e96
  refine HL.stillG rfl rfl e96 (Runs.move e15) ?_
  intro u97 e97
  refine HL.stillG rfl rfl e96 (Runs.notb e97 (t := false) (u := true) rfl) ?_
  intro u98 e98
  refine HL.still (Runs.pick e96 e98) ?_
  intro u99 e99
  refine HL.still (Runs.move e99) ?_
  intro u100 e100
  refine HL.stillG rfl rfl e100 (Runs.move e16) ?_
  intro u101 e101
  refine HL.stillG rfl rfl e100 (Runs.eqS e101 rfl (ys := [97, 47, 46, 119, 104, 46, 46, 119, 104, 46, 46, 111, 112, 113]) (t := true) rfl) ?_
  intro u102 e102
  refine HL.still (Runs.pick e100 e102) ?_
  intro u103 e103
  refine HL.still (Runs.move e103) ?_
  intro u104 e104
  refine HL.stillG rfl rfl e104 (Runs.move e17) ?_
  intro u105 e105
  refine HL.still (Runs.pick e104 e105) ?_
  intro u106 e106
  refine HL.still (Runs.move e106) ?_
  intro u107 e107
  refine HL.stillG rfl rfl e107 (Runs.move e18) ?_
  intro u108 e108
  refine HL.stillG rfl rfl e107 (Runs.eqS e108 rfl (ys := [46, 119, 104, 46, 98]) (t := true) rfl) ?_
  intro u109 e109
  refine HL.still (Runs.pick e107 e109) ?_
  intro u110 e110
  refine HL.still (Runs.move e110) ?_
  intro u111 e111
  refine HL.stillG rfl rfl e111 (Runs.move e19) ?_
  intro u112 e112
  refine HL.still (Runs.pick e111 e112) ?_
  intro u113 e113
  refine HL.still (Runs.move e113) ?_
  intro u114 e114
  refine HL.stillG rfl rfl e114 (Runs.move e21) ?_
  intro u115 e115
  refine HL.stillG rfl rfl e114 (Runs.notb e115 (t := false) (u := true) rfl) ?_
  intro u116 e116
  refine HL.still (Runs.pick e114 e116) ?_
  intro u117 e117
  refine HL.still (Runs.move e117) ?_
  intro u118 e118
  refine HL.oneG rfl rfl e118 (HO.call Tryd.func11 bd11 nm11 (args2 rfl rfl) rfl ((compare_is smK0 (by decide) (by decide)).mono ?_))
  rintro _ h10 ⟨rfl, X10⟩
  intro u119 e119
  refine HL.stillG rfl rfl e118 (Runs.eql e119 rfl (t := true) rfl) ?_
  intro u120 e120
  refine HL.still (Runs.pick e118 e120) ?_
  intro u121 e121
  refine HL.still (Runs.move e121) ?_
  intro u122 e122
  refine HL.oneG rfl rfl e122 (HO.call Tryd.func11 bd11 nm11 (args2 rfl rfl) rfl ((compare_is smK1 (by decide) (by decide)).mono ?_))
  rintro _ h11 ⟨rfl, X11⟩
  intro u123 e123
  refine HL.stillG rfl rfl e122 (Runs.eql e123 rfl (t := true) rfl) ?_
  intro u124 e124
  refine HL.still (Runs.pick e122 e124) ?_
  intro u125 e125
  refine HL.still (Runs.move e125) ?_
  intro u126 e126
  refine HL.oneG rfl rfl e126 (HO.call Tryd.func11 bd11 nm11 (args2 rfl rfl) rfl ((compare_is smK2 (by decide) (by decide)).mono ?_))
  rintro _ h12 ⟨rfl, X12⟩
  intro u127 e127
  refine HL.stillG rfl rfl e126 (Runs.eql e127 rfl (t := true) rfl) ?_
  intro u128 e128
  refine HL.still (Runs.pick e126 e128) ?_
  intro u129 e129
  refine HL.still (Runs.move e129) ?_
  intro u130 e130
  refine HL.oneG rfl rfl e130 (HO.call Tryd.func11 bd11 nm11 (args2 rfl rfl) rfl ((compare_is smK3 (by decide) (by decide)).mono ?_))
  rintro _ h13 ⟨rfl, X13⟩
  intro u131 e131
  refine HL.stillG rfl rfl e130 (Runs.eql e131 rfl (t := true) rfl) ?_
  intro u132 e132
  refine HL.still (Runs.pick e130 e132) ?_
  intro u133 e133
  refine HL.still (Runs.move e133) ?_
  intro u134 e134
  refine HL.oneG rfl rfl e134 (HO.call Tryd.func13 bd13 nm13 (args1 rfl) rfl ((parent_is smP0 (by decide)).mono ?_))
  rintro _ h14 ⟨rfl, X14⟩
  intro u135 e135
  refine HL.stillG rfl rfl e134 (Runs.eqS e135 rfl (ys := [97]) (t := true) rfl) ?_
  intro u136 e136
  refine HL.still (Runs.pick e134 e136) ?_
  intro u137 e137
  refine HL.still (Runs.move e137) ?_
  intro u138 e138
  refine HL.oneG rfl rfl e138 (HO.call Tryd.func13 bd13 nm13 (args1 rfl) rfl ((parent_is smP1 (by decide)).mono ?_))
  rintro _ h15 ⟨rfl, X15⟩
  intro u139 e139
  refine HL.stillG rfl rfl e138 (Runs.eqS e139 rfl (ys := []) (t := true) rfl) ?_
  intro u140 e140
  refine HL.still (Runs.pick e138 e140) ?_
  intro u141 e141
  refine HL.still (Runs.move e141) ?_
  intro u142 e142
  refine HL.oneG rfl rfl e142 (HO.call Tryd.func15 bd15 nm15 (args2 rfl rfl) rfl ((under_is smN0 (by decide)).mono ?_))
  rintro _ h16 ⟨rfl, X16⟩
  intro u143 e143
  refine HL.still (Runs.pick e142 e143) ?_
  intro u144 e144
  refine HL.still (Runs.move e144) ?_
  intro u145 e145
  refine HL.oneG rfl rfl e145 (HO.call Tryd.func15 bd15 nm15 (args2 rfl rfl) rfl ((under_is smN1 (by decide)).mono ?_))
  rintro _ h17 ⟨rfl, X17⟩
  intro u146 e146
  refine HL.stillG rfl rfl e145 (Runs.notb e146 (t := false) (u := true) rfl) ?_
  intro u147 e147
  refine HL.still (Runs.pick e145 e147) ?_
  intro u148 e148
  refine HL.still (Runs.move e148) ?_
  intro u149 e149
  refine HL.oneG rfl rfl e149 (HO.call Tryd.func15 bd15 nm15 (args2 rfl rfl) rfl ((under_is smN2 (by decide)).mono ?_))
  rintro _ h18 ⟨rfl, X18⟩
  intro u150 e150
  refine HL.still (Runs.pick e149 e150) ?_
  intro u151 e151
  refine HL.still (Runs.move e151) ?_
  intro u152 e152
  refine HL.oneG rfl rfl e152 (HO.call Tryd.func15 bd15 nm15 (args2 rfl rfl) rfl ((under_is smN3 (by decide)).mono ?_))
  rintro _ h19 ⟨rfl, X19⟩
  intro u153 e153
  refine HL.stillG rfl rfl e152 (Runs.notb e153 (t := false) (u := true) rfl) ?_
  intro u154 e154
  refine HL.still (Runs.pick e152 e154) ?_
  intro u155 e155
  refine HL.still (Runs.assign e155) ?_
  intro u0 e0
  refine HL.nil ?_
  have Y10 : Ext h h10 := Y9.ext X10 (Nat.le_refl _)
  have Y11 : Ext h h11 := Y10.ext X11 (Nat.le_refl _)
  have Y12 : Ext h h12 := Y11.ext X12 (Nat.le_refl _)
  have Y13 : Ext h h13 := Y12.ext X13 (Nat.le_refl _)
  have Y14 : Ext h h14 := Y13.ext X14 (Nat.le_refl _)
  have Y15 : Ext h h15 := Y14.ext X15 (Nat.le_refl _)
  have Y16 : Ext h h16 := Y15.ext X16 (Nat.le_refl _)
  have Y17 : Ext h h17 := Y16.ext X17 (Nat.le_refl _)
  have Y18 : Ext h h18 := Y17.ext X18 (Nat.le_refl _)
  have Y19 : Ext h h19 := Y18.ext X19 (Nat.le_refl _)
  refine HW.ret ?_
  exact RT.one rfl e0 ⟨rfl, Y19⟩
/-! ### The laws that compare -/
set_option maxRecDepth 10000 in
theorem lawMarks_ch (h : Heap) (a : Str) (n : Int) : CH Tryd.prog 4 #[S8 a, I64 n] h fun v h' => v = .bool true ∧ Ext h h' := by
  refine CH.of_body Tryd.func4 rfl rfl rfl ?_
  intro f hf
  have p0 : f 0 = S8 a := by rw [hf]; exact fr0_at rfl
  have p1 : f 1 = I64 n := by rw [hf]; exact fr0_at rfl
  -- region 0
  repeat refine HW.seq ?_
  refine HW.region ?_
  refine HL.still (Runs.assign rfl) ?_
  intro u4 e4
  refine HL.nil ?_
  -- region 1
  repeat refine HW.seq ?_
  refine HW.region ?_
  refine HL.one (HO.call Tryd.func8 bd8 nm8 (args0) rfl ((small_ch h).mono ?_))
  rintro _ h1 ⟨rfl, X1⟩
  intro u16 e16
  refine HL.still (Runs.assign e16) ?_
  intro u5 e5
  refine HL.nil ?_
  by_cases hl : a.length > 4200
  · skip
    -- region 2
    repeat refine HW.seq ?_
    refine HW.region ?_
    refine HL.still (Runs.move p0) ?_
    intro u17 e17
    refine HL.still (Runs.lenS rfl Tryd.underlying9 e17) ?_
    intro u18 e18
    refine HL.still (Runs.gtr e18 rfl (t := true) (decide_eq_true (by omega))) ?_
    intro u19 e19
    refine HL.nil ?_
    repeat refine HW.seq ?_
    refine HW.yes ?_ ?_
    exact e19
    -- region 3
    repeat refine HW.seq ?_
    refine HW.region ?_
    refine HL.still (Runs.move e5) ?_
    intro u20 e20
    refine HL.still (Runs.assign e20) ?_
    intro u4 e4
    refine HL.nil ?_
    refine HW.ret ?_
    exact RT.one rfl e4 ⟨rfl, X1⟩
  · skip
    -- region 2
    repeat refine HW.seq ?_
    refine HW.region ?_
    refine HL.still (Runs.move p0) ?_
    intro u17 e17
    refine HL.still (Runs.lenS rfl Tryd.underlying9 e17) ?_
    intro u18 e18
    refine HL.still (Runs.gtr e18 rfl (t := false) (decide_eq_false (by omega))) ?_
    intro u19 e19
    refine HL.nil ?_
    repeat refine HW.seq ?_
    refine HW.no ?_ ?_
    exact e19
    refine HW.skip ?_
    -- region 4
    repeat refine HW.seq ?_
    refine HW.region ?_
    refine HL.still (Runs.move p0) ?_
    intro u22 e22
    refine HL.one (HO.call Tryd.func17 bd17 nm17 (args1 e22) rfl ((mark_ch h1 a (by omega)).mono ?_))
    rintro _ h2 ⟨rfl, X2⟩
    intro u23 e23
    refine HL.still (Runs.move e23) ?_
    intro u21 e21
    refine HL.still (Runs.extr e21 rfl) ?_
    intro u24 e24
    refine HL.still (Runs.extr e21 rfl) ?_
    intro u25 e25
    refine HL.still (Runs.extr e21 rfl) ?_
    intro u26 e26
    refine HL.still (Runs.assign e24) ?_
    intro u6 e6
    refine HL.still (Runs.assign e25) ?_
    intro u7 e7
    refine HL.still (Runs.assign e26) ?_
    intro u8 e8
    refine HL.nil ?_
    -- region 5
    repeat refine HW.seq ?_
    refine HW.region ?_
    refine HL.still (Runs.move p0) ?_
    intro u28 e28
    refine HL.one (HO.call Tryd.func18 bd18 nm18 (args1 e28) rfl ((rmark_ch h2 a (by omega)).mono ?_))
    rintro _ h3 ⟨rfl, X3⟩
    intro u29 e29
    refine HL.still (Runs.move e29) ?_
    intro u27 e27
    refine HL.still (Runs.extr e27 rfl) ?_
    intro u30 e30
    refine HL.still (Runs.extr e27 rfl) ?_
    intro u31 e31
    refine HL.still (Runs.extr e27 rfl) ?_
    intro u32 e32
    refine HL.still (Runs.assign e30) ?_
    intro u9 e9
    refine HL.still (Runs.assign e31) ?_
    intro u10 e10
    refine HL.still (Runs.assign e32) ?_
    intro u11 e11
    refine HL.nil ?_
    -- region 6
    repeat refine HW.seq ?_
    refine HW.region ?_
    refine HL.still (Runs.move p1) ?_
    intro u34 e34
    refine HL.still (Runs.move p0) ?_
    intro u35 e35
    refine HL.one (HO.call Tryd.func19 bd19 nm19 (args2 e34 e35) rfl ((unmark_ch h3 n a (by omega)).mono ?_))
    rintro _ h4 ⟨rfl, X4⟩
    intro u36 e36
    refine HL.still (Runs.move e36) ?_
    intro u33 e33
    refine HL.still (Runs.extr e33 rfl) ?_
    intro u37 e37
    refine HL.still (Runs.extr e33 rfl) ?_
    intro u38 e38
    refine HL.still (Runs.assign e37) ?_
    intro u12 e12
    refine HL.still (Runs.assign e38) ?_
    intro u13 e13
    refine HL.nil ?_
    -- region 7
    repeat refine HW.seq ?_
    refine HW.region ?_
    refine HL.still (Runs.move p1) ?_
    intro u40 e40
    refine HL.still (Runs.move p0) ?_
    intro u41 e41
    refine HL.one (HO.call Tryd.func20 bd20 nm20 (args2 e40 e41) rfl ((runmark_ch h4 n a (by omega)).mono ?_))
    rintro _ h5 ⟨rfl, X5⟩
    intro u42 e42
    refine HL.still (Runs.move e42) ?_
    intro u39 e39
    refine HL.still (Runs.extr e39 rfl) ?_
    intro u43 e43
    refine HL.still (Runs.extr e39 rfl) ?_
    intro u44 e44
    refine HL.still (Runs.assign e43) ?_
    intro u14 e14
    refine HL.still (Runs.assign e44) ?_
    intro u15 e15
    refine HL.nil ?_
    have XA : Ext h h5 := (((X1.ext X2 (Nat.le_refl _)).ext X3 (Nat.le_refl _)).ext X4 (Nat.le_refl _)).ext X5 (Nat.le_refl _)
    have g6 : u6 = I64 (markO a).1 := e6
    have g7 : u7 = S8 (markO a).2.1 := e7
    have g8 : u8 = .bool (markO a).2.2 := e8
    have g9 : u9 = I64 (markO a).1 := e9
    have g10 : u10 = S8 (markO a).2.1 := e10
    have g11 : u11 = .bool (markO a).2.2 := e11
    have g12 : u12 = S8 (unmarkO n a).1 := e12
    have g13 : u13 = .bool (unmarkO n a).2 := e13
    have g14 : u14 = S8 (unmarkO n a).1 := e14
    have g15 : u15 = .bool (unmarkO n a).2 := e15
    -- region 8
    repeat refine HW.seq ?_
    refine HW.region ?_
    refine HL.still (Runs.move e5) ?_
    intro u45 e45
    refine HL.still (Runs.move e45) ?_
    intro u46 e46
    refine HL.stillG rfl rfl e46 (Runs.move g6) ?_
    intro u47 e47
    refine HL.stillG rfl rfl e46 (Runs.move g9) ?_
    intro u48 e48
    refine HL.stillG rfl rfl e46 (Runs.eql e47 e48 (t := true) (by simp)) ?_
    intro u49 e49
    refine HL.still (Runs.pick e46 e49) ?_
    intro u50 e50
    refine HL.still (Runs.move e50) ?_
    intro u51 e51
    refine HL.stillG rfl rfl e51 (Runs.move g7) ?_
    intro u52 e52
    refine HL.stillG rfl rfl e51 (Runs.move g10) ?_
    intro u53 e53
    refine HL.stillG rfl rfl e51 (Runs.eqS e52 e53 (t := true) (by simp)) ?_
    intro u54 e54
    refine HL.still (Runs.pick e51 e54) ?_
    intro u55 e55
    refine HL.still (Runs.move e55) ?_
    intro u56 e56
    refine HL.stillG rfl rfl e56 (Runs.move g8) ?_
    intro u57 e57
    refine HL.stillG rfl rfl e56 (Runs.move g11) ?_
    intro u58 e58
    refine HL.stillG rfl rfl e56 (Runs.eqB Tryd.underlying4 e57 e58 (b := true) (by simp)) ?_
    intro u59 e59
    refine HL.still (Runs.pick e56 e59) ?_
    intro u60 e60
    refine HL.still (Runs.move e60) ?_
    intro u61 e61
    refine HL.stillG rfl rfl e61 (Runs.move g12) ?_
    intro u62 e62
    refine HL.stillG rfl rfl e61 (Runs.move g14) ?_
    intro u63 e63
    refine HL.stillG rfl rfl e61 (Runs.eqS e62 e63 (t := true) (by simp)) ?_
    intro u64 e64
    refine HL.still (Runs.pick e61 e64) ?_
    intro u65 e65
    refine HL.still (Runs.move e65) ?_
    intro u66 e66
    refine HL.stillG rfl rfl e66 (Runs.move g13) ?_
    intro u67 e67
    refine HL.stillG rfl rfl e66 (Runs.move g15) ?_
    intro u68 e68
    refine HL.stillG rfl rfl e66 (Runs.eqB Tryd.underlying4 e67 e68 (b := true) (by simp)) ?_
    intro u69 e69
    refine HL.still (Runs.pick e66 e69) ?_
    intro u70 e70
    refine HL.still (Runs.assign e70) ?_
    intro u4 e4
    refine HL.nil ?_
    refine HW.ret ?_
    exact RT.one rfl e4 ⟨rfl, XA⟩
set_option maxRecDepth 10000 in
theorem lawTells_ch (h : Heap) (a b : Str) : CH Tryd.prog 3 #[S8 a, S8 b] h fun v h' => v = .bool true ∧ Ext h h' := by
  refine CH.of_body Tryd.func3 rfl rfl rfl ?_
  intro f hf
  have p0 : f 0 = S8 a := by rw [hf]; exact fr0_at rfl
  have p1 : f 1 = S8 b := by rw [hf]; exact fr0_at rfl
  -- region 0
  repeat refine HW.seq ?_
  refine HW.region ?_
  refine HL.still (Runs.assign rfl) ?_
  intro u4 e4
  refine HL.nil ?_
  -- region 1
  repeat refine HW.seq ?_
  refine HW.region ?_
  refine HL.one (HO.call Tryd.func8 bd8 nm8 (args0) rfl ((small_ch h).mono ?_))
  rintro _ h1 ⟨rfl, X1⟩
  intro u10 e10
  refine HL.still (Runs.assign e10) ?_
  intro u5 e5
  refine HL.nil ?_
  by_cases hl : a.length > 4200
  · skip
    -- region 2
    repeat refine HW.seq ?_
    refine HW.region ?_
    refine HL.still (Runs.move p0) ?_
    intro u11 e11
    refine HL.still (Runs.lenS rfl Tryd.underlying9 e11) ?_
    intro u12 e12
    refine HL.still (Runs.gtr e12 rfl (t := true) (decide_eq_true (by omega))) ?_
    intro u13 e13
    refine HL.still (Runs.move e13) ?_
    intro u14 e14
    refine HL.skipG rfl rfl e14 ?_
    intro u15 e15
    refine HL.skipG rfl rfl e14 ?_
    intro u16 e16
    refine HL.skipG rfl rfl e14 ?_
    intro u17 e17
    refine HL.still (Runs.pick e14 rfl) ?_
    intro u18 e18
    refine HL.nil ?_
    repeat refine HW.seq ?_
    refine HW.yes ?_ ?_
    exact e18
    -- region 3
    repeat refine HW.seq ?_
    refine HW.region ?_
    refine HL.still (Runs.move e5) ?_
    intro u19 e19
    refine HL.still (Runs.assign e19) ?_
    intro u4 e4
    refine HL.nil ?_
    refine HW.ret ?_
    exact RT.one rfl e4 ⟨rfl, X1⟩
  by_cases hm : b.length > 500
  · skip
    -- region 2
    repeat refine HW.seq ?_
    refine HW.region ?_
    refine HL.still (Runs.move p0) ?_
    intro u11 e11
    refine HL.still (Runs.lenS rfl Tryd.underlying9 e11) ?_
    intro u12 e12
    refine HL.still (Runs.gtr e12 rfl (t := false) (decide_eq_false (by omega))) ?_
    intro u13 e13
    refine HL.still (Runs.move e13) ?_
    intro u14 e14
    refine HL.stillG rfl rfl e14 (Runs.move p1) ?_
    intro u15 e15
    refine HL.stillG rfl rfl e14 (Runs.lenS rfl Tryd.underlying9 e15) ?_
    intro u16 e16
    refine HL.stillG rfl rfl e14 (Runs.gtr e16 rfl (t := true) (decide_eq_true (by omega))) ?_
    intro u17 e17
    refine HL.still (Runs.pick e14 e17) ?_
    intro u18 e18
    refine HL.nil ?_
    repeat refine HW.seq ?_
    refine HW.yes ?_ ?_
    exact e18
    -- region 3
    repeat refine HW.seq ?_
    refine HW.region ?_
    refine HL.still (Runs.move e5) ?_
    intro u19 e19
    refine HL.still (Runs.assign e19) ?_
    intro u4 e4
    refine HL.nil ?_
    refine HW.ret ?_
    exact RT.one rfl e4 ⟨rfl, X1⟩
  -- region 2
  repeat refine HW.seq ?_
  refine HW.region ?_
  refine HL.still (Runs.move p0) ?_
  intro u11 e11
  refine HL.still (Runs.lenS rfl Tryd.underlying9 e11) ?_
  intro u12 e12
  refine HL.still (Runs.gtr e12 rfl (t := false) (decide_eq_false (by omega))) ?_
  intro u13 e13
  refine HL.still (Runs.move e13) ?_
  intro u14 e14
  refine HL.stillG rfl rfl e14 (Runs.move p1) ?_
  intro u15 e15
  refine HL.stillG rfl rfl e14 (Runs.lenS rfl Tryd.underlying9 e15) ?_
  intro u16 e16
  refine HL.stillG rfl rfl e14 (Runs.gtr e16 rfl (t := false) (decide_eq_false (by omega))) ?_
  intro u17 e17
  refine HL.still (Runs.pick e14 e17) ?_
  intro u18 e18
  refine HL.nil ?_
  repeat refine HW.seq ?_
  refine HW.no ?_ ?_
  exact e18
  refine HW.skip ?_
  -- region 4
  repeat refine HW.seq ?_
  refine HW.region ?_
  refine HL.still (Runs.move p0) ?_
  intro u21 e21
  refine HL.one (HO.call Tryd.func9 bd9 nm9 (args1 e21) rfl ((clean_ch h1 a (by omega)).mono ?_))
  rintro _ h2 ⟨rfl, X2⟩
  intro u22 e22
  refine HL.still (Runs.move e22) ?_
  intro u20 e20
  refine HL.still (Runs.extr e20 rfl) ?_
  intro u23 e23
  refine HL.still (Runs.extr e20 rfl) ?_
  intro u24 e24
  refine HL.still (Runs.assign e23) ?_
  intro u6 e6
  refine HL.still (Runs.assign e24) ?_
  intro u7 e7
  refine HL.nil ?_
  -- region 5
  repeat refine HW.seq ?_
  refine HW.region ?_
  refine HL.still (Runs.move p0) ?_
  intro u26 e26
  refine HL.one (HO.call Tryd.func10 bd10 nm10 (args1 e26) rfl ((rclean_ch h2 a (by omega)).mono ?_))
  rintro _ h3 ⟨rfl, X3⟩
  intro u27 e27
  refine HL.still (Runs.move e27) ?_
  intro u25 e25
  refine HL.still (Runs.extr e25 rfl) ?_
  intro u28 e28
  refine HL.still (Runs.extr e25 rfl) ?_
  intro u29 e29
  refine HL.still (Runs.assign e28) ?_
  intro u8 e8
  refine HL.still (Runs.assign e29) ?_
  intro u9 e9
  refine HL.nil ?_
  have XA : Ext h h3 := (X1.ext X2 (Nat.le_refl _)).ext X3 (Nat.le_refl _)
  have g6 : u6 = S8 (cleanO a).1 := e6
  have g7 : u7 = .bool (cleanO a).2 := e7
  have g8 : u8 = S8 (cleanO a).1 := e8
  have g9 : u9 = .bool (cleanO a).2 := e9
  -- region 6
  repeat refine HW.seq ?_
  refine HW.region ?_
  refine HL.still (Runs.move e5) ?_
  intro u30 e30
  refine HL.still (Runs.move e30) ?_
  intro u31 e31
  refine HL.stillG rfl rfl e31 (Runs.move g6) ?_
  intro u32 e32
  refine HL.stillG rfl rfl e31 (Runs.move g8) ?_
  intro u33 e33
  refine HL.stillG rfl rfl e31 (Runs.eqS e32 e33 (t := true) (by simp)) ?_
  intro u34 e34
  refine HL.still (Runs.pick e31 e34) ?_
  intro u35 e35
  refine HL.still (Runs.move e35) ?_
  intro u36 e36
  refine HL.stillG rfl rfl e36 (Runs.move g7) ?_
  intro u37 e37
  refine HL.stillG rfl rfl e36 (Runs.move g9) ?_
  intro u38 e38
  refine HL.stillG rfl rfl e36 (Runs.eqB Tryd.underlying4 e37 e38 (b := true) (by simp)) ?_
  intro u39 e39
  refine HL.still (Runs.pick e36 e39) ?_
  intro u40 e40
  refine HL.still (Runs.move e40) ?_
  intro u41 e41
  refine HL.stillG rfl rfl e41 (Runs.move p0) ?_
  intro u42 e42
  refine HL.stillG rfl rfl e41 (Runs.move p1) ?_
  intro u43 e43
  refine HL.oneG rfl rfl e41 (HO.call Tryd.func11 bd11 nm11 (args2 e42 e43) rfl ((compare_ch h3 a b (by omega) (by omega)).mono ?_))
  rintro _ h4 ⟨rfl, X4⟩
  intro u44 e44
  refine HL.stillG rfl rfl e41 (Runs.move p0) ?_
  intro u45 e45
  refine HL.stillG rfl rfl e41 (Runs.move p1) ?_
  intro u46 e46
  refine HL.oneG rfl rfl e41 (HO.call Tryd.func12 bd12 nm12 (args2 e45 e46) rfl ((rcompare_ch h4 a b (by omega) (by omega)).mono ?_))
  rintro _ h5 ⟨rfl, X5⟩
  intro u47 e47
  refine HL.stillG rfl rfl e41 (Runs.eql e44 e47 (t := true) (by simp)) ?_
  intro u48 e48
  refine HL.still (Runs.pick e41 e48) ?_
  intro u49 e49
  refine HL.still (Runs.move e49) ?_
  intro u50 e50
  refine HL.stillG rfl rfl e50 (Runs.move p1) ?_
  intro u51 e51
  refine HL.stillG rfl rfl e50 (Runs.move p0) ?_
  intro u52 e52
  refine HL.oneG rfl rfl e50 (HO.call Tryd.func11 bd11 nm11 (args2 e51 e52) rfl ((compare_ch h5 b a (by omega) (by omega)).mono ?_))
  rintro _ h6 ⟨rfl, X6⟩
  intro u53 e53
  refine HL.stillG rfl rfl e50 (Runs.move p1) ?_
  intro u54 e54
  refine HL.stillG rfl rfl e50 (Runs.move p0) ?_
  intro u55 e55
  refine HL.oneG rfl rfl e50 (HO.call Tryd.func12 bd12 nm12 (args2 e54 e55) rfl ((rcompare_ch h6 b a (by omega) (by omega)).mono ?_))
  rintro _ h7 ⟨rfl, X7⟩
  intro u56 e56
  refine HL.stillG rfl rfl e50 (Runs.eql e53 e56 (t := true) (by simp)) ?_
  intro u57 e57
  refine HL.still (Runs.pick e50 e57) ?_
  intro u58 e58
  refine HL.still (Runs.move e58) ?_
  intro u59 e59
  refine HL.stillG rfl rfl e59 (Runs.move p0) ?_
  intro u60 e60
  refine HL.oneG rfl rfl e59 (HO.call Tryd.func13 bd13 nm13 (args1 e60) rfl ((parent_ch h7 a (by omega)).mono ?_))
  rintro _ h8 ⟨rfl, X8⟩
  intro u61 e61
  refine HL.stillG rfl rfl e59 (Runs.move p0) ?_
  intro u62 e62
  refine HL.oneG rfl rfl e59 (HO.call Tryd.func14 bd14 nm14 (args1 e62) rfl ((rparent_ch h8 a (by omega)).mono ?_))
  rintro _ h9 ⟨rfl, X9⟩
  intro u63 e63
  refine HL.stillG rfl rfl e59 (Runs.eqS e61 e63 (t := true) (by simp)) ?_
  intro u64 e64
  refine HL.still (Runs.pick e59 e64) ?_
  intro u65 e65
  refine HL.still (Runs.move e65) ?_
  intro u66 e66
  refine HL.stillG rfl rfl e66 (Runs.move p0) ?_
  intro u67 e67
  refine HL.stillG rfl rfl e66 (Runs.move p1) ?_
  intro u68 e68
  refine HL.oneG rfl rfl e66 (HO.call Tryd.func15 bd15 nm15 (args2 e67 e68) rfl ((under_ch h9 a b (by omega)).mono ?_))
  rintro _ h10 ⟨rfl, X10⟩
  intro u69 e69
  refine HL.stillG rfl rfl e66 (Runs.move p0) ?_
  intro u70 e70
  refine HL.stillG rfl rfl e66 (Runs.move p1) ?_
  intro u71 e71
  refine HL.oneG rfl rfl e66 (HO.call Tryd.func16 bd16 nm16 (args2 e70 e71) rfl ((runder_ch h10 a b (by omega)).mono ?_))
  rintro _ h11 ⟨rfl, X11⟩
  intro u72 e72
  refine HL.stillG rfl rfl e66 (Runs.eqB Tryd.underlying4 e69 e72 (b := true) (by simp)) ?_
  intro u73 e73
  refine HL.still (Runs.pick e66 e73) ?_
  intro u74 e74
  refine HL.still (Runs.move e74) ?_
  intro u75 e75
  refine HL.stillG rfl rfl e75 (Runs.move p1) ?_
  intro u76 e76
  refine HL.stillG rfl rfl e75 (Runs.move p0) ?_
  intro u77 e77
  refine HL.oneG rfl rfl e75 (HO.call Tryd.func15 bd15 nm15 (args2 e76 e77) rfl ((under_ch h11 b a (by omega)).mono ?_))
  rintro _ h12 ⟨rfl, X12⟩
  intro u78 e78
  refine HL.stillG rfl rfl e75 (Runs.move p1) ?_
  intro u79 e79
  refine HL.stillG rfl rfl e75 (Runs.move p0) ?_
  intro u80 e80
  refine HL.oneG rfl rfl e75 (HO.call Tryd.func16 bd16 nm16 (args2 e79 e80) rfl ((runder_ch h12 b a (by omega)).mono ?_))
  rintro _ h13 ⟨rfl, X13⟩
  intro u81 e81
  refine HL.stillG rfl rfl e75 (Runs.eqB Tryd.underlying4 e78 e81 (b := true) (by simp)) ?_
  intro u82 e82
  refine HL.still (Runs.pick e75 e82) ?_
  intro u83 e83
  refine HL.still (Runs.assign e83) ?_
  intro u4 e4
  refine HL.nil ?_
  refine HW.ret ?_
  refine RT.one rfl e4 ⟨rfl, ?_⟩
  rw [X13, X12, X11, X10]
  rw [X8] at X9
  exact ((((XA.ext X4 (Nat.le_refl _)).ext X5 (Nat.le_refl _)).ext X6 (Nat.le_refl _)).ext X7 (Nat.le_refl _)).ext X9 (Nat.le_refl _)
end Go.Proofs.YtfnippeemboljaaDoor
