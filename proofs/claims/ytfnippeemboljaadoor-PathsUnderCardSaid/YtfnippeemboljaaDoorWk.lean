/- PathsOrder, PathsUnder: the walks. -/
import Derived.Test.YtfnippeemboljaaDoorWi
import Derived.Test.YtfnippeemboljaaDoorPy
namespace Go.Proofs.YtfnippeemboljaaDoor
set_option linter.unnecessarySimpa false
set_option linter.unusedSimpArgs false
set_option linter.unusedVariables false
open Go.RowKit
theorem clean_le (a : Str) : (cleanO a).1.length ≤ a.length := by
  have h1 := cleanP_le a
  unfold cleanO
  split
  · exact h1
  · exact Nat.zero_le _
set_option maxRecDepth 10000 in
theorem order_clean (h : Heap) (a b c p q r : Str) (hla : a.length ≤ 500) (hlb : b.length ≤ 500) (hlc : c.length ≤ 500) (hp : cleanO a = (p, true)) (hq : cleanO b = (q, true)) (hr : cleanO c = (r, true)) : CH Tryd.prog 6 #[S8 a, S8 b, S8 c] h fun v h' => v = .bool true ∧ Ext h h' := by
  have lp : p.length ≤ 10000 := by have := clean_le a; rw [hp] at this; exact Nat.le_trans this (by omega)
  have lq : q.length ≤ 10000 := by have := clean_le b; rw [hq] at this; exact Nat.le_trans this (by omega)
  have lr : r.length ≤ 10000 := by have := clean_le c; rw [hr] at this; exact Nat.le_trans this (by omega)
  have ip : p ≠ [] := by have := isPath_ne (clean_ok (s := a) (by rw [hp])); rw [hp] at this; exact this
  have iq : q ≠ [] := by have := isPath_ne (clean_ok (s := b) (by rw [hq])); rw [hq] at this; exact this
  have ir : r ≠ [] := by have := isPath_ne (clean_ok (s := c) (by rw [hr])); rw [hr] at this; exact this
  refine CH.of_body Tryd.func6 rfl rfl rfl ?_
  intro f hf
  have p0 : f 0 = S8 a := by rw [hf]; exact fr0_at rfl
  have p1 : f 1 = S8 b := by rw [hf]; exact fr0_at rfl
  have p2 : f 2 = S8 c := by rw [hf]; exact fr0_at rfl
  -- region 0
  repeat refine HW.seq ?_
  refine HW.region ?_
  refine HL.still (Runs.assign rfl) ?_
  intro u6 e6
  refine HL.nil ?_
  -- region 1
  repeat refine HW.seq ?_
  refine HW.region ?_
  refine HL.one (HO.call Tryd.func8 bd8 nm8 (args0) rfl ((small_ch h).mono ?_))
  rintro _ h1 ⟨rfl, X1⟩
  intro u16 e16
  refine HL.still (Runs.assign e16) ?_
  intro u7 e7
  refine HL.nil ?_
  -- region 2
  repeat refine HW.seq ?_
  refine HW.region ?_
  refine HL.still (Runs.move p0) ?_
  intro u17 e17
  refine HL.still (Runs.lenS rfl Tryd.underlying9 e17) ?_
  intro u18 e18
  refine HL.still (Runs.gtr e18 rfl (t := false) (decide_eq_false (by omega))) ?_
  intro u19 e19
  refine HL.still (Runs.move e19) ?_
  intro u20 e20
  refine HL.stillG rfl rfl e20 (Runs.move p1) ?_
  intro u21 e21
  refine HL.stillG rfl rfl e20 (Runs.lenS rfl Tryd.underlying9 e21) ?_
  intro u22 e22
  refine HL.stillG rfl rfl e20 (Runs.gtr e22 rfl (t := false) (decide_eq_false (by omega))) ?_
  intro u23 e23
  refine HL.still (Runs.pick e20 e23) ?_
  intro u24 e24
  refine HL.still (Runs.move e24) ?_
  intro u25 e25
  refine HL.stillG rfl rfl e25 (Runs.move p2) ?_
  intro u26 e26
  refine HL.stillG rfl rfl e25 (Runs.lenS rfl Tryd.underlying9 e26) ?_
  intro u27 e27
  refine HL.stillG rfl rfl e25 (Runs.gtr e27 rfl (t := false) (decide_eq_false (by omega))) ?_
  intro u28 e28
  refine HL.still (Runs.pick e25 e28) ?_
  intro u29 e29
  refine HL.nil ?_
  repeat refine HW.seq ?_
  refine HW.no ?_ ?_
  exact e29
  refine HW.skip ?_
  -- region 4
  repeat refine HW.seq ?_
  refine HW.region ?_
  refine HL.still (Runs.move p0) ?_
  intro u32 e32
  refine HL.one (HO.call Tryd.func9 bd9 nm9 (args1 e32) rfl ((clean_is hp (by omega)).mono ?_))
  rintro _ h2 ⟨rfl, X2⟩
  intro u33 e33
  refine HL.still (Runs.move e33) ?_
  intro u31 e31
  refine HL.still (Runs.extr e31 rfl) ?_
  intro u34 e34
  refine HL.still (Runs.extr e31 rfl) ?_
  intro u35 e35
  refine HL.still (Runs.assign e34) ?_
  intro u8 e8
  refine HL.still (Runs.assign e35) ?_
  intro u9 e9
  refine HL.nil ?_
  -- region 5
  repeat refine HW.seq ?_
  refine HW.region ?_
  refine HL.still (Runs.move p1) ?_
  intro u37 e37
  refine HL.one (HO.call Tryd.func9 bd9 nm9 (args1 e37) rfl ((clean_is hq (by omega)).mono ?_))
  rintro _ h3 ⟨rfl, X3⟩
  intro u38 e38
  refine HL.still (Runs.move e38) ?_
  intro u36 e36
  refine HL.still (Runs.extr e36 rfl) ?_
  intro u39 e39
  refine HL.still (Runs.extr e36 rfl) ?_
  intro u40 e40
  refine HL.still (Runs.assign e39) ?_
  intro u10 e10
  refine HL.still (Runs.assign e40) ?_
  intro u11 e11
  refine HL.nil ?_
  -- region 6
  repeat refine HW.seq ?_
  refine HW.region ?_
  refine HL.still (Runs.move p2) ?_
  intro u42 e42
  refine HL.one (HO.call Tryd.func9 bd9 nm9 (args1 e42) rfl ((clean_is hr (by omega)).mono ?_))
  rintro _ h4 ⟨rfl, X4⟩
  intro u43 e43
  refine HL.still (Runs.move e43) ?_
  intro u41 e41
  refine HL.still (Runs.extr e41 rfl) ?_
  intro u44 e44
  refine HL.still (Runs.extr e41 rfl) ?_
  intro u45 e45
  refine HL.still (Runs.assign e44) ?_
  intro u12 e12
  refine HL.still (Runs.assign e45) ?_
  intro u13 e13
  refine HL.nil ?_
  have XA : Ext h h4 := ((X1.ext X2 (Nat.le_refl _)).ext X3 (Nat.le_refl _)).ext X4 (Nat.le_refl _)
  have g8 : u8 = S8 p := e8
  have g9 : u9 = .bool true := e9
  have g10 : u10 = S8 q := e10
  have g11 : u11 = .bool true := e11
  have g12 : u12 = S8 r := e12
  have g13 : u13 = .bool true := e13
  clear e8 e9 e10 e11 e12 e13
  -- region 7
  repeat refine HW.seq ?_
  refine HW.region ?_
  refine HL.still (Runs.move g9) ?_
  intro u46 e46
  refine HL.still (Runs.notb e46 (t := true) (u := false) rfl) ?_
  intro u47 e47
  refine HL.still (Runs.move e47) ?_
  intro u48 e48
  refine HL.stillG rfl rfl e48 (Runs.move g11) ?_
  intro u49 e49
  refine HL.stillG rfl rfl e48 (Runs.notb e49 (t := true) (u := false) rfl) ?_
  intro u50 e50
  refine HL.still (Runs.pick e48 e50) ?_
  intro u51 e51
  refine HL.still (Runs.move e51) ?_
  intro u52 e52
  refine HL.stillG rfl rfl e52 (Runs.move g13) ?_
  intro u53 e53
  refine HL.stillG rfl rfl e52 (Runs.notb e53 (t := true) (u := false) rfl) ?_
  intro u54 e54
  refine HL.still (Runs.pick e52 e54) ?_
  intro u55 e55
  refine HL.nil ?_
  repeat refine HW.seq ?_
  refine HW.no ?_ ?_
  exact e55
  refine HW.skip ?_
  obtain ⟨x, hx⟩ : ∃ x, x = compareO p q := ⟨_, rfl⟩
  obtain ⟨y, hy⟩ : ∃ y, y = compareO q r := ⟨_, rfl⟩
  obtain ⟨z, hz⟩ : ∃ z, z = compareO p r := ⟨_, rfl⟩
  obtain ⟨x', hx'⟩ : ∃ x', x' = compareO q p := ⟨_, rfl⟩
  have vx' : -1 ≤ compareO q p ∧ compareO q p ≤ 1 := by rcases compareO_val q p with e | e | e <;> rw [e] <;> decide
  have ha := compareO_anti p q
  have ht := compareO_trans (a := p) (b := q) (c := r)
  have he := compareO_eq p q
  have hu1 : underO p r = true → z < 0 := fun k => by rw [hz]; exact under_less ip k
  have hu2 := under_mid (r := r) ip iq
  rw [← hx] at ha ht he hu2
  rw [← hy] at ht hu2
  rw [← hz] at ht
  rw [← hx'] at vx' ha
  have he0 : (x == 0) = (p == q) := he
  obtain ⟨d, hd⟩ : ∃ d, d = (p == q) := ⟨_, rfl⟩
  -- region 9
  repeat refine HW.seq ?_
  refine HW.region ?_
  refine HL.still (Runs.move g8) ?_
  intro u57 e57
  refine HL.still (Runs.move g10) ?_
  intro u58 e58
  refine HL.one (HO.call Tryd.func11 bd11 nm11 (args2 e57 e58) rfl ((compare_is hx.symm lp lq).mono ?_))
  rintro _ h5 ⟨rfl, X5⟩
  intro u59 e59
  refine HL.still (Runs.assign e59) ?_
  intro u14 e14
  refine HL.nil ?_
  -- region 10
  repeat refine HW.seq ?_
  refine HW.region ?_
  refine HL.still (Runs.move g10) ?_
  intro u60 e60
  refine HL.still (Runs.move g12) ?_
  intro u61 e61
  refine HL.one (HO.call Tryd.func11 bd11 nm11 (args2 e60 e61) rfl ((compare_is hy.symm lq lr).mono ?_))
  rintro _ h6 ⟨rfl, X6⟩
  intro u62 e62
  refine HL.still (Runs.assign e62) ?_
  intro u15 e15
  refine HL.nil ?_
  have XB : Ext h h6 := (XA.ext X5 (Nat.le_refl _)).ext X6 (Nat.le_refl _)
  repeat refine HW.seq ?_
  refine HW.mono (N := fun f' g => Ext h g ∧ f' 7 = .bool true ∧ f' 8 = S8 p ∧ f' 10 = S8 q ∧ f' 12 = S8 r ∧ f' 14 = I64 x ∧ f' 15 = I64 y ∧ f' 90 = .bool false) ?_ ?_ (fun _ _ _ h => h) (fun _ _ h => h)
  · by_cases q1 : x < 0
    · by_cases q2 : y < 0
      · have q3 := ht q1 q2
        -- region 11
        repeat refine HW.seq ?_
        refine HW.region ?_
        refine HL.still (Runs.move e14) ?_
        intro u63 e63
        refine HL.still (Runs.move g10) ?_
        intro u64 e64
        refine HL.still (Runs.move g8) ?_
        intro u65 e65
        refine HL.one (HO.call Tryd.func11 bd11 nm11 (args2 e64 e65) rfl ((compare_is hx'.symm lq lp).mono ?_))
        rintro _ h7 ⟨rfl, X7⟩
        intro u66 e66
        refine HL.still (Runs.neg e66 (i64w (by omega))) ?_
        intro u67 e67
        refine HL.still (Runs.neq e63 e67 (t := false) (by rw [ha]; simp)) ?_
        intro u68 e68
        refine HL.still (Runs.move e68) ?_
        intro u69 e69
        refine HL.stillG rfl rfl e69 (Runs.move e14) ?_
        intro u70 e70
        refine HL.stillG rfl rfl e69 (Runs.eql e70 rfl (t := d) (he.trans hd.symm)) ?_
        intro u71 e71
        refine HL.stillG rfl rfl e69 (Runs.move g8) ?_
        intro u72 e72
        refine HL.stillG rfl rfl e69 (Runs.move g10) ?_
        intro u73 e73
        refine HL.stillG rfl rfl e69 (Runs.eqS e72 e73 (t := d) hd.symm) ?_
        intro u74 e74
        refine HL.stillG rfl rfl e69 (Runs.neqB Tryd.underlying4 e71 e74 (b := false) (by cases d <;> rfl)) ?_
        intro u75 e75
        refine HL.still (Runs.pick e69 e75) ?_
        intro u76 e76
        refine HL.still (Runs.move e76) ?_
        intro u77 e77
        refine HL.stillG rfl rfl e77 (Runs.move e14) ?_
        intro u78 e78
        refine HL.stillG rfl rfl e77 (Runs.lss e78 rfl (t := true) (decide_eq_true q1)) ?_
        intro u79 e79
        refine HL.stillG rfl rfl e77 (Runs.move e79) ?_
        intro u80 e80
        refine HL.stillG rfl rfl e80 (Runs.move e15) ?_
        intro u81 e81
        refine HL.stillG rfl rfl e80 (Runs.lss e81 rfl (t := true) (decide_eq_true q2)) ?_
        intro u82 e82
        refine HL.stillG rfl rfl e77 (Runs.pick e80 e82) ?_
        intro u83 e83
        refine HL.stillG rfl rfl e77 (Runs.move e83) ?_
        intro u84 e84
        refine HL.stillG rfl rfl e84 (Runs.move g8) ?_
        intro u85 e85
        refine HL.stillG rfl rfl e84 (Runs.move g12) ?_
        intro u86 e86
        refine HL.oneG rfl rfl e84 (HO.call Tryd.func11 bd11 nm11 (args2 e85 e86) rfl ((compare_is hz.symm lp lr).mono ?_))
        rintro _ h8 ⟨rfl, X8⟩
        intro u87 e87
        refine HL.stillG rfl rfl e84 (Runs.geq e87 rfl (t := false) (decide_eq_false (by omega))) ?_
        intro u88 e88
        refine HL.stillG rfl rfl e77 (Runs.pick e84 e88) ?_
        intro u89 e89
        refine HL.still (Runs.pick e77 e89) ?_
        intro u90 e90
        refine HL.nil ?_
        exact ⟨(XB.ext X7 (Nat.le_refl _)).ext X8 (Nat.le_refl _), e7, g8, g10, g12, e14, e15, e90⟩
      · skip
        -- region 11
        repeat refine HW.seq ?_
        refine HW.region ?_
        refine HL.still (Runs.move e14) ?_
        intro u63 e63
        refine HL.still (Runs.move g10) ?_
        intro u64 e64
        refine HL.still (Runs.move g8) ?_
        intro u65 e65
        refine HL.one (HO.call Tryd.func11 bd11 nm11 (args2 e64 e65) rfl ((compare_is hx'.symm lq lp).mono ?_))
        rintro _ h7 ⟨rfl, X7⟩
        intro u66 e66
        refine HL.still (Runs.neg e66 (i64w (by omega))) ?_
        intro u67 e67
        refine HL.still (Runs.neq e63 e67 (t := false) (by rw [ha]; simp)) ?_
        intro u68 e68
        refine HL.still (Runs.move e68) ?_
        intro u69 e69
        refine HL.stillG rfl rfl e69 (Runs.move e14) ?_
        intro u70 e70
        refine HL.stillG rfl rfl e69 (Runs.eql e70 rfl (t := d) (he.trans hd.symm)) ?_
        intro u71 e71
        refine HL.stillG rfl rfl e69 (Runs.move g8) ?_
        intro u72 e72
        refine HL.stillG rfl rfl e69 (Runs.move g10) ?_
        intro u73 e73
        refine HL.stillG rfl rfl e69 (Runs.eqS e72 e73 (t := d) hd.symm) ?_
        intro u74 e74
        refine HL.stillG rfl rfl e69 (Runs.neqB Tryd.underlying4 e71 e74 (b := false) (by cases d <;> rfl)) ?_
        intro u75 e75
        refine HL.still (Runs.pick e69 e75) ?_
        intro u76 e76
        refine HL.still (Runs.move e76) ?_
        intro u77 e77
        refine HL.stillG rfl rfl e77 (Runs.move e14) ?_
        intro u78 e78
        refine HL.stillG rfl rfl e77 (Runs.lss e78 rfl (t := true) (decide_eq_true q1)) ?_
        intro u79 e79
        refine HL.stillG rfl rfl e77 (Runs.move e79) ?_
        intro u80 e80
        refine HL.stillG rfl rfl e80 (Runs.move e15) ?_
        intro u81 e81
        refine HL.stillG rfl rfl e80 (Runs.lss e81 rfl (t := false) (decide_eq_false q2)) ?_
        intro u82 e82
        refine HL.stillG rfl rfl e77 (Runs.pick e80 e82) ?_
        intro u83 e83
        refine HL.stillG rfl rfl e77 (Runs.move e83) ?_
        intro u84 e84
        refine HL.skipG rfl rfl e84 ?_
        intro u85 e85
        refine HL.skipG rfl rfl e84 ?_
        intro u86 e86
        refine HL.skipG rfl rfl e84 ?_
        intro u87 e87
        refine HL.skipG rfl rfl e84 ?_
        intro u88 e88
        refine HL.stillG rfl rfl e77 (Runs.pick e84 rfl) ?_
        intro u89 e89
        refine HL.still (Runs.pick e77 e89) ?_
        intro u90 e90
        refine HL.nil ?_
        exact ⟨XB.ext X7 (Nat.le_refl _), e7, g8, g10, g12, e14, e15, e90⟩
    · skip
      -- region 11
      repeat refine HW.seq ?_
      refine HW.region ?_
      refine HL.still (Runs.move e14) ?_
      intro u63 e63
      refine HL.still (Runs.move g10) ?_
      intro u64 e64
      refine HL.still (Runs.move g8) ?_
      intro u65 e65
      refine HL.one (HO.call Tryd.func11 bd11 nm11 (args2 e64 e65) rfl ((compare_is hx'.symm lq lp).mono ?_))
      rintro _ h7 ⟨rfl, X7⟩
      intro u66 e66
      refine HL.still (Runs.neg e66 (i64w (by omega))) ?_
      intro u67 e67
      refine HL.still (Runs.neq e63 e67 (t := false) (by rw [ha]; simp)) ?_
      intro u68 e68
      refine HL.still (Runs.move e68) ?_
      intro u69 e69
      refine HL.stillG rfl rfl e69 (Runs.move e14) ?_
      intro u70 e70
      refine HL.stillG rfl rfl e69 (Runs.eql e70 rfl (t := d) (he.trans hd.symm)) ?_
      intro u71 e71
      refine HL.stillG rfl rfl e69 (Runs.move g8) ?_
      intro u72 e72
      refine HL.stillG rfl rfl e69 (Runs.move g10) ?_
      intro u73 e73
      refine HL.stillG rfl rfl e69 (Runs.eqS e72 e73 (t := d) hd.symm) ?_
      intro u74 e74
      refine HL.stillG rfl rfl e69 (Runs.neqB Tryd.underlying4 e71 e74 (b := false) (by cases d <;> rfl)) ?_
      intro u75 e75
      refine HL.still (Runs.pick e69 e75) ?_
      intro u76 e76
      refine HL.still (Runs.move e76) ?_
      intro u77 e77
      refine HL.stillG rfl rfl e77 (Runs.move e14) ?_
      intro u78 e78
      refine HL.stillG rfl rfl e77 (Runs.lss e78 rfl (t := false) (decide_eq_false q1)) ?_
      intro u79 e79
      refine HL.stillG rfl rfl e77 (Runs.move e79) ?_
      intro u80 e80
      refine HL.skipG rfl rfl e80 ?_
      intro u81 e81
      refine HL.skipG rfl rfl e80 ?_
      intro u82 e82
      refine HL.stillG rfl rfl e77 (Runs.pick e80 rfl) ?_
      intro u83 e83
      refine HL.stillG rfl rfl e77 (Runs.move e83) ?_
      intro u84 e84
      refine HL.skipG rfl rfl e84 ?_
      intro u85 e85
      refine HL.skipG rfl rfl e84 ?_
      intro u86 e86
      refine HL.skipG rfl rfl e84 ?_
      intro u87 e87
      refine HL.skipG rfl rfl e84 ?_
      intro u88 e88
      refine HL.stillG rfl rfl e77 (Runs.pick e84 rfl) ?_
      intro u89 e89
      refine HL.still (Runs.pick e77 e89) ?_
      intro u90 e90
      refine HL.nil ?_
      exact ⟨XB.ext X7 (Nat.le_refl _), e7, g8, g10, g12, e14, e15, e90⟩
  clear e7 g8 g10 g12 e14 e15 p0 p1 p2
  rintro f g ⟨XG, f7, f8, f10, f12, f14, f15, f90⟩
  refine HW.no f90 ?_
  refine HW.skip ?_
  cases hpr : underO p r with
  | false =>
    -- region 13
    repeat refine HW.seq ?_
    refine HW.region ?_
    refine HL.still (Runs.move f8) ?_
    intro u91 e91
    refine HL.still (Runs.move f12) ?_
    intro u92 e92
    refine HL.one (HO.call Tryd.func15 bd15 nm15 (args2 e91 e92) rfl ((under_is hpr lp).mono ?_))
    rintro _ h7 ⟨rfl, X7⟩
    intro u93 e93
    refine HL.still (Runs.move e93) ?_
    intro u94 e94
    refine HL.skipG rfl rfl e94 ?_
    intro u95 e95
    refine HL.skipG rfl rfl e94 ?_
    intro u96 e96
    refine HL.skipG rfl rfl e94 ?_
    intro u97 e97
    refine HL.skipG rfl rfl e94 ?_
    intro u98 e98
    refine HL.still (Runs.pick e94 rfl) ?_
    intro u99 e99
    refine HL.nil ?_
    repeat refine HW.seq ?_
    refine HW.no ?_ ?_
    exact e99
    refine HW.skip ?_
    -- region 15
    repeat refine HW.seq ?_
    refine HW.region ?_
    refine HL.still (Runs.move f7) ?_
    intro u100 e100
    refine HL.still (Runs.move e100) ?_
    intro u101 e101
    refine HL.stillG rfl rfl e101 (Runs.move f8) ?_
    intro u102 e102
    refine HL.stillG rfl rfl e101 (Runs.move f12) ?_
    intro u103 e103
    refine HL.oneG rfl rfl e101 (HO.call Tryd.func15 bd15 nm15 (args2 e102 e103) rfl ((under_is hpr lp).mono ?_))
    rintro _ h8 ⟨rfl, X8⟩
    intro u104 e104
    refine HL.stillG rfl rfl e101 (Runs.notb e104 (t := false) (u := true) rfl) ?_
    intro u105 e105
    refine HL.stillG rfl rfl e101 (Runs.move e105) ?_
    intro u106 e106
    refine HL.skipG rfl rfl e106 ?_
    intro u107 e107
    refine HL.skipG rfl rfl e106 ?_
    intro u108 e108
    refine HL.stillG rfl rfl e101 (Runs.pick e106 rfl) ?_
    intro u109 e109
    refine HL.stillG rfl rfl e101 (Runs.move e109) ?_
    intro u110 e110
    refine HL.skipG rfl rfl e110 ?_
    intro u111 e111
    refine HL.skipG rfl rfl e110 ?_
    intro u112 e112
    refine HL.stillG rfl rfl e101 (Runs.pick e110 rfl) ?_
    intro u113 e113
    refine HL.stillG rfl rfl e101 (Runs.move e113) ?_
    intro u114 e114
    refine HL.skipG rfl rfl e114 ?_
    intro u115 e115
    refine HL.skipG rfl rfl e114 ?_
    intro u116 e116
    refine HL.skipG rfl rfl e114 ?_
    intro u117 e117
    refine HL.stillG rfl rfl e101 (Runs.pick e114 rfl) ?_
    intro u118 e118
    refine HL.still (Runs.pick e101 e118) ?_
    intro u119 e119
    refine HL.still (Runs.assign e119) ?_
    intro u6 e6
    refine HL.nil ?_
    refine HW.ret ?_
    exact RT.one rfl e6 ⟨rfl, (XG.ext X7 (Nat.le_refl _)).ext X8 (Nat.le_refl _)⟩
  | true =>
    have q3 := hu1 hpr
    -- region 13
    repeat refine HW.seq ?_
    refine HW.region ?_
    refine HL.still (Runs.move f8) ?_
    intro u91 e91
    refine HL.still (Runs.move f12) ?_
    intro u92 e92
    refine HL.one (HO.call Tryd.func15 bd15 nm15 (args2 e91 e92) rfl ((under_is hpr lp).mono ?_))
    rintro _ h7 ⟨rfl, X7⟩
    intro u93 e93
    refine HL.still (Runs.move e93) ?_
    intro u94 e94
    refine HL.stillG rfl rfl e94 (Runs.move f8) ?_
    intro u95 e95
    refine HL.stillG rfl rfl e94 (Runs.move f12) ?_
    intro u96 e96
    refine HL.oneG rfl rfl e94 (HO.call Tryd.func11 bd11 nm11 (args2 e95 e96) rfl ((compare_is hz.symm lp lr).mono ?_))
    rintro _ h8 ⟨rfl, X8⟩
    intro u97 e97
    refine HL.stillG rfl rfl e94 (Runs.geq e97 rfl (t := false) (decide_eq_false (by omega))) ?_
    intro u98 e98
    refine HL.still (Runs.pick e94 e98) ?_
    intro u99 e99
    refine HL.nil ?_
    repeat refine HW.seq ?_
    refine HW.no ?_ ?_
    exact e99
    refine HW.skip ?_
    have XH : Ext h h8 := (XG.ext X7 (Nat.le_refl _)).ext X8 (Nat.le_refl _)
    by_cases q1 : x < 0
    · by_cases q2 : y < 0
      · have hpq := hu2 hpr q1 q2
        -- region 15
        repeat refine HW.seq ?_
        refine HW.region ?_
        refine HL.still (Runs.move f7) ?_
        intro u100 e100
        refine HL.still (Runs.move e100) ?_
        intro u101 e101
        refine HL.stillG rfl rfl e101 (Runs.move f8) ?_
        intro u102 e102
        refine HL.stillG rfl rfl e101 (Runs.move f12) ?_
        intro u103 e103
        refine HL.oneG rfl rfl e101 (HO.call Tryd.func15 bd15 nm15 (args2 e102 e103) rfl ((under_is hpr lp).mono ?_))
        rintro _ h9 ⟨rfl, X9⟩
        intro u104 e104
        refine HL.stillG rfl rfl e101 (Runs.notb e104 (t := true) (u := false) rfl) ?_
        intro u105 e105
        refine HL.stillG rfl rfl e101 (Runs.move e105) ?_
        intro u106 e106
        refine HL.stillG rfl rfl e106 (Runs.move f14) ?_
        intro u107 e107
        refine HL.stillG rfl rfl e106 (Runs.geq e107 rfl (t := false) (decide_eq_false (by omega))) ?_
        intro u108 e108
        refine HL.stillG rfl rfl e101 (Runs.pick e106 e108) ?_
        intro u109 e109
        refine HL.stillG rfl rfl e101 (Runs.move e109) ?_
        intro u110 e110
        refine HL.stillG rfl rfl e110 (Runs.move f15) ?_
        intro u111 e111
        refine HL.stillG rfl rfl e110 (Runs.geq e111 rfl (t := false) (decide_eq_false (by omega))) ?_
        intro u112 e112
        refine HL.stillG rfl rfl e101 (Runs.pick e110 e112) ?_
        intro u113 e113
        refine HL.stillG rfl rfl e101 (Runs.move e113) ?_
        intro u114 e114
        refine HL.stillG rfl rfl e114 (Runs.move f8) ?_
        intro u115 e115
        refine HL.stillG rfl rfl e114 (Runs.move f10) ?_
        intro u116 e116
        refine HL.oneG rfl rfl e114 (HO.call Tryd.func15 bd15 nm15 (args2 e115 e116) rfl ((under_is hpq lp).mono ?_))
        rintro _ h10 ⟨rfl, X10⟩
        intro u117 e117
        refine HL.stillG rfl rfl e101 (Runs.pick e114 e117) ?_
        intro u118 e118
        refine HL.still (Runs.pick e101 e118) ?_
        intro u119 e119
        refine HL.still (Runs.assign e119) ?_
        intro u6 e6
        refine HL.nil ?_
        refine HW.ret ?_
        exact RT.one rfl e6 ⟨rfl, (XH.ext X9 (Nat.le_refl _)).ext X10 (Nat.le_refl _)⟩
      · skip
        -- region 15
        repeat refine HW.seq ?_
        refine HW.region ?_
        refine HL.still (Runs.move f7) ?_
        intro u100 e100
        refine HL.still (Runs.move e100) ?_
        intro u101 e101
        refine HL.stillG rfl rfl e101 (Runs.move f8) ?_
        intro u102 e102
        refine HL.stillG rfl rfl e101 (Runs.move f12) ?_
        intro u103 e103
        refine HL.oneG rfl rfl e101 (HO.call Tryd.func15 bd15 nm15 (args2 e102 e103) rfl ((under_is hpr lp).mono ?_))
        rintro _ h9 ⟨rfl, X9⟩
        intro u104 e104
        refine HL.stillG rfl rfl e101 (Runs.notb e104 (t := true) (u := false) rfl) ?_
        intro u105 e105
        refine HL.stillG rfl rfl e101 (Runs.move e105) ?_
        intro u106 e106
        refine HL.stillG rfl rfl e106 (Runs.move f14) ?_
        intro u107 e107
        refine HL.stillG rfl rfl e106 (Runs.geq e107 rfl (t := false) (decide_eq_false (by omega))) ?_
        intro u108 e108
        refine HL.stillG rfl rfl e101 (Runs.pick e106 e108) ?_
        intro u109 e109
        refine HL.stillG rfl rfl e101 (Runs.move e109) ?_
        intro u110 e110
        refine HL.stillG rfl rfl e110 (Runs.move f15) ?_
        intro u111 e111
        refine HL.stillG rfl rfl e110 (Runs.geq e111 rfl (t := true) (decide_eq_true (by omega))) ?_
        intro u112 e112
        refine HL.stillG rfl rfl e101 (Runs.pick e110 e112) ?_
        intro u113 e113
        refine HL.stillG rfl rfl e101 (Runs.move e113) ?_
        intro u114 e114
        refine HL.skipG rfl rfl e114 ?_
        intro u115 e115
        refine HL.skipG rfl rfl e114 ?_
        intro u116 e116
        refine HL.skipG rfl rfl e114 ?_
        intro u117 e117
        refine HL.stillG rfl rfl e101 (Runs.pick e114 rfl) ?_
        intro u118 e118
        refine HL.still (Runs.pick e101 e118) ?_
        intro u119 e119
        refine HL.still (Runs.assign e119) ?_
        intro u6 e6
        refine HL.nil ?_
        refine HW.ret ?_
        exact RT.one rfl e6 ⟨rfl, XH.ext X9 (Nat.le_refl _)⟩
    · skip
      -- region 15
      repeat refine HW.seq ?_
      refine HW.region ?_
      refine HL.still (Runs.move f7) ?_
      intro u100 e100
      refine HL.still (Runs.move e100) ?_
      intro u101 e101
      refine HL.stillG rfl rfl e101 (Runs.move f8) ?_
      intro u102 e102
      refine HL.stillG rfl rfl e101 (Runs.move f12) ?_
      intro u103 e103
      refine HL.oneG rfl rfl e101 (HO.call Tryd.func15 bd15 nm15 (args2 e102 e103) rfl ((under_is hpr lp).mono ?_))
      rintro _ h9 ⟨rfl, X9⟩
      intro u104 e104
      refine HL.stillG rfl rfl e101 (Runs.notb e104 (t := true) (u := false) rfl) ?_
      intro u105 e105
      refine HL.stillG rfl rfl e101 (Runs.move e105) ?_
      intro u106 e106
      refine HL.stillG rfl rfl e106 (Runs.move f14) ?_
      intro u107 e107
      refine HL.stillG rfl rfl e106 (Runs.geq e107 rfl (t := true) (decide_eq_true (by omega))) ?_
      intro u108 e108
      refine HL.stillG rfl rfl e101 (Runs.pick e106 e108) ?_
      intro u109 e109
      refine HL.stillG rfl rfl e101 (Runs.move e109) ?_
      intro u110 e110
      refine HL.skipG rfl rfl e110 ?_
      intro u111 e111
      refine HL.skipG rfl rfl e110 ?_
      intro u112 e112
      refine HL.stillG rfl rfl e101 (Runs.pick e110 rfl) ?_
      intro u113 e113
      refine HL.stillG rfl rfl e101 (Runs.move e113) ?_
      intro u114 e114
      refine HL.skipG rfl rfl e114 ?_
      intro u115 e115
      refine HL.skipG rfl rfl e114 ?_
      intro u116 e116
      refine HL.skipG rfl rfl e114 ?_
      intro u117 e117
      refine HL.stillG rfl rfl e101 (Runs.pick e114 rfl) ?_
      intro u118 e118
      refine HL.still (Runs.pick e101 e118) ?_
      intro u119 e119
      refine HL.still (Runs.assign e119) ?_
      intro u6 e6
      refine HL.nil ?_
      refine HW.ret ?_
      exact RT.one rfl e6 ⟨rfl, XH.ext X9 (Nat.le_refl _)⟩
set_option maxRecDepth 10000 in
theorem lawOrder_ch (h : Heap) (a b c : Str) : CH Tryd.prog 6 #[S8 a, S8 b, S8 c] h fun v h' => v = .bool true ∧ Ext h h' := by
  by_cases hall : (a.length ≤ 500 ∧ b.length ≤ 500 ∧ c.length ≤ 500) ∧ (cleanO a).2 = true ∧ (cleanO b).2 = true ∧ (cleanO c).2 = true
  · obtain ⟨⟨h1, h2, h3⟩, h4, h5, h6⟩ := hall
    exact order_clean h a b c (cleanO a).1 (cleanO b).1 (cleanO c).1 h1 h2 h3 (by rw [← h4]) (by rw [← h5]) (by rw [← h6])
  refine CH.of_body Tryd.func6 rfl rfl rfl ?_
  intro f hf
  have p0 : f 0 = S8 a := by rw [hf]; exact fr0_at rfl
  have p1 : f 1 = S8 b := by rw [hf]; exact fr0_at rfl
  have p2 : f 2 = S8 c := by rw [hf]; exact fr0_at rfl
  -- region 0
  repeat refine HW.seq ?_
  refine HW.region ?_
  refine HL.still (Runs.assign rfl) ?_
  intro u6 e6
  refine HL.nil ?_
  -- region 1
  repeat refine HW.seq ?_
  refine HW.region ?_
  refine HL.one (HO.call Tryd.func8 bd8 nm8 (args0) rfl ((small_ch h).mono ?_))
  rintro _ h1 ⟨rfl, X1⟩
  intro u16 e16
  refine HL.still (Runs.assign e16) ?_
  intro u7 e7
  refine HL.nil ?_
  have hgb : ∀ s : Str, decide ((s.length : Int) > 500) = decide (s.length > 500) := fun s => decide_eq_decide.2 (by omega)
  -- region 2
  repeat refine HW.seq ?_
  refine HW.region ?_
  refine HL.still (Runs.move p0) ?_
  intro u17 e17
  refine HL.still (Runs.lenS rfl Tryd.underlying9 e17) ?_
  intro u18 e18
  refine HL.still (Runs.gtr e18 rfl (t := decide (a.length > 500)) (hgb a)) ?_
  intro u19 e19
  refine HL.still (Runs.move e19) ?_
  intro u20 e20
  refine HL.anyG rfl rfl e20 (fun hg => Runs.move p1) ?_
  intro u21 e21
  refine HL.anyG rfl rfl e20 (fun hg => Runs.lenS rfl Tryd.underlying9 (e21.trans (if_pos hg))) ?_
  intro u22 e22
  refine HL.anyG rfl rfl e20 (fun hg => Runs.gtr (e22.trans (if_pos hg)) rfl (t := decide (b.length > 500)) (hgb b)) ?_
  intro u23 e23
  refine HL.still (Runs.pick e20 (or_pick e23)) ?_
  intro u24 e24
  refine HL.still (Runs.move e24) ?_
  intro u25 e25
  refine HL.anyG rfl rfl e25 (fun hg => Runs.move p2) ?_
  intro u26 e26
  refine HL.anyG rfl rfl e25 (fun hg => Runs.lenS rfl Tryd.underlying9 (e26.trans (if_pos hg))) ?_
  intro u27 e27
  refine HL.anyG rfl rfl e25 (fun hg => Runs.gtr (e27.trans (if_pos hg)) rfl (t := decide (c.length > 500)) (hgb c)) ?_
  intro u28 e28
  refine HL.still (Runs.pick e25 (or_pick e28)) ?_
  intro u29 e29
  refine HL.nil ?_
  cases hl : ((decide (a.length > 500) || decide (b.length > 500)) || decide (c.length > 500)) with
  | true =>
    refine HW.yes (e29.trans (congrArg Value.bool hl)) ?_
    -- region 3
    repeat refine HW.seq ?_
    refine HW.region ?_
    refine HL.still (Runs.move e7) ?_
    intro u30 e30
    refine HL.still (Runs.assign e30) ?_
    intro u6 e6
    refine HL.nil ?_
    refine HW.ret ?_
    exact RT.one rfl e6 ⟨rfl, X1⟩
  | false =>
    rw [Bool.or_eq_false_iff, Bool.or_eq_false_iff, decide_eq_false_iff_not, decide_eq_false_iff_not, decide_eq_false_iff_not] at hl
    obtain ⟨⟨hla, hlb⟩, hlc⟩ := hl
    have hl' : ((decide (a.length > 500) || decide (b.length > 500)) || decide (c.length > 500)) = false := by rw [decide_eq_false hla, decide_eq_false hlb, decide_eq_false hlc]; rfl
    refine HW.no (e29.trans (congrArg Value.bool hl')) ?_
    refine HW.skip ?_
    have hn : ((!(cleanO a).2 || !(cleanO b).2) || !(cleanO c).2) = true := by
      refine Decidable.byContradiction fun k => hall ⟨⟨by omega, by omega, by omega⟩, ?_⟩
      rw [Bool.not_eq_true] at k
      simp only [Bool.or_eq_false_iff, Bool.not_eq_false'] at k
      exact ⟨k.1.1, k.1.2, k.2⟩
    obtain ⟨⟨p, ka⟩, hp⟩ : ∃ c, c = cleanO a := ⟨_, rfl⟩
    obtain ⟨⟨q, kb⟩, hq⟩ : ∃ c, c = cleanO b := ⟨_, rfl⟩
    obtain ⟨⟨r, kc⟩, hr⟩ : ∃ x, x = cleanO c := ⟨_, rfl⟩
    rw [← hp, ← hq, ← hr] at hn
    -- region 4
    repeat refine HW.seq ?_
    refine HW.region ?_
    refine HL.still (Runs.move p0) ?_
    intro u32 e32
    refine HL.one (HO.call Tryd.func9 bd9 nm9 (args1 e32) rfl ((clean_is hp.symm (by omega)).mono ?_))
    rintro _ h2 ⟨rfl, X2⟩
    intro u33 e33
    refine HL.still (Runs.move e33) ?_
    intro u31 e31
    refine HL.still (Runs.extr e31 rfl) ?_
    intro u34 e34
    refine HL.still (Runs.extr e31 rfl) ?_
    intro u35 e35
    refine HL.still (Runs.assign e34) ?_
    intro u8 e8
    refine HL.still (Runs.assign e35) ?_
    intro u9 e9
    refine HL.nil ?_
    -- region 5
    repeat refine HW.seq ?_
    refine HW.region ?_
    refine HL.still (Runs.move p1) ?_
    intro u37 e37
    refine HL.one (HO.call Tryd.func9 bd9 nm9 (args1 e37) rfl ((clean_is hq.symm (by omega)).mono ?_))
    rintro _ h3 ⟨rfl, X3⟩
    intro u38 e38
    refine HL.still (Runs.move e38) ?_
    intro u36 e36
    refine HL.still (Runs.extr e36 rfl) ?_
    intro u39 e39
    refine HL.still (Runs.extr e36 rfl) ?_
    intro u40 e40
    refine HL.still (Runs.assign e39) ?_
    intro u10 e10
    refine HL.still (Runs.assign e40) ?_
    intro u11 e11
    refine HL.nil ?_
    -- region 6
    repeat refine HW.seq ?_
    refine HW.region ?_
    refine HL.still (Runs.move p2) ?_
    intro u42 e42
    refine HL.one (HO.call Tryd.func9 bd9 nm9 (args1 e42) rfl ((clean_is hr.symm (by omega)).mono ?_))
    rintro _ h4 ⟨rfl, X4⟩
    intro u43 e43
    refine HL.still (Runs.move e43) ?_
    intro u41 e41
    refine HL.still (Runs.extr e41 rfl) ?_
    intro u44 e44
    refine HL.still (Runs.extr e41 rfl) ?_
    intro u45 e45
    refine HL.still (Runs.assign e44) ?_
    intro u12 e12
    refine HL.still (Runs.assign e45) ?_
    intro u13 e13
    refine HL.nil ?_
    have XA : Ext h h4 := ((X1.ext X2 (Nat.le_refl _)).ext X3 (Nat.le_refl _)).ext X4 (Nat.le_refl _)
    have g8 : u8 = S8 p := e8
    have g9 : u9 = .bool ka := e9
    have g10 : u10 = S8 q := e10
    have g11 : u11 = .bool kb := e11
    have g12 : u12 = S8 r := e12
    have g13 : u13 = .bool kc := e13
    clear e8 e9 e10 e11 e12 e13
    -- region 7
    repeat refine HW.seq ?_
    refine HW.region ?_
    refine HL.still (Runs.move g9) ?_
    intro u46 e46
    refine HL.still (Runs.notb e46 (t := ka) (u := !ka) rfl) ?_
    intro u47 e47
    refine HL.still (Runs.move e47) ?_
    intro u48 e48
    refine HL.anyG rfl rfl e48 (fun hg => Runs.move g11) ?_
    intro u49 e49
    refine HL.anyG rfl rfl e48 (fun hg => Runs.notb (e49.trans (if_pos hg)) (t := kb) (u := !kb) rfl) ?_
    intro u50 e50
    refine HL.still (Runs.pick e48 (or_pick e50)) ?_
    intro u51 e51
    refine HL.still (Runs.move e51) ?_
    intro u52 e52
    refine HL.anyG rfl rfl e52 (fun hg => Runs.move g13) ?_
    intro u53 e53
    refine HL.anyG rfl rfl e52 (fun hg => Runs.notb (e53.trans (if_pos hg)) (t := kc) (u := !kc) rfl) ?_
    intro u54 e54
    refine HL.still (Runs.pick e52 (or_pick e54)) ?_
    intro u55 e55
    refine HL.nil ?_
    cases hk : ((!ka || !kb) || !kc) with
    | true =>
      refine HW.yes (e55.trans (congrArg Value.bool hk)) ?_
      -- region 8
      repeat refine HW.seq ?_
      refine HW.region ?_
      refine HL.still (Runs.move e7) ?_
      intro u56 e56
      refine HL.still (Runs.assign e56) ?_
      intro u6 e6
      refine HL.nil ?_
      refine HW.ret ?_
      exact RT.one rfl e6 ⟨rfl, XA⟩
    | false => rw [hn] at hk; cases hk
end Go.Proofs.YtfnippeemboljaaDoor
