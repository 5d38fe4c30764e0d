/- PathsUnder: the walk. -/
import Derived.Test.YtfnippeemboljaaDoorWk
namespace Go.Proofs.YtfnippeemboljaaDoor
set_option linter.unnecessarySimpa false
set_option linter.unusedSimpArgs false
set_option linter.unusedVariables false
open Go.RowKit
set_option maxRecDepth 10000 in
theorem under_clean (h : Heap) (a b p q : Str) (hla : a.length ≤ 500) (hlb : b.length ≤ 500) (hp : cleanO a = (p, true)) (hq : cleanO b = (q, true)) : CH Tryd.prog 7 #[S8 a, S8 b] h fun v h' => v = .bool true ∧ Ext h h' := by
  have lp : p.length ≤ 500 := by have := clean_le a; rw [hp] at this; exact Nat.le_trans this (by omega)
  have lq : q.length ≤ 500 := by have := clean_le b; rw [hq] at this; exact Nat.le_trans this (by omega)
  have jp : isPath p = true := by have := clean_ok (s := a) (by rw [hp]); rw [hp] at this; exact this
  have jq : isPath q = true := by have := clean_ok (s := b) (by rw [hq]); rw [hq] at this; exact this
  have ip := isPath_ne jp
  have iq := isPath_ne jq
  have hn2 := path_parts jq
  refine CH.of_body Tryd.func7 rfl rfl rfl ?_
  intro f hf
  have p0 : f 0 = S8 a := by rw [hf]; exact fr0_at rfl
  have p1 : f 1 = S8 b := by rw [hf]; exact fr0_at rfl
  -- region 0
  repeat refine HW.seq ?_
  refine HW.region ?_
  refine HL.still (Runs.assign rfl) ?_
  intro u4 e4
  refine HL.nil ?_
  -- region 1
  repeat refine HW.seq ?_
  refine HW.region ?_
  refine HL.one (HO.call Tryd.func8 bd8 nm8 (args0) rfl ((small_ch h).mono ?_))
  rintro _ h1 ⟨rfl, X1⟩
  intro u13 e13
  refine HL.still (Runs.assign e13) ?_
  intro u5 e5
  refine HL.nil ?_
  -- region 2
  repeat refine HW.seq ?_
  refine HW.region ?_
  refine HL.still (Runs.move p0) ?_
  intro u14 e14
  refine HL.still (Runs.lenS rfl Tryd.underlying9 e14) ?_
  intro u15 e15
  refine HL.still (Runs.gtr e15 rfl (t := false) (decide_eq_false (by omega))) ?_
  intro u16 e16
  refine HL.still (Runs.move e16) ?_
  intro u17 e17
  refine HL.stillG rfl rfl e17 (Runs.move p1) ?_
  intro u18 e18
  refine HL.stillG rfl rfl e17 (Runs.lenS rfl Tryd.underlying9 e18) ?_
  intro u19 e19
  refine HL.stillG rfl rfl e17 (Runs.gtr e19 rfl (t := false) (decide_eq_false (by omega))) ?_
  intro u20 e20
  refine HL.still (Runs.pick e17 e20) ?_
  intro u21 e21
  refine HL.nil ?_
  repeat refine HW.seq ?_
  refine HW.no ?_ ?_
  exact e21
  refine HW.skip ?_
  -- region 4
  repeat refine HW.seq ?_
  refine HW.region ?_
  refine HL.still (Runs.move p0) ?_
  intro u24 e24
  refine HL.one (HO.call Tryd.func9 bd9 nm9 (args1 e24) rfl ((clean_is hp (by omega)).mono ?_))
  rintro _ h2 ⟨rfl, X2⟩
  intro u25 e25
  refine HL.still (Runs.move e25) ?_
  intro u23 e23
  refine HL.still (Runs.extr e23 rfl) ?_
  intro u26 e26
  refine HL.still (Runs.extr e23 rfl) ?_
  intro u27 e27
  refine HL.still (Runs.assign e26) ?_
  intro u6 e6
  refine HL.still (Runs.assign e27) ?_
  intro u7 e7
  refine HL.nil ?_
  -- region 5
  repeat refine HW.seq ?_
  refine HW.region ?_
  refine HL.still (Runs.move p1) ?_
  intro u29 e29
  refine HL.one (HO.call Tryd.func9 bd9 nm9 (args1 e29) rfl ((clean_is hq (by omega)).mono ?_))
  rintro _ h3 ⟨rfl, X3⟩
  intro u30 e30
  refine HL.still (Runs.move e30) ?_
  intro u28 e28
  refine HL.still (Runs.extr e28 rfl) ?_
  intro u31 e31
  refine HL.still (Runs.extr e28 rfl) ?_
  intro u32 e32
  refine HL.still (Runs.assign e31) ?_
  intro u8 e8
  refine HL.still (Runs.assign e32) ?_
  intro u9 e9
  refine HL.nil ?_
  have XA : Ext h h3 := (X1.ext X2 (Nat.le_refl _)).ext X3 (Nat.le_refl _)
  have g6 : u6 = S8 p := e6
  have g7 : u7 = .bool true := e7
  have g8 : u8 = S8 q := e8
  have g9 : u9 = .bool true := e9
  clear e6 e7 e8 e9
  -- region 6
  repeat refine HW.seq ?_
  refine HW.region ?_
  refine HL.still (Runs.move g7) ?_
  intro u33 e33
  refine HL.still (Runs.notb e33 (t := true) (u := false) rfl) ?_
  intro u34 e34
  refine HL.still (Runs.move e34) ?_
  intro u35 e35
  refine HL.stillG rfl rfl e35 (Runs.move g9) ?_
  intro u36 e36
  refine HL.stillG rfl rfl e35 (Runs.notb e36 (t := true) (u := false) rfl) ?_
  intro u37 e37
  refine HL.still (Runs.pick e35 e37) ?_
  intro u38 e38
  refine HL.nil ?_
  repeat refine HW.seq ?_
  refine HW.no ?_ ?_
  exact e38
  refine HW.skip ?_
  -- region 8
  repeat refine HW.seq ?_
  refine HW.region ?_
  refine HL.still (Runs.assign rfl) ?_
  intro u10 e10
  refine HL.nil ?_
  -- region 9
  repeat refine HW.seq ?_
  refine HW.region ?_
  refine HL.still (Runs.move g8) ?_
  intro u40 e40
  refine HL.still (Runs.assign e40) ?_
  intro u11 e11
  refine HL.nil ?_
  -- region 10
  repeat refine HW.seq ?_
  refine HW.region ?_
  refine HL.still (Runs.assign rfl) ?_
  intro u12 e12
  refine HL.nil ?_
  have hlf := parts_free q
  have hlg := isPath_good jq
  have hlj := join_parts q
  have hun := under_fnd (q := q) ip
  obtain ⟨l, hl⟩ : ∃ l, l = parts q := ⟨_, rfl⟩
  rw [← hl] at hn2 hlf hlg hlj hun
  have htl : ∀ k, (joinS (l.take k)).length ≤ 500 := fun k => by
    have := joinS_take_le l k
    rw [hlj] at this
    omega
  repeat refine HW.seq ?_
  refine HW.block ?_
  refine HW.loop (fun m f u => ∃ i : Nat, i ≤ l.length ∧ m = l.length - i ∧ f 12 = I64 i ∧ f 11 = S8 (joinS (l.take (l.length - i))) ∧ f 10 = .bool (fnd l p i) ∧ f 5 = .bool true ∧ f 6 = S8 p ∧ f 8 = S8 q ∧ Ext h u) l.length
    ⟨0, Nat.zero_le _, rfl, e12, by rw [Nat.sub_zero, List.take_of_length_le (Nat.le_refl _), hlj]; exact e11, e10, e5, g6, g8, XA⟩ ?_
  clear e5 g6 g7 g8 g9 e10 e11 e12 p0 p1
  rintro m f u ⟨i, hi, hm, f12, f11, f10, f5, f6, f8, XU⟩
  by_cases hlt : i < l.length
  · have hne := join_ne hlg (show l.length - i - 1 < l.length by omega)
    rw [show l.length - i - 1 + 1 = l.length - i by omega] at hne
    have hpt := parent_take hlf (show l.length - i - 1 < l.length by omega)
    rw [show l.length - i - 1 + 1 = l.length - i by omega, show l.length - i - 1 = l.length - (i + 1) by omega] at hpt
    -- region 11
    repeat refine HW.seq ?_
    refine HW.region ?_
    refine HL.still (Runs.move f12) ?_
    intro u41 e41
    refine HL.still (Runs.lss e41 rfl (t := true) (decide_eq_true (by omega))) ?_
    intro u42 e42
    refine HL.still (Runs.move e42) ?_
    intro u43 e43
    refine HL.stillG rfl rfl e43 (Runs.move f11) ?_
    intro u44 e44
    refine HL.stillG rfl rfl e43 (Runs.neqS e44 rfl (ys := []) (t := true) (by rw [beq_eq_false_iff_ne.2 hne]; rfl)) ?_
    intro u45 e45
    refine HL.still (Runs.pick e43 e45) ?_
    intro u46 e46
    refine HL.nil ?_
    repeat refine HW.seq ?_
    refine HW.yes ?_ ?_
    exact e46
    refine HW.skip ?_
    repeat refine HW.seq ?_
    refine HW.block ?_
    -- region 13
    repeat refine HW.seq ?_
    refine HW.region ?_
    refine HL.still (Runs.move f11) ?_
    intro u49 e49
    refine HL.one (HO.call Tryd.func13 bd13 nm13 (args1 e49) rfl ((parent_is hpt (Nat.le_trans (htl _) (by decide))).mono ?_))
    rintro _ h4 ⟨rfl, X4⟩
    intro u50 e50
    refine HL.still (Runs.assign e50) ?_
    intro u11 e11
    refine HL.nil ?_
    -- region 14
    repeat refine HW.seq ?_
    refine HW.region ?_
    refine HL.still (Runs.move f10) ?_
    intro u51 e51
    refine HL.still (Runs.move e51) ?_
    intro u52 e52
    refine HL.anyG rfl rfl e52 (fun hg => Runs.move e11) ?_
    intro u53 e53
    refine HL.anyG rfl rfl e52 (fun hg => Runs.move f6) ?_
    intro u54 e54
    refine HL.anyG rfl rfl e52 (fun hg => Runs.eqS (e53.trans (if_pos hg)) (e54.trans (if_pos hg)) (xs := joinS (l.take (l.length - (i + 1)))) (ys := p) rfl) ?_
    intro u55 e55
    refine HL.still (Runs.pick e52 (or_pick e55)) ?_
    intro u56 e56
    refine HL.still (Runs.assign e56) ?_
    intro u10 e10
    refine HL.nil ?_
    -- region 12
    repeat refine HW.seq ?_
    refine HW.region ?_
    refine HL.still (Runs.move f12) ?_
    intro u47 e47
    refine HL.still (Runs.add e47 rfl (i64w (by omega))) ?_
    intro u48 e48
    refine HL.still (Runs.assign e48) ?_
    intro u12 e12
    refine HL.nil ?_
    exact ⟨l.length - (i + 1), by omega, i + 1, by omega, rfl, e12, e11, e10, f5, f6, f8, XU.ext X4 (Nat.le_refl _)⟩
  · have hil : i = l.length := by omega
    subst hil
    rw [Nat.sub_self, List.take_zero] at f11
    have lpp := parent_le q
    have e0 : underO [] q = true := by unfold underO; rw [if_pos rfl, beq_eq_false_iff_ne.2 iq]; rfl
    -- region 11
    repeat refine HW.seq ?_
    refine HW.region ?_
    refine HL.still (Runs.move f12) ?_
    intro u41 e41
    refine HL.still (Runs.lss e41 rfl (t := true) (decide_eq_true (by omega))) ?_
    intro u42 e42
    refine HL.still (Runs.move e42) ?_
    intro u43 e43
    refine HL.stillG rfl rfl e43 (Runs.move f11) ?_
    intro u44 e44
    refine HL.stillG rfl rfl e43 (Runs.neqS e44 rfl (xs := []) (ys := []) (t := false) rfl) ?_
    intro u45 e45
    refine HL.still (Runs.pick e43 e45) ?_
    intro u46 e46
    refine HL.nil ?_
    repeat refine HW.seq ?_
    refine HW.no ?_ ?_
    exact e46
    refine HW.exitHere ?_
    -- region 15
    repeat refine HW.seq ?_
    refine HW.region ?_
    refine HL.still (Runs.move f5) ?_
    intro u57 e57
    refine HL.still (Runs.move e57) ?_
    intro u58 e58
    refine HL.stillG rfl rfl e58 (Runs.move f6) ?_
    intro u59 e59
    refine HL.stillG rfl rfl e58 (Runs.move f8) ?_
    intro u60 e60
    refine HL.oneG rfl rfl e58 (HO.call Tryd.func15 bd15 nm15 (args2 e59 e60) rfl ((under_is hun (by omega)).mono ?_))
    rintro _ h4 ⟨rfl, X4⟩
    intro u61 e61
    refine HL.stillG rfl rfl e58 (Runs.move f10) ?_
    intro u62 e62
    refine HL.stillG rfl rfl e58 (Runs.eqB Tryd.underlying4 e61 e62 (b := true) (by simp)) ?_
    intro u63 e63
    refine HL.still (Runs.pick e58 e63) ?_
    intro u64 e64
    refine HL.still (Runs.move e64) ?_
    intro u65 e65
    refine HL.stillG rfl rfl e65 (Runs.move f8) ?_
    intro u66 e66
    refine HL.oneG rfl rfl e65 (HO.call Tryd.func15 bd15 nm15 (args2 rfl e66) rfl ((under_is e0 (by decide)).mono ?_))
    rintro _ h5 ⟨rfl, X5⟩
    intro u67 e67
    refine HL.still (Runs.pick e65 e67) ?_
    intro u68 e68
    refine HL.still (Runs.move e68) ?_
    intro u69 e69
    refine HL.stillG rfl rfl e69 (Runs.move f8) ?_
    intro u70 e70
    refine HL.oneG rfl rfl e69 (HO.call Tryd.func13 bd13 nm13 (args1 e70) rfl ((parent_is rfl (by omega)).mono ?_))
    rintro _ h6 ⟨rfl, X6⟩
    intro u71 e71
    refine HL.stillG rfl rfl e69 (Runs.move f8) ?_
    intro u72 e72
    refine HL.oneG rfl rfl e69 (HO.call Tryd.func15 bd15 nm15 (args2 e71 e72) rfl ((under_is (under_parent jq) (by omega)).mono ?_))
    rintro _ h7 ⟨rfl, X7⟩
    intro u73 e73
    refine HL.still (Runs.pick e69 e73) ?_
    intro u74 e74
    refine HL.still (Runs.move e74) ?_
    intro u75 e75
    refine HL.stillG rfl rfl e75 (Runs.move f8) ?_
    intro u76 e76
    refine HL.stillG rfl rfl e75 (Runs.move f8) ?_
    intro u77 e77
    refine HL.oneG rfl rfl e75 (HO.call Tryd.func15 bd15 nm15 (args2 e76 e77) rfl ((under_is (under_self iq) (by omega)).mono ?_))
    rintro _ h8 ⟨rfl, X8⟩
    intro u78 e78
    refine HL.stillG rfl rfl e75 (Runs.notb e78 (t := false) (u := true) rfl) ?_
    intro u79 e79
    refine HL.still (Runs.pick e75 e79) ?_
    intro u80 e80
    refine HL.still (Runs.move e80) ?_
    intro u81 e81
    refine HL.stillG rfl rfl e81 (Runs.move f6) ?_
    intro u82 e82
    refine HL.stillG rfl rfl e81 (Runs.move f6) ?_
    intro u83 e83
    refine HL.stillG rfl rfl e81 (Runs.addS e83 rfl (ys := [47]) (by simp; omega)) ?_
    intro u84 e84
    refine HL.stillG rfl rfl e81 (Runs.move f8) ?_
    intro u85 e85
    refine HL.stillG rfl rfl e81 (Runs.addS e84 e85 (by simp; omega)) ?_
    intro u86 e86
    refine HL.oneG rfl rfl e81 (HO.call Tryd.func15 bd15 nm15 (args2 e82 e86) rfl ((under_is (under_in ip) (by omega)).mono ?_))
    rintro _ h9 ⟨rfl, X9⟩
    intro u87 e87
    refine HL.still (Runs.pick e81 e87) ?_
    intro u88 e88
    refine HL.still (Runs.assign e88) ?_
    intro u4 e4
    refine HL.nil ?_
    refine HW.ret ?_
    exact RT.one rfl e4 ⟨rfl, (((((XU.ext X4 (Nat.le_refl _)).ext X5 (Nat.le_refl _)).ext X6 (Nat.le_refl _)).ext X7 (Nat.le_refl _)).ext X8 (Nat.le_refl _)).ext X9 (Nat.le_refl _)⟩
set_option maxRecDepth 10000 in
theorem lawUnder_ch (h : Heap) (a b : Str) : CH Tryd.prog 7 #[S8 a, S8 b] h fun v h' => v = .bool true ∧ Ext h h' := by
  by_cases hall : (a.length ≤ 500 ∧ b.length ≤ 500) ∧ (cleanO a).2 = true ∧ (cleanO b).2 = true
  · obtain ⟨⟨h1, h2⟩, h4, h5⟩ := hall
    exact under_clean h a b (cleanO a).1 (cleanO b).1 h1 h2 (by rw [← h4]) (by rw [← h5])
  refine CH.of_body Tryd.func7 rfl rfl rfl ?_
  intro f hf
  have p0 : f 0 = S8 a := by rw [hf]; exact fr0_at rfl
  have p1 : f 1 = S8 b := by rw [hf]; exact fr0_at rfl
  -- region 0
  repeat refine HW.seq ?_
  refine HW.region ?_
  refine HL.still (Runs.assign rfl) ?_
  intro u4 e4
  refine HL.nil ?_
  -- region 1
  repeat refine HW.seq ?_
  refine HW.region ?_
  refine HL.one (HO.call Tryd.func8 bd8 nm8 (args0) rfl ((small_ch h).mono ?_))
  rintro _ h1 ⟨rfl, X1⟩
  intro u13 e13
  refine HL.still (Runs.assign e13) ?_
  intro u5 e5
  refine HL.nil ?_
  have hgb : ∀ s : Str, decide ((s.length : Int) > 500) = decide (s.length > 500) := fun s => decide_eq_decide.2 (by omega)
  -- region 2
  repeat refine HW.seq ?_
  refine HW.region ?_
  refine HL.still (Runs.move p0) ?_
  intro u14 e14
  refine HL.still (Runs.lenS rfl Tryd.underlying9 e14) ?_
  intro u15 e15
  refine HL.still (Runs.gtr e15 rfl (t := decide (a.length > 500)) (hgb a)) ?_
  intro u16 e16
  refine HL.still (Runs.move e16) ?_
  intro u17 e17
  refine HL.anyG rfl rfl e17 (fun hg => Runs.move p1) ?_
  intro u18 e18
  refine HL.anyG rfl rfl e17 (fun hg => Runs.lenS rfl Tryd.underlying9 (e18.trans (if_pos hg))) ?_
  intro u19 e19
  refine HL.anyG rfl rfl e17 (fun hg => Runs.gtr (e19.trans (if_pos hg)) rfl (t := decide (b.length > 500)) (hgb b)) ?_
  intro u20 e20
  refine HL.still (Runs.pick e17 (or_pick e20)) ?_
  intro u21 e21
  refine HL.nil ?_
  cases hl : (decide (a.length > 500) || decide (b.length > 500)) with
  | true =>
    refine HW.yes (e21.trans (congrArg Value.bool hl)) ?_
    -- region 3
    repeat refine HW.seq ?_
    refine HW.region ?_
    refine HL.still (Runs.move e5) ?_
    intro u22 e22
    refine HL.still (Runs.assign e22) ?_
    intro u4 e4
    refine HL.nil ?_
    refine HW.ret ?_
    exact RT.one rfl e4 ⟨rfl, X1⟩
  | false =>
    have hl' := hl
    rw [Bool.or_eq_false_iff, decide_eq_false_iff_not, decide_eq_false_iff_not] at hl
    refine HW.no (e21.trans (congrArg Value.bool hl')) ?_
    refine HW.skip ?_
    have hn : (!(cleanO a).2 || !(cleanO b).2) = true := by
      refine Decidable.byContradiction fun k => hall ⟨⟨by omega, by omega⟩, ?_⟩
      rw [Bool.not_eq_true] at k
      simp only [Bool.or_eq_false_iff, Bool.not_eq_false'] at k
      exact k
    obtain ⟨⟨p, ka⟩, hp⟩ : ∃ c, c = cleanO a := ⟨_, rfl⟩
    obtain ⟨⟨q, kb⟩, hq⟩ : ∃ c, c = cleanO b := ⟨_, rfl⟩
    rw [← hp, ← hq] at hn
    -- region 4
    repeat refine HW.seq ?_
    refine HW.region ?_
    refine HL.still (Runs.move p0) ?_
    intro u24 e24
    refine HL.one (HO.call Tryd.func9 bd9 nm9 (args1 e24) rfl ((clean_is hp.symm (by omega)).mono ?_))
    rintro _ h2 ⟨rfl, X2⟩
    intro u25 e25
    refine HL.still (Runs.move e25) ?_
    intro u23 e23
    refine HL.still (Runs.extr e23 rfl) ?_
    intro u26 e26
    refine HL.still (Runs.extr e23 rfl) ?_
    intro u27 e27
    refine HL.still (Runs.assign e26) ?_
    intro u6 e6
    refine HL.still (Runs.assign e27) ?_
    intro u7 e7
    refine HL.nil ?_
    -- region 5
    repeat refine HW.seq ?_
    refine HW.region ?_
    refine HL.still (Runs.move p1) ?_
    intro u29 e29
    refine HL.one (HO.call Tryd.func9 bd9 nm9 (args1 e29) rfl ((clean_is hq.symm (by omega)).mono ?_))
    rintro _ h3 ⟨rfl, X3⟩
    intro u30 e30
    refine HL.still (Runs.move e30) ?_
    intro u28 e28
    refine HL.still (Runs.extr e28 rfl) ?_
    intro u31 e31
    refine HL.still (Runs.extr e28 rfl) ?_
    intro u32 e32
    refine HL.still (Runs.assign e31) ?_
    intro u8 e8
    refine HL.still (Runs.assign e32) ?_
    intro u9 e9
    refine HL.nil ?_
    have XA : Ext h h3 := (X1.ext X2 (Nat.le_refl _)).ext X3 (Nat.le_refl _)
    have g7 : u7 = .bool ka := e7
    have g9 : u9 = .bool kb := e9
    -- region 6
    repeat refine HW.seq ?_
    refine HW.region ?_
    refine HL.still (Runs.move g7) ?_
    intro u33 e33
    refine HL.still (Runs.notb e33 (t := ka) (u := !ka) rfl) ?_
    intro u34 e34
    refine HL.still (Runs.move e34) ?_
    intro u35 e35
    refine HL.anyG rfl rfl e35 (fun hg => Runs.move g9) ?_
    intro u36 e36
    refine HL.anyG rfl rfl e35 (fun hg => Runs.notb (e36.trans (if_pos hg)) (t := kb) (u := !kb) rfl) ?_
    intro u37 e37
    refine HL.still (Runs.pick e35 (or_pick e37)) ?_
    intro u38 e38
    refine HL.nil ?_
    refine HW.yes (e38.trans (congrArg Value.bool hn)) ?_
    -- region 7
    repeat refine HW.seq ?_
    refine HW.region ?_
    refine HL.still (Runs.move e5) ?_
    intro u39 e39
    refine HL.still (Runs.assign e39) ?_
    intro u4 e4
    refine HL.nil ?_
    refine HW.ret ?_
    exact RT.one rfl e4 ⟨rfl, XA⟩
end Go.Proofs.YtfnippeemboljaaDoor
