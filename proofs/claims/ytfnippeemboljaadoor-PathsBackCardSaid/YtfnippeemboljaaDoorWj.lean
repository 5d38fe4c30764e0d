/- PathsBack, PathsOrder, PathsUnder: the walks. -/
import Derived.Test.YtfnippeemboljaaDoorWi
import Derived.Test.YtfnippeemboljaaDoorPy
namespace Go.Proofs.YtfnippeemboljaaDoor
set_option linter.unnecessarySimpa false
set_option linter.unusedSimpArgs false
set_option linter.unusedVariables false
open Go.RowKit
theorem ite_bool {b : Bool} {α : Type} (x y : α) : (if b = true then x else y) = bif b then x else y := by cases b <;> rfl
set_option maxRecDepth 10000 in
theorem lawBack_ch (h : Heap) (a : Str) (n : Int) : CH Tryd.prog 5 #[S8 a, I64 n] h fun v h' => v = .bool true ∧ Ext h h' := by
  refine CH.of_body Tryd.func5 rfl rfl rfl ?_
  intro f hf
  have p0 : f 0 = S8 a := by rw [hf]; exact fr0_at rfl
  have p1 : f 1 = I64 n := by rw [hf]; exact fr0_at rfl
  -- region 0
  repeat refine HW.seq ?_
  refine HW.region ?_
  refine HL.still (Runs.assign rfl) ?_
  intro u4 e4
  refine HL.nil ?_
  -- region 1
  repeat refine HW.seq ?_
  refine HW.region ?_
  refine HL.one (HO.call Tryd.func8 bd8 nm8 (args0) rfl ((small_ch h).mono ?_))
  rintro _ h1 ⟨rfl, X1⟩
  intro u22 e22
  refine HL.still (Runs.assign e22) ?_
  intro u5 e5
  refine HL.nil ?_
  by_cases hl : a.length > 2000
  · skip
    -- region 2
    repeat refine HW.seq ?_
    refine HW.region ?_
    refine HL.still (Runs.move p0) ?_
    intro u23 e23
    refine HL.still (Runs.lenS rfl Tryd.underlying9 e23) ?_
    intro u24 e24
    refine HL.still (Runs.gtr e24 rfl (t := true) (decide_eq_true (by omega))) ?_
    intro u25 e25
    refine HL.nil ?_
    repeat refine HW.seq ?_
    refine HW.yes ?_ ?_
    exact e25
    -- region 3
    repeat refine HW.seq ?_
    refine HW.region ?_
    refine HL.still (Runs.move e5) ?_
    intro u26 e26
    refine HL.still (Runs.assign e26) ?_
    intro u4 e4
    refine HL.nil ?_
    refine HW.ret ?_
    exact RT.one rfl e4 ⟨rfl, X1⟩
  -- region 2
  repeat refine HW.seq ?_
  refine HW.region ?_
  refine HL.still (Runs.move p0) ?_
  intro u23 e23
  refine HL.still (Runs.lenS rfl Tryd.underlying9 e23) ?_
  intro u24 e24
  refine HL.still (Runs.gtr e24 rfl (t := false) (decide_eq_false (by omega))) ?_
  intro u25 e25
  refine HL.nil ?_
  repeat refine HW.seq ?_
  refine HW.no ?_ ?_
  exact e25
  refine HW.skip ?_
  have hcl := clean_slashes a
  obtain ⟨⟨p, ok⟩, hp⟩ : ∃ c, c = cleanO a := ⟨_, rfl⟩
  have hpl : p.length ≤ a.length := by
    have h1 := cleanP_le a
    unfold cleanO at hp
    split at hp
    · cases hp; exact h1
    · cases hp; exact Nat.zero_le _
  have hok : ok = true → isPath p = true := fun q => by
    have := clean_ok (s := a) (by rw [← hp]; exact q)
    rw [← hp] at this
    exact this
  rw [← hp] at hcl
  -- region 4
  repeat refine HW.seq ?_
  refine HW.region ?_
  refine HL.still (Runs.move p0) ?_
  intro u28 e28
  refine HL.one (HO.call Tryd.func9 bd9 nm9 (args1 e28) rfl ((clean_is hp.symm (by omega)).mono ?_))
  rintro _ h2 ⟨rfl, X2⟩
  intro u29 e29
  refine HL.still (Runs.move e29) ?_
  intro u27 e27
  refine HL.still (Runs.extr e27 rfl) ?_
  intro u30 e30
  refine HL.still (Runs.extr e27 rfl) ?_
  intro u31 e31
  refine HL.still (Runs.assign e30) ?_
  intro u6 e6
  refine HL.still (Runs.assign e31) ?_
  intro u7 e7
  refine HL.nil ?_
  -- region 5
  repeat refine HW.seq ?_
  refine HW.region ?_
  refine HL.still (Runs.move p0) ?_
  intro u33 e33
  refine HL.still (Runs.addS rfl e33 (xs := [47, 46, 47]) (by simp; omega)) ?_
  intro u34 e34
  refine HL.still (Runs.addS e34 rfl (ys := [47, 47, 46]) (by simp; omega)) ?_
  intro u35 e35
  refine HL.one (HO.call Tryd.func9 bd9 nm9 (args1 e35) rfl ((clean_is hcl (by simp; omega)).mono ?_))
  rintro _ h3 ⟨rfl, X3⟩
  intro u36 e36
  refine HL.still (Runs.move e36) ?_
  intro u32 e32
  refine HL.still (Runs.extr e32 rfl) ?_
  intro u37 e37
  refine HL.still (Runs.extr e32 rfl) ?_
  intro u38 e38
  refine HL.still (Runs.assign e37) ?_
  intro u8 e8
  refine HL.still (Runs.assign e38) ?_
  intro u9 e9
  refine HL.nil ?_
  have XA : Ext h h3 := (X1.ext X2 (Nat.le_refl _)).ext X3 (Nat.le_refl _)
  have g6 : u6 = S8 p := e6
  have g7 : u7 = .bool ok := e7
  have g8 : u8 = S8 p := e8
  have g9 : u9 = .bool ok := e9
  -- region 6
  repeat refine HW.seq ?_
  refine HW.region ?_
  refine HL.still (Runs.move g7) ?_
  intro u39 e39
  refine HL.still (Runs.move g9) ?_
  intro u40 e40
  refine HL.still (Runs.neqB Tryd.underlying4 e39 e40 (b := false) (by simp)) ?_
  intro u41 e41
  refine HL.still (Runs.move e41) ?_
  intro u42 e42
  refine HL.stillG rfl rfl e42 (Runs.move g6) ?_
  intro u43 e43
  refine HL.stillG rfl rfl e42 (Runs.move g8) ?_
  intro u44 e44
  refine HL.stillG rfl rfl e42 (Runs.neqS e43 e44 (t := false) (by simp)) ?_
  intro u45 e45
  refine HL.still (Runs.pick e42 e45) ?_
  intro u46 e46
  refine HL.nil ?_
  repeat refine HW.seq ?_
  refine HW.no ?_ ?_
  exact e46
  refine HW.skip ?_
  -- region 8
  repeat refine HW.seq ?_
  refine HW.region ?_
  refine HL.still (Runs.move g7) ?_
  intro u47 e47
  refine HL.nil ?_
  refine HW.mono (N := fun f' g => Ext h g ∧ f' 0 = S8 a ∧ f' 1 = I64 n ∧ f' 5 = .bool true) ?_ ?_ (fun _ _ _ h => h) (fun _ _ h => h)
  · cases hk : ok with
    | false =>
      have g47 : u47 = .bool false := e47.trans (congrArg Value.bool hk)
      refine HW.no g47 ?_
      refine HW.skip ?_
      exact ⟨XA, p0, p1, e5⟩
    | true =>
      have g47 : u47 = .bool true := e47.trans (congrArg Value.bool hk)
      refine HW.yes g47 ?_
      have hpp := hok hk
      have hne := isPath_ne hpp
      -- region 9
      repeat refine HW.seq ?_
      refine HW.region ?_
      refine HL.still (Runs.move g6) ?_
      intro u49 e49
      refine HL.one (HO.call Tryd.func9 bd9 nm9 (args1 e49) rfl ((clean_is (clean_self hpp) (by omega)).mono ?_))
      rintro _ h4 ⟨rfl, X4⟩
      intro u50 e50
      refine HL.still (Runs.move e50) ?_
      intro u48 e48
      refine HL.still (Runs.extr e48 rfl) ?_
      intro u51 e51
      refine HL.still (Runs.extr e48 rfl) ?_
      intro u52 e52
      refine HL.still (Runs.assign e51) ?_
      intro u10 e10
      refine HL.still (Runs.assign e52) ?_
      intro u11 e11
      refine HL.nil ?_
      -- region 10
      repeat refine HW.seq ?_
      refine HW.region ?_
      refine HL.still (Runs.move g6) ?_
      intro u54 e54
      refine HL.one (HO.call Tryd.func17 bd17 nm17 (args1 e54) rfl ((mark_ch h4 p (by omega)).mono ?_))
      rintro _ h5 ⟨rfl, X5⟩
      intro u55 e55
      refine HL.still (Runs.move e55) ?_
      intro u53 e53
      refine HL.still (Runs.extr e53 rfl) ?_
      intro u56 e56
      refine HL.still (Runs.extr e53 rfl) ?_
      intro u57 e57
      refine HL.still (Runs.extr e53 rfl) ?_
      intro u58 e58
      refine HL.still (Runs.assign e56) ?_
      intro u12 e12
      refine HL.still (Runs.assign e57) ?_
      intro u13 e13
      refine HL.still (Runs.assign e58) ?_
      intro u14 e14
      refine HL.nil ?_
      have XB : Ext h h5 := (XA.ext X4 (Nat.le_refl _)).ext X5 (Nat.le_refl _)
      have g10 : u10 = S8 p := e10
      have g11 : u11 = .bool true := e11
      have g12 : u12 = I64 (markO p).1 := e12
      have g13 : u13 = S8 (markO p).2.1 := e13
      have g14 : u14 = .bool (markO p).2.2 := e14
      have hmz := mark_zero (p := p)
      have hmu := unmarkO_mark (p := p)
      have hml : (markO p).2.1.length ≤ 4500 := by
        have h1 := parent_le p
        have h2 := last_len p
        have h3 := below_le (parentO p) ((lastS (parts p)).drop 4)
        rw [List.length_drop] at h3
        unfold markO
        split
        · exact Nat.zero_le _
        · split
          · show p.length ≤ 4500; omega
          · split
            · show (parentO p).length ≤ 4500; omega
            · split
              · exact Nat.zero_le _
              · show (belowO (parentO p) ((lastS (parts p)).drop 4)).length ≤ 4500; omega
      obtain ⟨mm, hmm⟩ : ∃ mm, mm = markO p := ⟨_, rfl⟩
      rw [← hmm] at g12 g13 g14 hmz hmu hml
      obtain ⟨mo, mp, mk⟩ := mm
      have g14 : u14 = .bool mk := g14
      have g12 : u12 = I64 mo := g12
      have g13 : u13 = S8 mp := g13
      repeat refine HW.seq ?_
      refine HW.mono (N := fun f' g => g = h5 ∧ f' 0 = S8 a ∧ f' 1 = I64 n ∧ f' 5 = .bool true ∧ f' 6 = S8 p ∧ f' 12 = I64 mo ∧ f' 13 = S8 mp ∧ f' 14 = .bool mk ∧ f' 81 = .bool false) ?_ ?_ (fun _ _ _ h => h) (fun _ _ h => h)
      · cases hmk : mk with
        | false =>
          rw [hmk] at g14
          -- region 11
          repeat refine HW.seq ?_
          refine HW.region ?_
          refine HL.still (Runs.move g11) ?_
          intro u59 e59
          refine HL.still (Runs.notb e59 (t := true) (u := false) rfl) ?_
          intro u60 e60
          refine HL.still (Runs.move e60) ?_
          intro u61 e61
          refine HL.stillG rfl rfl e61 (Runs.move g10) ?_
          intro u62 e62
          refine HL.stillG rfl rfl e61 (Runs.move g6) ?_
          intro u63 e63
          refine HL.stillG rfl rfl e61 (Runs.neqS e62 e63 (ys := p) (t := false) (by simp)) ?_
          intro u64 e64
          refine HL.still (Runs.pick e61 e64) ?_
          intro u65 e65
          refine HL.still (Runs.move e65) ?_
          intro u66 e66
          refine HL.stillG rfl rfl e66 (Runs.move g6) ?_
          intro u67 e67
          refine HL.stillG rfl rfl e66 (Runs.eqS e67 rfl (ys := []) (t := false) (beq_eq_false_iff_ne.2 hne)) ?_
          intro u68 e68
          refine HL.still (Runs.pick e66 e68) ?_
          intro u69 e69
          refine HL.still (Runs.move e69) ?_
          intro u70 e70
          refine HL.stillG rfl rfl e70 (Runs.move g14) ?_
          intro u71 e71
          refine HL.stillG rfl rfl e70 (Runs.move e71) ?_
          intro u72 e72
          refine HL.skipG rfl rfl e72 ?_
          intro u73 e73
          refine HL.skipG rfl rfl e72 ?_
          intro u74 e74
          refine HL.stillG rfl rfl e70 (Runs.pick e72 rfl) ?_
          intro u75 e75
          refine HL.stillG rfl rfl e70 (Runs.move e75) ?_
          intro u76 e76
          refine HL.skipG rfl rfl e76 ?_
          intro u77 e77
          refine HL.skipG rfl rfl e76 ?_
          intro u78 e78
          refine HL.skipG rfl rfl e76 ?_
          intro u79 e79
          refine HL.stillG rfl rfl e70 (Runs.pick e76 rfl) ?_
          intro u80 e80
          refine HL.still (Runs.pick e70 e80) ?_
          intro u81 e81
          refine HL.nil ?_
          exact ⟨rfl, p0, p1, e5, g6, g12, g13, g14, e81⟩
        | true =>
          rw [hmk] at g14
          by_cases q : mo = 0
          · have hq : mp = p := hmz hmk q
            -- region 11
            repeat refine HW.seq ?_
            refine HW.region ?_
            refine HL.still (Runs.move g11) ?_
            intro u59 e59
            refine HL.still (Runs.notb e59 (t := true) (u := false) rfl) ?_
            intro u60 e60
            refine HL.still (Runs.move e60) ?_
            intro u61 e61
            refine HL.stillG rfl rfl e61 (Runs.move g10) ?_
            intro u62 e62
            refine HL.stillG rfl rfl e61 (Runs.move g6) ?_
            intro u63 e63
            refine HL.stillG rfl rfl e61 (Runs.neqS e62 e63 (ys := p) (t := false) (by simp)) ?_
            intro u64 e64
            refine HL.still (Runs.pick e61 e64) ?_
            intro u65 e65
            refine HL.still (Runs.move e65) ?_
            intro u66 e66
            refine HL.stillG rfl rfl e66 (Runs.move g6) ?_
            intro u67 e67
            refine HL.stillG rfl rfl e66 (Runs.eqS e67 rfl (ys := []) (t := false) (beq_eq_false_iff_ne.2 hne)) ?_
            intro u68 e68
            refine HL.still (Runs.pick e66 e68) ?_
            intro u69 e69
            refine HL.still (Runs.move e69) ?_
            intro u70 e70
            refine HL.stillG rfl rfl e70 (Runs.move g14) ?_
            intro u71 e71
            refine HL.stillG rfl rfl e70 (Runs.move e71) ?_
            intro u72 e72
            refine HL.stillG rfl rfl e72 (Runs.move g12) ?_
            intro u73 e73
            refine HL.stillG rfl rfl e72 (Runs.eql e73 rfl (b := 0) (t := true) (by simpa using q)) ?_
            intro u74 e74
            refine HL.stillG rfl rfl e70 (Runs.pick e72 e74) ?_
            intro u75 e75
            refine HL.stillG rfl rfl e70 (Runs.move e75) ?_
            intro u76 e76
            refine HL.stillG rfl rfl e76 (Runs.move g13) ?_
            intro u77 e77
            refine HL.stillG rfl rfl e76 (Runs.move g6) ?_
            intro u78 e78
            refine HL.stillG rfl rfl e76 (Runs.neqS e77 e78 (xs := mp) (ys := p) (t := false) (by rw [hq]; simp)) ?_
            intro u79 e79
            refine HL.stillG rfl rfl e70 (Runs.pick e76 e79) ?_
            intro u80 e80
            refine HL.still (Runs.pick e70 e80) ?_
            intro u81 e81
            refine HL.nil ?_
            exact ⟨rfl, p0, p1, e5, g6, g12, g13, g14, e81⟩
          · skip
            -- region 11
            repeat refine HW.seq ?_
            refine HW.region ?_
            refine HL.still (Runs.move g11) ?_
            intro u59 e59
            refine HL.still (Runs.notb e59 (t := true) (u := false) rfl) ?_
            intro u60 e60
            refine HL.still (Runs.move e60) ?_
            intro u61 e61
            refine HL.stillG rfl rfl e61 (Runs.move g10) ?_
            intro u62 e62
            refine HL.stillG rfl rfl e61 (Runs.move g6) ?_
            intro u63 e63
            refine HL.stillG rfl rfl e61 (Runs.neqS e62 e63 (ys := p) (t := false) (by simp)) ?_
            intro u64 e64
            refine HL.still (Runs.pick e61 e64) ?_
            intro u65 e65
            refine HL.still (Runs.move e65) ?_
            intro u66 e66
            refine HL.stillG rfl rfl e66 (Runs.move g6) ?_
            intro u67 e67
            refine HL.stillG rfl rfl e66 (Runs.eqS e67 rfl (ys := []) (t := false) (beq_eq_false_iff_ne.2 hne)) ?_
            intro u68 e68
            refine HL.still (Runs.pick e66 e68) ?_
            intro u69 e69
            refine HL.still (Runs.move e69) ?_
            intro u70 e70
            refine HL.stillG rfl rfl e70 (Runs.move g14) ?_
            intro u71 e71
            refine HL.stillG rfl rfl e70 (Runs.move e71) ?_
            intro u72 e72
            refine HL.stillG rfl rfl e72 (Runs.move g12) ?_
            intro u73 e73
            refine HL.stillG rfl rfl e72 (Runs.eql e73 rfl (b := 0) (t := false) (by simpa using q)) ?_
            intro u74 e74
            refine HL.stillG rfl rfl e70 (Runs.pick e72 e74) ?_
            intro u75 e75
            refine HL.stillG rfl rfl e70 (Runs.move e75) ?_
            intro u76 e76
            refine HL.skipG rfl rfl e76 ?_
            intro u77 e77
            refine HL.skipG rfl rfl e76 ?_
            intro u78 e78
            refine HL.skipG rfl rfl e76 ?_
            intro u79 e79
            refine HL.stillG rfl rfl e70 (Runs.pick e76 rfl) ?_
            intro u80 e80
            refine HL.still (Runs.pick e70 e80) ?_
            intro u81 e81
            refine HL.nil ?_
            exact ⟨rfl, p0, p1, e5, g6, g12, g13, g14, e81⟩
      clear e5 g6 g12 g13 g14 g10 g11 p0 p1 e10 e11 e12 e13 e14
      rintro f g ⟨hg, f0, f1, f5, f6, f12, f13, f14, f81⟩
      rw [hg]
      clear hg
      refine HW.no f81 ?_
      refine HW.skip ?_
      -- region 13
      repeat refine HW.seq ?_
      refine HW.region ?_
      refine HL.still (Runs.move f14) ?_
      intro u82 e82
      refine HL.nil ?_
      cases hmk : mk with
      | false =>
        have g82 : u82 = .bool false := e82.trans (congrArg Value.bool hmk)
        refine HW.no g82 ?_
        refine HW.skip ?_
        exact ⟨XB, f0, f1, f5⟩
      | true =>
        have g82 : u82 = .bool true := e82.trans (congrArg Value.bool hmk)
        refine HW.yes g82 ?_
        -- region 14
        repeat refine HW.seq ?_
        refine HW.region ?_
        refine HL.still (Runs.move f12) ?_
        intro u84 e84
        refine HL.still (Runs.move f13) ?_
        intro u85 e85
        refine HL.one (HO.call Tryd.func19 bd19 nm19 (args2 e84 e85) rfl ((unmark_is (hmu hmk) hml).mono ?_))
        rintro _ h6 ⟨rfl, X6⟩
        intro u86 e86
        refine HL.still (Runs.move e86) ?_
        intro u83 e83
        refine HL.still (Runs.extr e83 rfl) ?_
        intro u87 e87
        refine HL.still (Runs.extr e83 rfl) ?_
        intro u88 e88
        refine HL.still (Runs.assign e87) ?_
        intro u15 e15
        refine HL.still (Runs.assign e88) ?_
        intro u16 e16
        refine HL.nil ?_
        -- region 15
        repeat refine HW.seq ?_
        refine HW.region ?_
        refine HL.still (Runs.move e16) ?_
        intro u89 e89
        refine HL.still (Runs.notb e89 (t := true) (u := false) rfl) ?_
        intro u90 e90
        refine HL.still (Runs.move e90) ?_
        intro u91 e91
        refine HL.stillG rfl rfl e91 (Runs.move e15) ?_
        intro u92 e92
        refine HL.stillG rfl rfl e91 (Runs.move f6) ?_
        intro u93 e93
        refine HL.stillG rfl rfl e91 (Runs.neqS e92 e93 (ys := p) (t := false) (by simp)) ?_
        intro u94 e94
        refine HL.still (Runs.pick e91 e94) ?_
        intro u95 e95
        refine HL.nil ?_
        repeat refine HW.seq ?_
        refine HW.no ?_ ?_
        exact e95
        refine HW.skip ?_
        exact ⟨XB.ext X6 (Nat.le_refl _), f0, f1, f5⟩
  clear e4 e5 e6 e7 e8 e9 g6 g7 g8 g9 p0 p1
  rintro f g ⟨XG, f0, f1, f5⟩
  -- region 17
  repeat refine HW.seq ?_
  refine HW.region ?_
  refine HL.still (Runs.move f1) ?_
  intro u97 e97
  refine HL.still (Runs.move f0) ?_
  intro u98 e98
  refine HL.one (HO.call Tryd.func19 bd19 nm19 (args2 e97 e98) rfl ((unmark_ch g n a (by omega)).mono ?_))
  rintro _ h7 ⟨rfl, X7⟩
  intro u99 e99
  refine HL.still (Runs.move e99) ?_
  intro u96 e96
  refine HL.still (Runs.extr e96 rfl) ?_
  intro u100 e100
  refine HL.still (Runs.extr e96 rfl) ?_
  intro u101 e101
  refine HL.still (Runs.assign e100) ?_
  intro u17 e17
  refine HL.still (Runs.assign e101) ?_
  intro u18 e18
  refine HL.nil ?_
  have XH : Ext h h7 := XG.ext X7 (Nat.le_refl _)
  have g17 : u17 = S8 (unmarkO n a).1 := e17
  have g18 : u18 = .bool (unmarkO n a).2 := e18
  cases hu : (unmarkO n a).2 with
  | false =>
    rw [hu] at g18
    rw [unmarkO_no hu] at g17
    -- region 18
    repeat refine HW.seq ?_
    refine HW.region ?_
    refine HL.still (Runs.move g18) ?_
    intro u102 e102
    refine HL.still (Runs.notb e102 (t := false) (u := true) rfl) ?_
    intro u103 e103
    refine HL.nil ?_
    repeat refine HW.seq ?_
    refine HW.yes ?_ ?_
    exact e103
    -- region 19
    repeat refine HW.seq ?_
    refine HW.region ?_
    refine HL.still (Runs.move f5) ?_
    intro u104 e104
    refine HL.still (Runs.move e104) ?_
    intro u105 e105
    refine HL.stillG rfl rfl e105 (Runs.move g17) ?_
    intro u106 e106
    refine HL.stillG rfl rfl e105 (Runs.eqS e106 rfl (ys := []) (t := true) rfl) ?_
    intro u107 e107
    refine HL.still (Runs.pick e105 e107) ?_
    intro u108 e108
    refine HL.still (Runs.assign e108) ?_
    intro u4 e4
    refine HL.nil ?_
    refine HW.ret ?_
    exact RT.one rfl e4 ⟨rfl, XH⟩
  | true =>
    have hmy := unmarkO_yes hu
    have hul := unmarkS_le n a
    have hul2 : (unmarkO n a).1.length ≤ 10000 := by
      unfold unmarkO
      split
      · show (unmarkS n a).length ≤ 10000; omega
      · exact Nat.zero_le _
    rw [hu] at g18
    -- region 18
    repeat refine HW.seq ?_
    refine HW.region ?_
    refine HL.still (Runs.move g18) ?_
    intro u102 e102
    refine HL.still (Runs.notb e102 (t := true) (u := false) rfl) ?_
    intro u103 e103
    refine HL.nil ?_
    repeat refine HW.seq ?_
    refine HW.no ?_ ?_
    exact e103
    refine HW.skip ?_
    -- region 20
    repeat refine HW.seq ?_
    refine HW.region ?_
    refine HL.still (Runs.move g17) ?_
    intro u110 e110
    refine HL.one (HO.call Tryd.func17 bd17 nm17 (args1 e110) rfl ((mark_is hmy hul2).mono ?_))
    rintro _ h8 ⟨rfl, X8⟩
    intro u111 e111
    refine HL.still (Runs.move e111) ?_
    intro u109 e109
    refine HL.still (Runs.extr e109 rfl) ?_
    intro u112 e112
    refine HL.still (Runs.extr e109 rfl) ?_
    intro u113 e113
    refine HL.still (Runs.extr e109 rfl) ?_
    intro u114 e114
    refine HL.still (Runs.assign e112) ?_
    intro u19 e19
    refine HL.still (Runs.assign e113) ?_
    intro u20 e20
    refine HL.still (Runs.assign e114) ?_
    intro u21 e21
    refine HL.nil ?_
    -- region 21
    repeat refine HW.seq ?_
    refine HW.region ?_
    refine HL.still (Runs.move f5) ?_
    intro u115 e115
    refine HL.still (Runs.move e115) ?_
    intro u116 e116
    refine HL.stillG rfl rfl e116 (Runs.move e21) ?_
    intro u117 e117
    refine HL.still (Runs.pick e116 e117) ?_
    intro u118 e118
    refine HL.still (Runs.move e118) ?_
    intro u119 e119
    refine HL.stillG rfl rfl e119 (Runs.move e19) ?_
    intro u120 e120
    refine HL.stillG rfl rfl e119 (Runs.move f1) ?_
    intro u121 e121
    refine HL.stillG rfl rfl e119 (Runs.eql e120 e121 (t := true) (by simp)) ?_
    intro u122 e122
    refine HL.still (Runs.pick e119 e122) ?_
    intro u123 e123
    refine HL.still (Runs.move e123) ?_
    intro u124 e124
    refine HL.stillG rfl rfl e124 (Runs.move e20) ?_
    intro u125 e125
    refine HL.stillG rfl rfl e124 (Runs.move f0) ?_
    intro u126 e126
    refine HL.stillG rfl rfl e124 (Runs.eqS e125 e126 (ys := a) (t := true) (by simp)) ?_
    intro u127 e127
    refine HL.still (Runs.pick e124 e127) ?_
    intro u128 e128
    refine HL.still (Runs.assign e128) ?_
    intro u4 e4
    refine HL.nil ?_
    refine HW.ret ?_
    exact RT.one rfl e4 ⟨rfl, XH.ext X8 (Nat.le_refl _)⟩
end Go.Proofs.YtfnippeemboljaaDoor
