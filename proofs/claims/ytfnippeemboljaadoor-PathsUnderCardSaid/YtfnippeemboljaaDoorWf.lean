/- Mark and Unmark, both. -/
import Derived.Test.YtfnippeemboljaaDoorWe
namespace Go.Proofs.YtfnippeemboljaaDoor
set_option linter.unnecessarySimpa false
set_option linter.unusedSimpArgs false
set_option linter.unusedVariables false
open Go.RowKit
def markV (m : Int × Str × Bool) : Value := .tuple #[I64 m.1, S8 m.2.1, .bool m.2.2]
theorem parent_le (s : Str) : (parentO s).length ≤ s.length := by
  have := joinS_take_le (parts s) ((parts s).length - 1)
  rw [join_parts] at this
  exact this
theorem cut_if (s : Str) (hm : marked s = true) : (if wh.isPrefixOf s = true then s.drop wh.length else s) = s.drop 4 := by
  rw [if_pos (show wh.isPrefixOf s = true from hm)]
  rfl
theorem mark_ch (h : Heap) (s : Str) (hs : s.length ≤ 10000) : CH Tryd.prog 17 #[S8 s] h fun v h' => v = markV (markO s) ∧ Ext h h' := by
  refine CH.of_body Tryd.func17 rfl rfl rfl ?_
  intro f hf
  have p0 : f 0 = S8 s := by rw [hf]; exact fr0_at rfl
  have hpl := parent_le s
  have hll := last_len s
  -- region 0
  repeat refine HW.seq ?_
  refine HW.region ?_
  refine HL.still (Runs.assign rfl) ?_
  intro u2 e2
  refine HL.still (Runs.assign rfl) ?_
  intro u3 e3
  refine HL.still (Runs.assign rfl) ?_
  intro u4 e4
  refine HL.nil ?_
  -- region 1
  repeat refine HW.seq ?_
  refine HW.region ?_
  refine HL.still (Runs.move p0) ?_
  intro u10 e10
  refine HL.one (HO.call Tryd.func34 bd34 nm34 (args1 e10) rfl ((split2_ch h s (by omega)).mono ?_))
  rintro _ h1 ⟨rfl, hh1⟩
  intro u11 e11
  refine HL.still (Runs.move e11) ?_
  intro u9 e9
  refine HL.still (Runs.extr e9 rfl) ?_
  intro u12 e12
  refine HL.still (Runs.extr e9 rfl) ?_
  intro u13 e13
  refine HL.still (Runs.assign e12) ?_
  intro u5 e5
  refine HL.still (Runs.assign e13) ?_
  intro u6 e6
  refine HL.nil ?_
  rw [hh1]
  clear hh1
  -- region 2
  repeat refine HW.seq ?_
  refine HW.region ?_
  refine HL.still (Runs.move e6) ?_
  intro u15 e15
  refine HL.one (HO.call Tryd.func36 bd36 nm36 (args2 e15 rfl) rfl ((cutPre_ch h (lastS (parts s)) wh).mono ?_))
  rintro _ h2 ⟨rfl, hh2⟩
  intro u16 e16
  refine HL.still (Runs.move e16) ?_
  intro u14 e14
  refine HL.still (Runs.extr e14 rfl) ?_
  intro u17 e17
  refine HL.still (Runs.extr e14 rfl) ?_
  intro u18 e18
  refine HL.still (Runs.assign e17) ?_
  intro u7 e7
  refine HL.still (Runs.assign e18) ?_
  intro u8 e8
  refine HL.nil ?_
  rw [hh2]
  clear hh2
  have g5 : u5 = S8 (parentO s) := e5
  have g6 : u6 = S8 (lastS (parts s)) := e6
  have g8 : u8 = .bool (marked (lastS (parts s))) := e8
  have g7 : marked (lastS (parts s)) = true → u7 = S8 ((lastS (parts s)).drop 4) := fun hm => e7.trans (congrArg S8 (cut_if _ hm))
  clear e5 e6 e7 e8
  have hdl : ((lastS (parts s)).drop 4).length ≤ 10000 := by rw [List.length_drop]; omega
  repeat refine HW.seq ?_
  refine HW.block ?_
  cases hi : isPath s with
  | false =>
    -- region 3
    repeat refine HW.seq ?_
    refine HW.region ?_
    refine HL.still (Runs.move p0) ?_
    intro u20 e20
    refine HL.one (HO.call Tryd.func25 bd25 nm25 (args1 e20) rfl ((is_ch h s hs).mono ?_))
    rintro _ h3 ⟨rfl, X3⟩
    intro u21 e21
    refine HL.still (Runs.notb (t := false) (u := true) (e21.trans (congrArg Value.bool hi)) rfl) ?_
    intro u22 e22
    refine HL.still (Runs.assign e22) ?_
    intro u19 e19
    refine HL.nil ?_
    refine HW.yes e19 ?_
    -- region 4
    repeat refine HW.seq ?_
    refine HW.region ?_
    refine HL.still (Runs.assign rfl) ?_
    intro u2 e2
    refine HL.still (Runs.assign rfl) ?_
    intro u3 e3
    refine HL.still (Runs.assign rfl) ?_
    intro u4 e4
    refine HL.nil ?_
    refine HW.ret ?_
    exact RT.three rfl e2 e3 e4 ⟨by unfold markO; rw [if_pos hi]; rfl, X3⟩
  | true =>
    have hi' : ¬ isPath s = false := by rw [hi]; decide
    -- region 3
    repeat refine HW.seq ?_
    refine HW.region ?_
    refine HL.still (Runs.move p0) ?_
    intro u20 e20
    refine HL.one (HO.call Tryd.func25 bd25 nm25 (args1 e20) rfl ((is_ch h s hs).mono ?_))
    rintro _ h3 ⟨rfl, X3⟩
    intro u21 e21
    refine HL.still (Runs.notb (t := true) (u := false) (e21.trans (congrArg Value.bool hi)) rfl) ?_
    intro u22 e22
    refine HL.still (Runs.assign e22) ?_
    intro u19 e19
    refine HL.nil ?_
    refine HW.no e19 ?_
    cases hm : marked (lastS (parts s)) with
    | false =>
      rw [hm] at g8
      -- region 5
      repeat refine HW.seq ?_
      refine HW.region ?_
      refine HL.still (Runs.move g8) ?_
      intro u24 e24
      refine HL.still (Runs.notb e24 (t := false) (u := true) rfl) ?_
      intro u25 e25
      refine HL.still (Runs.assign e25) ?_
      intro u23 e23
      refine HL.nil ?_
      refine HW.yes e23 ?_
      -- region 6
      repeat refine HW.seq ?_
      refine HW.region ?_
      refine HL.still (Runs.move p0) ?_
      intro u26 e26
      refine HL.still (Runs.assign rfl) ?_
      intro u2 e2
      refine HL.still (Runs.assign e26) ?_
      intro u3 e3
      refine HL.still (Runs.assign rfl) ?_
      intro u4 e4
      refine HL.nil ?_
      refine HW.ret ?_
      exact RT.three rfl e2 e3 e4 ⟨by unfold markO; rw [if_neg hi', if_pos hm]; rfl, X3⟩
    | true =>
      have hm' : ¬ marked (lastS (parts s)) = false := by rw [hm]; decide
      have g7' := g7 hm
      rw [hm] at g8
      -- region 5
      repeat refine HW.seq ?_
      refine HW.region ?_
      refine HL.still (Runs.move g8) ?_
      intro u24 e24
      refine HL.still (Runs.notb e24 (t := true) (u := false) rfl) ?_
      intro u25 e25
      refine HL.still (Runs.assign e25) ?_
      intro u23 e23
      refine HL.nil ?_
      refine HW.no e23 ?_
      by_cases ho : lastS (parts s) = opq
      · skip
        -- region 7
        repeat refine HW.seq ?_
        refine HW.region ?_
        refine HL.still (Runs.move g6) ?_
        intro u28 e28
        refine HL.still (Runs.eqS e28 rfl (ys := opq) (t := true) (by rw [ho]; rfl)) ?_
        intro u29 e29
        refine HL.still (Runs.assign e29) ?_
        intro u27 e27
        refine HL.nil ?_
        refine HW.yes e27 ?_
        -- region 8
        repeat refine HW.seq ?_
        refine HW.region ?_
        refine HL.still (Runs.move g5) ?_
        intro u30 e30
        refine HL.still (Runs.assign rfl) ?_
        intro u2 e2
        refine HL.still (Runs.assign e30) ?_
        intro u3 e3
        refine HL.still (Runs.assign rfl) ?_
        intro u4 e4
        refine HL.nil ?_
        refine HW.ret ?_
        exact RT.three rfl e2 e3 e4 ⟨by unfold markO; rw [if_neg hi', if_neg hm', if_pos ho]; rfl, X3⟩
      · skip
        -- region 7
        repeat refine HW.seq ?_
        refine HW.region ?_
        refine HL.still (Runs.move g6) ?_
        intro u28 e28
        refine HL.still (Runs.eqS e28 rfl (ys := opq) (t := false) (beq_eq_false_iff_ne.2 ho)) ?_
        intro u29 e29
        refine HL.still (Runs.assign e29) ?_
        intro u27 e27
        refine HL.nil ?_
        refine HW.no e27 ?_
        cases hb : isBad ((lastS (parts s)).drop 4) with
        | true =>
          -- region 9
          repeat refine HW.seq ?_
          refine HW.region ?_
          refine HL.still (Runs.move g7') ?_
          intro u32 e32
          refine HL.one (HO.call Tryd.func37 bd37 nm37 (args1 e32) rfl ((bad_ch h3 ((lastS (parts s)).drop 4)).mono ?_))
          rintro _ h4 ⟨rfl, hh4⟩
          intro u33 e33
          refine HL.still (Runs.move (e33.trans (congrArg Value.bool hb))) ?_
          intro u34 e34
          refine HL.skipG rfl rfl e34 ?_
          intro u35 e35
          refine HL.skipG rfl rfl e34 ?_
          intro u36 e36
          refine HL.still (Runs.pick e34 rfl) ?_
          intro u37 e37
          refine HL.still (Runs.assign e37) ?_
          intro u31 e31
          refine HL.nil ?_
          refine HW.yes e31 ?_
          -- region 10
          repeat refine HW.seq ?_
          refine HW.region ?_
          refine HL.still (Runs.assign rfl) ?_
          intro u2 e2
          refine HL.still (Runs.assign rfl) ?_
          intro u3 e3
          refine HL.still (Runs.assign rfl) ?_
          intro u4 e4
          refine HL.nil ?_
          refine HW.ret ?_
          exact RT.three rfl e2 e3 e4 ⟨by unfold markO; rw [if_neg hi', if_neg hm', if_neg ho, hb]; rfl, by rw [hh4]; exact X3⟩
        | false =>
          cases hmm : marked ((lastS (parts s)).drop 4) with
          | true =>
            -- region 9
            repeat refine HW.seq ?_
            refine HW.region ?_
            refine HL.still (Runs.move g7') ?_
            intro u32 e32
            refine HL.one (HO.call Tryd.func37 bd37 nm37 (args1 e32) rfl ((bad_ch h3 ((lastS (parts s)).drop 4)).mono ?_))
            rintro _ h4 ⟨rfl, hh4⟩
            intro u33 e33
            refine HL.still (Runs.move (e33.trans (congrArg Value.bool hb))) ?_
            intro u34 e34
            refine HL.stillG rfl rfl e34 (Runs.move g7') ?_
            intro u35 e35
            refine HL.oneG rfl rfl e34 (HO.call Tryd.func35 bd35 nm35 (args2 e35 rfl) rfl ((hasPre_ch h4 ((lastS (parts s)).drop 4) wh).mono ?_))
            rintro _ h5 ⟨rfl, hh5⟩
            intro u36 e36
            refine HL.still (Runs.pick e34 e36) ?_
            intro u37 e37
            refine HL.still (Runs.assign e37) ?_
            intro u31 e31
            refine HL.nil ?_
            have g31 : u31 = .bool true := e31.trans (congrArg Value.bool hmm)
            refine HW.yes g31 ?_
            -- region 10
            repeat refine HW.seq ?_
            refine HW.region ?_
            refine HL.still (Runs.assign rfl) ?_
            intro u2 e2
            refine HL.still (Runs.assign rfl) ?_
            intro u3 e3
            refine HL.still (Runs.assign rfl) ?_
            intro u4 e4
            refine HL.nil ?_
            refine HW.ret ?_
            exact RT.three rfl e2 e3 e4 ⟨by unfold markO; rw [if_neg hi', if_neg hm', if_neg ho, hb, hmm]; rfl, by rw [hh5, hh4]; exact X3⟩
          | false =>
            -- region 9
            repeat refine HW.seq ?_
            refine HW.region ?_
            refine HL.still (Runs.move g7') ?_
            intro u32 e32
            refine HL.one (HO.call Tryd.func37 bd37 nm37 (args1 e32) rfl ((bad_ch h3 ((lastS (parts s)).drop 4)).mono ?_))
            rintro _ h4 ⟨rfl, hh4⟩
            intro u33 e33
            refine HL.still (Runs.move (e33.trans (congrArg Value.bool hb))) ?_
            intro u34 e34
            refine HL.stillG rfl rfl e34 (Runs.move g7') ?_
            intro u35 e35
            refine HL.oneG rfl rfl e34 (HO.call Tryd.func35 bd35 nm35 (args2 e35 rfl) rfl ((hasPre_ch h4 ((lastS (parts s)).drop 4) wh).mono ?_))
            rintro _ h5 ⟨rfl, hh5⟩
            intro u36 e36
            refine HL.still (Runs.pick e34 e36) ?_
            intro u37 e37
            refine HL.still (Runs.assign e37) ?_
            intro u31 e31
            refine HL.nil ?_
            have g31 : u31 = .bool false := e31.trans (congrArg Value.bool hmm)
            refine HW.no g31 ?_
            refine HW.skip ?_
            -- region 11
            repeat refine HW.seq ?_
            refine HW.region ?_
            refine HL.still (Runs.move g5) ?_
            intro u38 e38
            refine HL.still (Runs.move g7') ?_
            intro u39 e39
            refine HL.one (HO.call Tryd.func38 bd38 nm38 (args2 e38 e39) rfl ((below_ch h5 (parentO s) ((lastS (parts s)).drop 4) (by omega) (by omega)).mono ?_))
            rintro _ h6 ⟨rfl, hh6⟩
            intro u40 e40
            refine HL.still (Runs.assign rfl) ?_
            intro u2 e2
            refine HL.still (Runs.assign e40) ?_
            intro u3 e3
            refine HL.still (Runs.assign rfl) ?_
            intro u4 e4
            refine HL.nil ?_
            refine HW.ret ?_
            exact RT.three rfl e2 e3 e4 ⟨by unfold markO; rw [if_neg hi', if_neg hm', if_neg ho, hb, hmm]; rfl, by rw [hh6, hh5, hh4]; exact X3⟩
theorem take4 (s : Str) : (s.take 4 == wh) = marked s := by
  unfold marked
  rw [Bool.eq_iff_iff, List.isPrefixOf_iff_prefix, beq_iff_eq]
  constructor
  · intro h
    exact ⟨s.drop 4, by rw [← h]; exact List.take_append_drop 4 s⟩
  · rintro ⟨t, rfl⟩
    exact List.take_left' rfl
theorem marked_short (s : Str) (h : s.length < 4) : marked s = false := by
  rw [← take4, beq_eq_false_iff_ne]
  intro e
  have := congrArg List.length e
  rw [List.length_take] at this
  simp [wh] at this
  omega
set_option maxRecDepth 10000 in
theorem rmark_ch (h : Heap) (s : Str) (hs : s.length ≤ 10000) : CH Tryd.prog 18 #[S8 s] h fun v h' => v = markV (markO s) ∧ Ext h h' := by
  refine CH.of_body Tryd.func18 rfl rfl rfl ?_
  intro f hf
  have p0 : f 0 = S8 s := by rw [hf]; exact fr0_at rfl
  have hpl := parent_le s
  have hll := last_len s
  have hpos := List.length_pos_iff.2 (parts_ne s)
  have hpp := parts_le s
  -- region 0
  repeat refine HW.seq ?_
  refine HW.region ?_
  refine HL.still (Runs.assign rfl) ?_
  intro u2 e2
  refine HL.still (Runs.assign rfl) ?_
  intro u3 e3
  refine HL.still (Runs.assign rfl) ?_
  intro u4 e4
  refine HL.nil ?_
  -- region 1
  repeat refine HW.seq ?_
  refine HW.region ?_
  refine HL.still (Runs.move p0) ?_
  intro u11 e11
  refine HL.one (HO.call Tryd.func28 bd28 nm28 (args1 e11) rfl ((ris_ch h s hs).mono ?_))
  rintro _ h1 ⟨rfl, X1⟩
  intro u12 e12
  refine HL.still (Runs.assign e12) ?_
  intro u5 e5
  refine HL.nil ?_
  cases hi : isPath s with
  | false =>
    rw [hi] at e5
    -- region 2
    repeat refine HW.seq ?_
    refine HW.region ?_
    refine HL.still (Runs.move e5) ?_
    intro u13 e13
    refine HL.still (Runs.notb e13 (t := false) (u := true) rfl) ?_
    intro u14 e14
    refine HL.nil ?_
    repeat refine HW.seq ?_
    refine HW.yes ?_ ?_
    exact e14
    -- region 3
    repeat refine HW.seq ?_
    refine HW.region ?_
    refine HL.still (Runs.assign rfl) ?_
    intro u2 e2
    refine HL.still (Runs.assign rfl) ?_
    intro u3 e3
    refine HL.still (Runs.assign rfl) ?_
    intro u4 e4
    refine HL.nil ?_
    refine HW.ret ?_
    exact RT.three rfl e2 e3 e4 ⟨by unfold markO; rw [if_pos hi]; rfl, X1⟩
  | true =>
    have hi' : ¬ isPath s = false := by rw [hi]; decide
    rw [hi] at e5
    -- region 2
    repeat refine HW.seq ?_
    refine HW.region ?_
    refine HL.still (Runs.move e5) ?_
    intro u13 e13
    refine HL.still (Runs.notb e13 (t := true) (u := false) rfl) ?_
    intro u14 e14
    refine HL.nil ?_
    repeat refine HW.seq ?_
    refine HW.no ?_ ?_
    exact e14
    refine HW.skip ?_
    -- region 4
    repeat refine HW.seq ?_
    refine HW.region ?_
    refine HL.still (Runs.move p0) ?_
    intro u15 e15
    refine HL.one (HO.call Tryd.func26 bd26 nm26 (args1 e15) rfl ((rcut_ch h1 s hs).mono ?_))
    rintro _ h2 ⟨a, c, rfl, hR, X2⟩
    intro u16 e16
    refine HL.still (Runs.assign e16) ?_
    intro u6 e6
    refine HL.nil ?_
    have XA : Ext h h2 := X1.ext X2 (Nat.le_refl _)
    have hS : Sts h2 a (parts s) := hR.byt
    have hcap := hR.2
    have htl : ((parts s).take ((parts s).length - 1)).length = (parts s).length - 1 := by rw [List.length_take]; omega
    have hle := joinS_take_le (parts s) ((parts s).length - 1)
    rw [join_parts] at hle
    rcases hR.blk with rfl | ⟨g, rfl, _, _⟩
    · exfalso
      rcases hS with q | ⟨sb, so, q, _⟩
      · exact parts_ne s q
      · cases q
    obtain ⟨sb, so, ha, hc⟩ := hS.at (show (parts s).length - 1 < (parts s).length by omega)
    have hcell : cellH h2 g ((parts s).length - 1) = some (S8 (lastS (parts s))) := by
      cases ha
      rw [Nat.zero_add] at hc
      exact hc
    -- region 5
    repeat refine HW.seq ?_
    refine HW.region ?_
    refine HL.still (Runs.move e6) ?_
    intro u17 e17
    refine HL.still (Runs.move e6) ?_
    intro u18 e18
    refine HL.still (Runs.lenSl rfl Tryd.underlying33 e18) ?_
    intro u19 e19
    refine HL.still (Runs.sub e19 rfl (c := (((parts s).length - 1 : Nat) : Int)) (by rw [i64w (by omega)]; omega)) ?_
    intro u20 e20
    refine HL.still (Runs.ixSl (o' := (parts s).length - 1) Tryd.underlying33 sz9 e17 e20 (by omega) (by omega) (by omega)) ?_
    intro u21 e21
    refine HL.still (Runs.load Tryd.underlying9 rfl e21 hcell) ?_
    intro u22 e22
    refine HL.still (Runs.assign e22) ?_
    intro u7 e7
    refine HL.nil ?_
    -- region 6
    repeat refine HW.seq ?_
    refine HW.region ?_
    refine HL.still (Runs.move e6) ?_
    intro u23 e23
    refine HL.still (Runs.move e6) ?_
    intro u24 e24
    refine HL.still (Runs.lenSl rfl Tryd.underlying33 e24) ?_
    intro u25 e25
    refine HL.still (Runs.sub e25 rfl (c := (((parts s).length - 1 : Nat) : Int)) (by rw [i64w (by omega)]; omega)) ?_
    intro u26 e26
    refine HL.still (Runs.sliceSl Tryd.underlying33 sz9 e23 (lo := 0) (hi := (parts s).length - 1) rfl ⟨_, e26⟩ (Nat.zero_le _) (by omega) (show _ = some (⟨g, 0, none⟩ : Addr) by rw [if_neg (by omega)]; simp [addr_add])) ?_
    intro u27 e27
    refine HL.one (HO.call Tryd.func27 bd27 nm27 (args1 e27) rfl ((rjoin_ch h2 ((parts s).take ((parts s).length - 1)) _ _ _ htl.symm (hS.take _) (by omega) (by omega)).mono ?_))
    rintro _ h3 ⟨rfl, hh3⟩
    intro u28 e28
    refine HL.still (Runs.assign e28) ?_
    intro u8 e8
    refine HL.nil ?_
    rw [hh3]
    clear hh3
    have g8 : u8 = S8 (parentO s) := e8
    have g7 : u7 = S8 (lastS (parts s)) := e7
    clear e6 e7 e8
    cases hm : marked (lastS (parts s)) with
    | false =>
      have hmo : markO s = (0, s, true) := by unfold markO; rw [if_neg hi', if_pos hm]
      by_cases hl : (lastS (parts s)).length < 4
      · skip
        -- region 7
        repeat refine HW.seq ?_
        refine HW.region ?_
        refine HL.still (Runs.move g7) ?_
        intro u29 e29
        refine HL.still (Runs.lenS rfl Tryd.underlying9 e29) ?_
        intro u30 e30
        refine HL.still (Runs.lss e30 rfl (t := true) (decide_eq_true (by omega))) ?_
        intro u31 e31
        refine HL.still (Runs.move e31) ?_
        intro u32 e32
        refine HL.skipG rfl rfl e32 ?_
        intro u33 e33
        refine HL.skipG rfl rfl e32 ?_
        intro u34 e34
        refine HL.skipG rfl rfl e32 ?_
        intro u35 e35
        refine HL.still (Runs.pick e32 rfl) ?_
        intro u36 e36
        refine HL.nil ?_
        repeat refine HW.seq ?_
        refine HW.yes ?_ ?_
        exact e36
        -- region 8
        repeat refine HW.seq ?_
        refine HW.region ?_
        refine HL.still (Runs.move p0) ?_
        intro u37 e37
        refine HL.still (Runs.assign rfl) ?_
        intro u2 e2
        refine HL.still (Runs.assign e37) ?_
        intro u3 e3
        refine HL.still (Runs.assign rfl) ?_
        intro u4 e4
        refine HL.nil ?_
        refine HW.ret ?_
        exact RT.three rfl e2 e3 e4 ⟨by rw [hmo]; rfl, XA⟩
      · skip
        -- region 7
        repeat refine HW.seq ?_
        refine HW.region ?_
        refine HL.still (Runs.move g7) ?_
        intro u29 e29
        refine HL.still (Runs.lenS rfl Tryd.underlying9 e29) ?_
        intro u30 e30
        refine HL.still (Runs.lss e30 rfl (t := false) (decide_eq_false (by omega))) ?_
        intro u31 e31
        refine HL.still (Runs.move e31) ?_
        intro u32 e32
        refine HL.stillG rfl rfl e32 (Runs.move g7) ?_
        intro u33 e33
        refine HL.stillG rfl rfl e32 (Runs.sliceS Tryd.underlying9 e33 (lo := 0) (hi := 4) rfl ⟨_, rfl⟩ (Nat.zero_le _) (by omega)) ?_
        intro u34 e34
        refine HL.stillG rfl rfl e32 (Runs.neqS e34 rfl (ys := wh) (t := true) (by rw [List.drop_zero, take4, hm]; rfl)) ?_
        intro u35 e35
        refine HL.still (Runs.pick e32 e35) ?_
        intro u36 e36
        refine HL.nil ?_
        repeat refine HW.seq ?_
        refine HW.yes ?_ ?_
        exact e36
        -- region 8
        repeat refine HW.seq ?_
        refine HW.region ?_
        refine HL.still (Runs.move p0) ?_
        intro u37 e37
        refine HL.still (Runs.assign rfl) ?_
        intro u2 e2
        refine HL.still (Runs.assign e37) ?_
        intro u3 e3
        refine HL.still (Runs.assign rfl) ?_
        intro u4 e4
        refine HL.nil ?_
        refine HW.ret ?_
        exact RT.three rfl e2 e3 e4 ⟨by rw [hmo]; rfl, XA⟩
    | true =>
      have hm' : ¬ marked (lastS (parts s)) = false := by rw [hm]; decide
      have hl : 4 ≤ (lastS (parts s)).length := by
        refine Nat.le_of_not_lt fun q => ?_
        rw [marked_short _ q] at hm
        cases hm
      -- region 7
      repeat refine HW.seq ?_
      refine HW.region ?_
      refine HL.still (Runs.move g7) ?_
      intro u29 e29
      refine HL.still (Runs.lenS rfl Tryd.underlying9 e29) ?_
      intro u30 e30
      refine HL.still (Runs.lss e30 rfl (t := false) (decide_eq_false (by omega))) ?_
      intro u31 e31
      refine HL.still (Runs.move e31) ?_
      intro u32 e32
      refine HL.stillG rfl rfl e32 (Runs.move g7) ?_
      intro u33 e33
      refine HL.stillG rfl rfl e32 (Runs.sliceS Tryd.underlying9 e33 (lo := 0) (hi := 4) rfl ⟨_, rfl⟩ (Nat.zero_le _) hl) ?_
      intro u34 e34
      refine HL.stillG rfl rfl e32 (Runs.neqS e34 rfl (ys := wh) (t := false) (by rw [List.drop_zero, take4, hm]; rfl)) ?_
      intro u35 e35
      refine HL.still (Runs.pick e32 e35) ?_
      intro u36 e36
      refine HL.nil ?_
      repeat refine HW.seq ?_
      refine HW.no ?_ ?_
      exact e36
      refine HW.skip ?_
      by_cases ho : lastS (parts s) = opq
      · skip
        -- region 9
        repeat refine HW.seq ?_
        refine HW.region ?_
        refine HL.still (Runs.move g7) ?_
        intro u38 e38
        refine HL.still (Runs.eqS e38 rfl (ys := opq) (t := true) (by rw [ho]; rfl)) ?_
        intro u39 e39
        refine HL.nil ?_
        repeat refine HW.seq ?_
        refine HW.yes ?_ ?_
        exact e39
        -- region 10
        repeat refine HW.seq ?_
        refine HW.region ?_
        refine HL.still (Runs.move g8) ?_
        intro u40 e40
        refine HL.still (Runs.assign rfl) ?_
        intro u2 e2
        refine HL.still (Runs.assign e40) ?_
        intro u3 e3
        refine HL.still (Runs.assign rfl) ?_
        intro u4 e4
        refine HL.nil ?_
        refine HW.ret ?_
        exact RT.three rfl e2 e3 e4 ⟨by unfold markO; rw [if_neg hi', if_neg hm', if_pos ho]; rfl, XA⟩
      · skip
        -- region 9
        repeat refine HW.seq ?_
        refine HW.region ?_
        refine HL.still (Runs.move g7) ?_
        intro u38 e38
        refine HL.still (Runs.eqS e38 rfl (ys := opq) (t := false) (beq_eq_false_iff_ne.2 ho)) ?_
        intro u39 e39
        refine HL.nil ?_
        repeat refine HW.seq ?_
        refine HW.no ?_ ?_
        exact e39
        refine HW.skip ?_
        have hdd : List.drop 4 (List.take (lastS (parts s)).length (lastS (parts s))) = (lastS (parts s)).drop 4 := by rw [List.take_of_length_le (Nat.le_refl _)]
        obtain ⟨d, hd⟩ : ∃ d, d = (lastS (parts s)).drop 4 := ⟨_, rfl⟩
        have hdl : d.length ≤ 10000 := by rw [hd, List.length_drop]; omega
        -- region 11
        repeat refine HW.seq ?_
        refine HW.region ?_
        refine HL.still (Runs.move g7) ?_
        intro u41 e41
        refine HL.still (Runs.sliceS Tryd.underlying9 e41 (lo := 4) (hi := (lastS (parts s)).length) ⟨_, rfl⟩ rfl hl (Nat.le_refl _)) ?_
        intro u42 e42
        refine HL.still (Runs.assign e42) ?_
        intro u9 e9
        refine HL.nil ?_
        have g9 : u9 = S8 d := e9.trans (congrArg S8 (hdd.trans hd.symm))
        clear e9
        -- region 12
        repeat refine HW.seq ?_
        refine HW.region ?_
        refine HL.still (Runs.move g9) ?_
        intro u43 e43
        refine HL.one (HO.call Tryd.func39 bd39 nm39 (args1 e43) rfl ((part_ch h2 d (by omega)).mono ?_))
        rintro _ h4 ⟨rfl, hh4⟩
        intro u44 e44
        refine HL.still (Runs.assign e44) ?_
        intro u10 e10
        refine HL.nil ?_
        rw [hh4]
        clear hh4
        have hmo : markO s = if (isBad d || marked d) = true then (0, [], false) else (1, belowO (parentO s) d, true) := by
          unfold markO
          rw [if_neg hi', if_neg hm', if_neg ho, hd]
        cases hb : isBad d with
        | true =>
          rw [hb] at e10 hmo
          -- region 13
          repeat refine HW.seq ?_
          refine HW.region ?_
          refine HL.still (Runs.move e10) ?_
          intro u45 e45
          refine HL.still (Runs.notb e45 (t := false) (u := true) rfl) ?_
          intro u46 e46
          refine HL.still (Runs.move e46) ?_
          intro u47 e47
          refine HL.skipG rfl rfl e47 ?_
          intro u48 e48
          refine HL.skipG rfl rfl e47 ?_
          intro u49 e49
          refine HL.skipG rfl rfl e47 ?_
          intro u50 e50
          refine HL.skipG rfl rfl e47 ?_
          intro u51 e51
          refine HL.skipU rfl rfl e51 ?_
          intro u52 e52
          refine HL.skipU rfl rfl e51 ?_
          intro u53 e53
          refine HL.skipU rfl rfl e51 ?_
          intro u54 e54
          refine HL.skipG rfl rfl e47 ?_
          intro u55 e55
          refine HL.still (Runs.pick e47 rfl) ?_
          intro u56 e56
          refine HL.nil ?_
          repeat refine HW.seq ?_
          refine HW.yes ?_ ?_
          exact e56
          -- region 14
          repeat refine HW.seq ?_
          refine HW.region ?_
          refine HL.still (Runs.assign rfl) ?_
          intro u2 e2
          refine HL.still (Runs.assign rfl) ?_
          intro u3 e3
          refine HL.still (Runs.assign rfl) ?_
          intro u4 e4
          refine HL.nil ?_
          refine HW.ret ?_
          exact RT.three rfl e2 e3 e4 ⟨by rw [hmo]; rfl, XA⟩
        | false =>
          rw [hb] at e10 hmo
          by_cases hl2 : d.length ≥ 4
          · cases hmm : marked d with
            | true =>
              rw [hmm] at hmo
              -- region 13
              repeat refine HW.seq ?_
              refine HW.region ?_
              refine HL.still (Runs.move e10) ?_
              intro u45 e45
              refine HL.still (Runs.notb e45 (t := true) (u := false) rfl) ?_
              intro u46 e46
              refine HL.still (Runs.move e46) ?_
              intro u47 e47
              refine HL.stillG rfl rfl e47 (Runs.move g9) ?_
              intro u48 e48
              refine HL.stillG rfl rfl e47 (Runs.lenS rfl Tryd.underlying9 e48) ?_
              intro u49 e49
              refine HL.stillG rfl rfl e47 (Runs.geq e49 rfl (t := true) (decide_eq_true (by omega))) ?_
              intro u50 e50
              refine HL.stillG rfl rfl e47 (Runs.move e50) ?_
              intro u51 e51
              refine HL.stillG rfl rfl e51 (Runs.move g9) ?_
              intro u52 e52
              refine HL.stillG rfl rfl e51 (Runs.sliceS Tryd.underlying9 e52 (lo := 0) (hi := 4) rfl ⟨_, rfl⟩ (Nat.zero_le _) hl2) ?_
              intro u53 e53
              refine HL.stillG rfl rfl e51 (Runs.eqS e53 rfl (ys := wh) (t := true) (by rw [List.drop_zero, take4, hmm])) ?_
              intro u54 e54
              refine HL.stillG rfl rfl e47 (Runs.pick e51 e54) ?_
              intro u55 e55
              refine HL.still (Runs.pick e47 e55) ?_
              intro u56 e56
              refine HL.nil ?_
              repeat refine HW.seq ?_
              refine HW.yes ?_ ?_
              exact e56
              -- region 14
              repeat refine HW.seq ?_
              refine HW.region ?_
              refine HL.still (Runs.assign rfl) ?_
              intro u2 e2
              refine HL.still (Runs.assign rfl) ?_
              intro u3 e3
              refine HL.still (Runs.assign rfl) ?_
              intro u4 e4
              refine HL.nil ?_
              refine HW.ret ?_
              exact RT.three rfl e2 e3 e4 ⟨by rw [hmo]; rfl, XA⟩
            | false =>
              rw [hmm] at hmo
              -- region 13
              repeat refine HW.seq ?_
              refine HW.region ?_
              refine HL.still (Runs.move e10) ?_
              intro u45 e45
              refine HL.still (Runs.notb e45 (t := true) (u := false) rfl) ?_
              intro u46 e46
              refine HL.still (Runs.move e46) ?_
              intro u47 e47
              refine HL.stillG rfl rfl e47 (Runs.move g9) ?_
              intro u48 e48
              refine HL.stillG rfl rfl e47 (Runs.lenS rfl Tryd.underlying9 e48) ?_
              intro u49 e49
              refine HL.stillG rfl rfl e47 (Runs.geq e49 rfl (t := true) (decide_eq_true (by omega))) ?_
              intro u50 e50
              refine HL.stillG rfl rfl e47 (Runs.move e50) ?_
              intro u51 e51
              refine HL.stillG rfl rfl e51 (Runs.move g9) ?_
              intro u52 e52
              refine HL.stillG rfl rfl e51 (Runs.sliceS Tryd.underlying9 e52 (lo := 0) (hi := 4) rfl ⟨_, rfl⟩ (Nat.zero_le _) hl2) ?_
              intro u53 e53
              refine HL.stillG rfl rfl e51 (Runs.eqS e53 rfl (ys := wh) (t := false) (by rw [List.drop_zero, take4, hmm])) ?_
              intro u54 e54
              refine HL.stillG rfl rfl e47 (Runs.pick e51 e54) ?_
              intro u55 e55
              refine HL.still (Runs.pick e47 e55) ?_
              intro u56 e56
              refine HL.nil ?_
              repeat refine HW.seq ?_
              refine HW.no ?_ ?_
              exact e56
              refine HW.skip ?_
              -- region 15
              repeat refine HW.seq ?_
              refine HW.region ?_
              refine HL.still (Runs.move g8) ?_
              intro u57 e57
              refine HL.still (Runs.move g9) ?_
              intro u58 e58
              refine HL.one (HO.call Tryd.func40 bd40 nm40 (args2 e57 e58) rfl ((rbelow_ch h2 (parentO s) d (by omega) (by omega)).mono ?_))
              rintro _ h6 ⟨rfl, hh6⟩
              intro u59 e59
              refine HL.still (Runs.assign rfl) ?_
              intro u2 e2
              refine HL.still (Runs.assign e59) ?_
              intro u3 e3
              refine HL.still (Runs.assign rfl) ?_
              intro u4 e4
              refine HL.nil ?_
              refine HW.ret ?_
              exact RT.three rfl e2 e3 e4 ⟨by rw [hmo]; rfl, by rw [hh6]; exact XA⟩
          · rw [marked_short d (by omega)] at hmo
            -- region 13
            repeat refine HW.seq ?_
            refine HW.region ?_
            refine HL.still (Runs.move e10) ?_
            intro u45 e45
            refine HL.still (Runs.notb e45 (t := true) (u := false) rfl) ?_
            intro u46 e46
            refine HL.still (Runs.move e46) ?_
            intro u47 e47
            refine HL.stillG rfl rfl e47 (Runs.move g9) ?_
            intro u48 e48
            refine HL.stillG rfl rfl e47 (Runs.lenS rfl Tryd.underlying9 e48) ?_
            intro u49 e49
            refine HL.stillG rfl rfl e47 (Runs.geq e49 rfl (t := false) (decide_eq_false (by omega))) ?_
            intro u50 e50
            refine HL.stillG rfl rfl e47 (Runs.move e50) ?_
            intro u51 e51
            refine HL.skipG rfl rfl e51 ?_
            intro u52 e52
            refine HL.skipG rfl rfl e51 ?_
            intro u53 e53
            refine HL.skipG rfl rfl e51 ?_
            intro u54 e54
            refine HL.stillG rfl rfl e47 (Runs.pick e51 rfl) ?_
            intro u55 e55
            refine HL.still (Runs.pick e47 e55) ?_
            intro u56 e56
            refine HL.nil ?_
            repeat refine HW.seq ?_
            refine HW.no ?_ ?_
            exact e56
            refine HW.skip ?_
            -- region 15
            repeat refine HW.seq ?_
            refine HW.region ?_
            refine HL.still (Runs.move g8) ?_
            intro u57 e57
            refine HL.still (Runs.move g9) ?_
            intro u58 e58
            refine HL.one (HO.call Tryd.func40 bd40 nm40 (args2 e57 e58) rfl ((rbelow_ch h2 (parentO s) d (by omega) (by omega)).mono ?_))
            rintro _ h6 ⟨rfl, hh6⟩
            intro u59 e59
            refine HL.still (Runs.assign rfl) ?_
            intro u2 e2
            refine HL.still (Runs.assign e59) ?_
            intro u3 e3
            refine HL.still (Runs.assign rfl) ?_
            intro u4 e4
            refine HL.nil ?_
            refine HW.ret ?_
            exact RT.three rfl e2 e3 e4 ⟨by rw [hmo]; rfl, by rw [hh6]; exact XA⟩
end Go.Proofs.YtfnippeemboljaaDoor
