/- Where a value ends: End, both. -/
import Derived.Test.YtjopikfkgjbcgaaDoorWa
namespace Go.Proofs.YtjopikfkgjbcgaaDoor
set_option linter.unnecessarySimpa false
set_option linter.unusedSimpArgs false
set_option linter.unusedVariables false
open Go.RowKit
def endS (n : Nat) : List JV → Int → Nat → Int
  | [], want, k => if want > 0 then -1 else k
  | x :: r, want, k => if want > 0 then (if x.2.2.2 < 0 ∨ x.2.2.2 > n then -1 else endS n r (want - 1 + x.2.2.2) (k + 1)) else k
/-- Where the value at a place ends. -/
def endO (l : List JV) (at0 : Int) : Int := if at0 < 0 ∨ at0 ≥ l.length then -1 else endS l.length (l.drop at0.toNat) 1 at0.toNat
theorem endS_stop (n : Nat) (l : List JV) (want : Int) (k : Nat) (h : ¬ want > 0) : endS n l want k = k := by
  cases l with
  | nil => unfold endS; rw [if_neg h]
  | cons x r => unfold endS; rw [if_neg h]
theorem endS_step (n : Nat) (l : List JV) (want : Int) (k : Nat) (h : want > 0) (hk : k < l.length) : endS n (l.drop k) want k = if (l.getD k zJ).2.2.2 < 0 ∨ (l.getD k zJ).2.2.2 > n then -1 else endS n (l.drop (k + 1)) (want - 1 + (l.getD k zJ).2.2.2) (k + 1) := by
  rw [List.drop_eq_getElem_cons hk, endS, if_pos h, List.getD_eq_getElem?_getD, List.getElem?_eq_getElem hk]
  rfl
theorem endS_end (n : Nat) (l : List JV) (want : Int) (k : Nat) (h : want > 0) (hk : l.length ≤ k) : endS n (l.drop k) want k = -1 := by
  rw [List.drop_of_length_le hk, endS, if_pos h]
set_option maxRecDepth 10000 in
theorem end_ch (h : Heap) (l : List JV) (a : Option Addr) (n cap : Nat) (at0 : Int) (hn : n = l.length) (hB : Jvs h a l) (hl : l.length ≤ 1000000) : CH Tryd.prog 30 #[.slice a n cap, I64 at0] h fun v h' => v = I64 (endO l at0) ∧ h' = h := by
  subst hn
  refine CH.of_body Tryd.func30 rfl rfl rfl ?_
  intro f hf
  have p0 : f 0 = .slice a l.length cap := by rw [hf]; exact fr0_at rfl
  have p1 : f 1 = I64 at0 := by rw [hf]; exact fr0_at rfl
  -- region 0
  repeat refine HW.seq ?_
  refine HW.region ?_
  refine HL.still (Runs.assign rfl) ?_
  intro u4 e4
  refine HL.nil ?_
  by_cases hneg : at0 < 0
  · skip
    -- region 1
    repeat refine HW.seq ?_
    refine HW.region ?_
    refine HL.still (Runs.move p1) ?_
    intro u6 e6
    refine HL.still (Runs.lss e6 rfl (t := true) (decide_eq_true hneg)) ?_
    intro u7 e7
    refine HL.still (Runs.move e7) ?_
    intro u8 e8
    refine HL.skipG rfl rfl e8 ?_
    intro u9 e9
    refine HL.skipG rfl rfl e8 ?_
    intro u10 e10
    refine HL.skipG rfl rfl e8 ?_
    intro u11 e11
    refine HL.skipG rfl rfl e8 ?_
    intro u12 e12
    refine HL.still (Runs.pick e8 rfl) ?_
    intro u13 e13
    refine HL.nil ?_
    refine HW.yes e13 ?_
    -- region 2
    repeat refine HW.seq ?_
    refine HW.region ?_
    refine HL.still (Runs.assign rfl) ?_
    intro u4 e4
    refine HL.nil ?_
    refine HW.ret ?_
    exact RT.one rfl e4 ⟨by unfold endO; rw [if_pos (.inl hneg)], rfl⟩
  by_cases hge : at0 ≥ l.length
  · skip
    -- region 1
    repeat refine HW.seq ?_
    refine HW.region ?_
    refine HL.still (Runs.move p1) ?_
    intro u6 e6
    refine HL.still (Runs.lss e6 rfl (t := false) (decide_eq_false hneg)) ?_
    intro u7 e7
    refine HL.still (Runs.move e7) ?_
    intro u8 e8
    refine HL.stillG rfl rfl e8 (Runs.move p1) ?_
    intro u9 e9
    refine HL.stillG rfl rfl e8 (Runs.move p0) ?_
    intro u10 e10
    refine HL.stillG rfl rfl e8 (Runs.lenSl rfl Tryd.underlying22 e10) ?_
    intro u11 e11
    refine HL.stillG rfl rfl e8 (Runs.geq e9 e11 (t := true) (decide_eq_true hge)) ?_
    intro u12 e12
    refine HL.still (Runs.pick e8 e12) ?_
    intro u13 e13
    refine HL.nil ?_
    refine HW.yes e13 ?_
    -- region 2
    repeat refine HW.seq ?_
    refine HW.region ?_
    refine HL.still (Runs.assign rfl) ?_
    intro u4 e4
    refine HL.nil ?_
    refine HW.ret ?_
    exact RT.one rfl e4 ⟨by unfold endO; rw [if_pos (.inr hge)], rfl⟩
  obtain ⟨k0, rfl⟩ : ∃ k0 : Nat, at0 = k0 := ⟨at0.toNat, by omega⟩
  have hk0 : k0 < l.length := by omega
  have hend : endO l k0 = endS l.length (l.drop k0) 1 k0 := by
    unfold endO
    rw [if_neg (by omega)]
    rfl
  -- region 1
  repeat refine HW.seq ?_
  refine HW.region ?_
  refine HL.still (Runs.move p1) ?_
  intro u6 e6
  refine HL.still (Runs.lss e6 rfl (t := false) (decide_eq_false hneg)) ?_
  intro u7 e7
  refine HL.still (Runs.move e7) ?_
  intro u8 e8
  refine HL.stillG rfl rfl e8 (Runs.move p1) ?_
  intro u9 e9
  refine HL.stillG rfl rfl e8 (Runs.move p0) ?_
  intro u10 e10
  refine HL.stillG rfl rfl e8 (Runs.lenSl rfl Tryd.underlying22 e10) ?_
  intro u11 e11
  refine HL.stillG rfl rfl e8 (Runs.geq e9 e11 (t := false) (decide_eq_false hge)) ?_
  intro u12 e12
  refine HL.still (Runs.pick e8 e12) ?_
  intro u13 e13
  refine HL.nil ?_
  refine HW.no e13 ?_
  refine HW.skip ?_
  -- region 3
  repeat refine HW.seq ?_
  refine HW.region ?_
  refine HL.still (Runs.assign rfl) ?_
  intro u5 e5
  refine HL.nil ?_
  repeat refine HW.seq ?_
  refine HW.block ?_
  refine HW.loop (fun m f u => ∃ (k : Nat) (want : Int), k ≤ l.length ∧ m = l.length - k ∧ f 0 = .slice a l.length cap ∧ f 1 = I64 k ∧ f 5 = I64 want ∧ endO l k0 = endS l.length (l.drop k) want k ∧ 0 ≤ want ∧ want ≤ 1 + ((k * l.length : Nat) : Int) ∧ k * l.length ≤ 1000000000000 ∧ u = h) (l.length - k0)
    ⟨k0, 1, by omega, rfl, p0, p1, e5, hend, by omega, by have := Nat.zero_le (k0 * l.length); omega, Nat.mul_le_mul (by omega : k0 ≤ 1000000) hl, rfl⟩ ?_
  clear e4 e5 p0 p1 hend
  rintro m f u ⟨k, want, hk, hm, f0, f1, f5, hend, hw0, hw1, hkn, rfl⟩
  by_cases hw : want > 0
  · skip
    -- region 4
    repeat refine HW.seq ?_
    refine HW.region ?_
    refine HL.still (Runs.move f5) ?_
    intro u14 e14
    refine HL.still (Runs.gtr e14 rfl (t := true) (decide_eq_true hw)) ?_
    intro u15 e15
    refine HL.nil ?_
    refine HW.yes e15 ?_
    refine HW.skip ?_
    repeat refine HW.seq ?_
    refine HW.block ?_
    by_cases hlt : k < l.length
    · obtain ⟨sb, so, rfl, hc⟩ := hB.at hlt
      have hst := endS_step l.length l want k hw hlt
      rw [hst] at hend
      obtain ⟨x, hx⟩ : ∃ x, x = l.getD k zJ := ⟨_, rfl⟩
      rw [← hx] at hc hend
      by_cases hc0 : x.2.2.2 < 0
      · skip
        -- region 6
        repeat refine HW.seq ?_
        refine HW.region ?_
        refine HL.still (Runs.move f1) ?_
        intro u18 e18
        refine HL.still (Runs.move f0) ?_
        intro u19 e19
        refine HL.still (Runs.lenSl rfl Tryd.underlying22 e19) ?_
        intro u20 e20
        refine HL.still (Runs.eql e18 e20 (t := false) (by simp; omega)) ?_
        intro u21 e21
        refine HL.still (Runs.move e21) ?_
        intro u22 e22
        refine HL.stillG rfl rfl e22 (Runs.move f0) ?_
        intro u23 e23
        refine HL.stillG rfl rfl e22 (Runs.move f1) ?_
        intro u24 e24
        refine HL.stillG rfl rfl e22 (Runs.ixSl (o' := so + k * 4) Tryd.underlying22 sz37 e23 e24 (by omega) (by omega) (by omega)) ?_
        intro u25 e25
        refine HL.stillG rfl rfl e22 (Runs.fld (o' := so + k * 4 + 3) Tryd.underlying37 rfl sz3 (by decide) e25 (by first | rfl | omega)) ?_
        intro u26 e26
        refine HL.stillG rfl rfl e22 (Runs.load Tryd.underlying3 rfl e26 (hc 3 _ rfl)) ?_
        intro u27 e27
        refine HL.stillG rfl rfl e22 (Runs.lss e27 rfl (t := true) (decide_eq_true hc0)) ?_
        intro u28 e28
        refine HL.still (Runs.pick e22 e28) ?_
        intro u29 e29
        refine HL.still (Runs.move e29) ?_
        intro u30 e30
        refine HL.skipG rfl rfl e30 ?_
        intro u31 e31
        refine HL.skipG rfl rfl e30 ?_
        intro u32 e32
        refine HL.skipG rfl rfl e30 ?_
        intro u33 e33
        refine HL.skipG rfl rfl e30 ?_
        intro u34 e34
        refine HL.skipG rfl rfl e30 ?_
        intro u35 e35
        refine HL.skipG rfl rfl e30 ?_
        intro u36 e36
        refine HL.skipG rfl rfl e30 ?_
        intro u37 e37
        refine HL.skipG rfl rfl e30 ?_
        intro u38 e38
        refine HL.still (Runs.pick e30 rfl) ?_
        intro u39 e39
        refine HL.nil ?_
        refine HW.yes e39 ?_
        -- region 7
        repeat refine HW.seq ?_
        refine HW.region ?_
        refine HL.still (Runs.assign rfl) ?_
        intro u4 e4
        refine HL.nil ?_
        refine HW.ret ?_
        exact RT.one rfl e4 ⟨by rw [hend, if_pos (.inl hc0)], rfl⟩
      · by_cases hcn : x.2.2.2 > l.length
        · skip
          -- region 6
          repeat refine HW.seq ?_
          refine HW.region ?_
          refine HL.still (Runs.move f1) ?_
          intro u18 e18
          refine HL.still (Runs.move f0) ?_
          intro u19 e19
          refine HL.still (Runs.lenSl rfl Tryd.underlying22 e19) ?_
          intro u20 e20
          refine HL.still (Runs.eql e18 e20 (t := false) (by simp; omega)) ?_
          intro u21 e21
          refine HL.still (Runs.move e21) ?_
          intro u22 e22
          refine HL.stillG rfl rfl e22 (Runs.move f0) ?_
          intro u23 e23
          refine HL.stillG rfl rfl e22 (Runs.move f1) ?_
          intro u24 e24
          refine HL.stillG rfl rfl e22 (Runs.ixSl (o' := so + k * 4) Tryd.underlying22 sz37 e23 e24 (by omega) (by omega) (by omega)) ?_
          intro u25 e25
          refine HL.stillG rfl rfl e22 (Runs.fld (o' := so + k * 4 + 3) Tryd.underlying37 rfl sz3 (by decide) e25 (by first | rfl | omega)) ?_
          intro u26 e26
          refine HL.stillG rfl rfl e22 (Runs.load Tryd.underlying3 rfl e26 (hc 3 _ rfl)) ?_
          intro u27 e27
          refine HL.stillG rfl rfl e22 (Runs.lss e27 rfl (t := false) (decide_eq_false hc0)) ?_
          intro u28 e28
          refine HL.still (Runs.pick e22 e28) ?_
          intro u29 e29
          refine HL.still (Runs.move e29) ?_
          intro u30 e30
          refine HL.stillG rfl rfl e30 (Runs.move f0) ?_
          intro u31 e31
          refine HL.stillG rfl rfl e30 (Runs.move f1) ?_
          intro u32 e32
          refine HL.stillG rfl rfl e30 (Runs.ixSl (o' := so + k * 4) Tryd.underlying22 sz37 e31 e32 (by omega) (by omega) (by omega)) ?_
          intro u33 e33
          refine HL.stillG rfl rfl e30 (Runs.fld (o' := so + k * 4 + 3) Tryd.underlying37 rfl sz3 (by decide) e33 (by first | rfl | omega)) ?_
          intro u34 e34
          refine HL.stillG rfl rfl e30 (Runs.load Tryd.underlying3 rfl e34 (hc 3 _ rfl)) ?_
          intro u35 e35
          refine HL.stillG rfl rfl e30 (Runs.move f0) ?_
          intro u36 e36
          refine HL.stillG rfl rfl e30 (Runs.lenSl rfl Tryd.underlying22 e36) ?_
          intro u37 e37
          refine HL.stillG rfl rfl e30 (Runs.gtr e35 e37 (t := true) (decide_eq_true hcn)) ?_
          intro u38 e38
          refine HL.still (Runs.pick e30 e38) ?_
          intro u39 e39
          refine HL.nil ?_
          refine HW.yes e39 ?_
          -- region 7
          repeat refine HW.seq ?_
          refine HW.region ?_
          refine HL.still (Runs.assign rfl) ?_
          intro u4 e4
          refine HL.nil ?_
          refine HW.ret ?_
          exact RT.one rfl e4 ⟨by rw [hend, if_pos (.inr hcn)], rfl⟩
        · skip
          -- region 6
          repeat refine HW.seq ?_
          refine HW.region ?_
          refine HL.still (Runs.move f1) ?_
          intro u18 e18
          refine HL.still (Runs.move f0) ?_
          intro u19 e19
          refine HL.still (Runs.lenSl rfl Tryd.underlying22 e19) ?_
          intro u20 e20
          refine HL.still (Runs.eql e18 e20 (t := false) (by simp; omega)) ?_
          intro u21 e21
          refine HL.still (Runs.move e21) ?_
          intro u22 e22
          refine HL.stillG rfl rfl e22 (Runs.move f0) ?_
          intro u23 e23
          refine HL.stillG rfl rfl e22 (Runs.move f1) ?_
          intro u24 e24
          refine HL.stillG rfl rfl e22 (Runs.ixSl (o' := so + k * 4) Tryd.underlying22 sz37 e23 e24 (by omega) (by omega) (by omega)) ?_
          intro u25 e25
          refine HL.stillG rfl rfl e22 (Runs.fld (o' := so + k * 4 + 3) Tryd.underlying37 rfl sz3 (by decide) e25 (by first | rfl | omega)) ?_
          intro u26 e26
          refine HL.stillG rfl rfl e22 (Runs.load Tryd.underlying3 rfl e26 (hc 3 _ rfl)) ?_
          intro u27 e27
          refine HL.stillG rfl rfl e22 (Runs.lss e27 rfl (t := false) (decide_eq_false hc0)) ?_
          intro u28 e28
          refine HL.still (Runs.pick e22 e28) ?_
          intro u29 e29
          refine HL.still (Runs.move e29) ?_
          intro u30 e30
          refine HL.stillG rfl rfl e30 (Runs.move f0) ?_
          intro u31 e31
          refine HL.stillG rfl rfl e30 (Runs.move f1) ?_
          intro u32 e32
          refine HL.stillG rfl rfl e30 (Runs.ixSl (o' := so + k * 4) Tryd.underlying22 sz37 e31 e32 (by omega) (by omega) (by omega)) ?_
          intro u33 e33
          refine HL.stillG rfl rfl e30 (Runs.fld (o' := so + k * 4 + 3) Tryd.underlying37 rfl sz3 (by decide) e33 (by first | rfl | omega)) ?_
          intro u34 e34
          refine HL.stillG rfl rfl e30 (Runs.load Tryd.underlying3 rfl e34 (hc 3 _ rfl)) ?_
          intro u35 e35
          refine HL.stillG rfl rfl e30 (Runs.move f0) ?_
          intro u36 e36
          refine HL.stillG rfl rfl e30 (Runs.lenSl rfl Tryd.underlying22 e36) ?_
          intro u37 e37
          refine HL.stillG rfl rfl e30 (Runs.gtr e35 e37 (t := false) (decide_eq_false hcn)) ?_
          intro u38 e38
          refine HL.still (Runs.pick e30 e38) ?_
          intro u39 e39
          refine HL.nil ?_
          refine HW.no e39 ?_
          refine HW.skip ?_
          rw [if_neg (by omega)] at hend
          have hmul : (k + 1) * l.length = k * l.length + l.length := Nat.succ_mul _ _
          have hle : (k + 1) * l.length ≤ 1000000000000 := Nat.mul_le_mul (by omega : k + 1 ≤ 1000000) hl
          -- region 8
          repeat refine HW.seq ?_
          refine HW.region ?_
          refine HL.still (Runs.move f5) ?_
          intro u40 e40
          refine HL.still (Runs.move f0) ?_
          intro u41 e41
          refine HL.still (Runs.move f1) ?_
          intro u42 e42
          refine HL.still (Runs.ixSl (o' := so + k * 4) Tryd.underlying22 sz37 e41 e42 (by omega) (by omega) (by omega)) ?_
          intro u43 e43
          refine HL.still (Runs.fld (o' := so + k * 4 + 3) Tryd.underlying37 rfl sz3 (by decide) e43 (by first | rfl | omega)) ?_
          intro u44 e44
          refine HL.still (Runs.load Tryd.underlying3 rfl e44 (hc 3 _ rfl)) ?_
          intro u45 e45
          refine HL.still (Runs.sub e45 rfl (i64w (by omega))) ?_
          intro u46 e46
          refine HL.still (Runs.add e40 e46 (i64w (by omega))) ?_
          intro u47 e47
          refine HL.still (Runs.assign e47) ?_
          intro u5 e5
          refine HL.nil ?_
          -- region 5
          repeat refine HW.seq ?_
          refine HW.region ?_
          refine HL.still (Runs.move f1) ?_
          intro u16 e16
          refine HL.still (Runs.add e16 rfl (i64w (by omega))) ?_
          intro u17 e17
          refine HL.still (Runs.assign e17) ?_
          intro u1 e1
          refine HL.nil ?_
          refine ⟨l.length - (k + 1), by omega, k + 1, want - 1 + x.2.2.2, by omega, rfl, f0, e1.trans (congrArg (Value.int .i64) (by omega)), e5.trans (congrArg (Value.int .i64) (by omega)), hend, by omega, by rw [hmul]; omega, hle, rfl⟩
    · have hkl : k = l.length := by omega
      rw [endS_end l.length l want k hw (by omega)] at hend
      -- region 6
      repeat refine HW.seq ?_
      refine HW.region ?_
      refine HL.still (Runs.move f1) ?_
      intro u18 e18
      refine HL.still (Runs.move f0) ?_
      intro u19 e19
      refine HL.still (Runs.lenSl rfl Tryd.underlying22 e19) ?_
      intro u20 e20
      refine HL.still (Runs.eql e18 e20 (t := true) (by simp [hkl])) ?_
      intro u21 e21
      refine HL.still (Runs.move e21) ?_
      intro u22 e22
      refine HL.skipG rfl rfl e22 ?_
      intro u23 e23
      refine HL.skipG rfl rfl e22 ?_
      intro u24 e24
      refine HL.skipG rfl rfl e22 ?_
      intro u25 e25
      refine HL.skipG rfl rfl e22 ?_
      intro u26 e26
      refine HL.skipG rfl rfl e22 ?_
      intro u27 e27
      refine HL.skipG rfl rfl e22 ?_
      intro u28 e28
      refine HL.still (Runs.pick e22 rfl) ?_
      intro u29 e29
      refine HL.still (Runs.move e29) ?_
      intro u30 e30
      refine HL.skipG rfl rfl e30 ?_
      intro u31 e31
      refine HL.skipG rfl rfl e30 ?_
      intro u32 e32
      refine HL.skipG rfl rfl e30 ?_
      intro u33 e33
      refine HL.skipG rfl rfl e30 ?_
      intro u34 e34
      refine HL.skipG rfl rfl e30 ?_
      intro u35 e35
      refine HL.skipG rfl rfl e30 ?_
      intro u36 e36
      refine HL.skipG rfl rfl e30 ?_
      intro u37 e37
      refine HL.skipG rfl rfl e30 ?_
      intro u38 e38
      refine HL.still (Runs.pick e30 rfl) ?_
      intro u39 e39
      refine HL.nil ?_
      refine HW.yes e39 ?_
      -- region 7
      repeat refine HW.seq ?_
      refine HW.region ?_
      refine HL.still (Runs.assign rfl) ?_
      intro u4 e4
      refine HL.nil ?_
      refine HW.ret ?_
      exact RT.one rfl e4 ⟨by rw [hend], rfl⟩
  · rw [endS_stop _ _ _ _ hw] at hend
    -- region 4
    repeat refine HW.seq ?_
    refine HW.region ?_
    refine HL.still (Runs.move f5) ?_
    intro u14 e14
    refine HL.still (Runs.gtr e14 rfl (t := false) (decide_eq_false hw)) ?_
    intro u15 e15
    refine HL.nil ?_
    refine HW.no e15 ?_
    refine HW.exitHere ?_
    -- region 9
    repeat refine HW.seq ?_
    refine HW.region ?_
    refine HL.still (Runs.move f1) ?_
    intro u48 e48
    refine HL.still (Runs.assign e48) ?_
    intro u4 e4
    refine HL.nil ?_
    refine HW.ret ?_
    exact RT.one rfl e4 ⟨by rw [hend], rfl⟩
set_option maxRecDepth 10000 in
theorem endR_ch (h : Heap) (l : List JV) (a : Option Addr) (n cap : Nat) (at0 : Int) (hn : n = l.length) (hB : Jvs h a l) (hl : l.length ≤ 1000000) : CH Tryd.prog 42 #[.slice a n cap, I64 at0] h fun v h' => v = I64 (endO l at0) ∧ h' = h := by
  subst hn
  refine CH.of_body Tryd.func42 rfl rfl rfl ?_
  intro f hf
  have p0 : f 0 = .slice a l.length cap := by rw [hf]; exact fr0_at rfl
  have p1 : f 1 = I64 at0 := by rw [hf]; exact fr0_at rfl
  -- region 0
  repeat refine HW.seq ?_
  refine HW.region ?_
  refine HL.still (Runs.assign rfl) ?_
  intro u4 e4
  refine HL.nil ?_
  by_cases hneg : at0 < 0
  · skip
    -- region 1
    repeat refine HW.seq ?_
    refine HW.region ?_
    refine HL.still (Runs.move p1) ?_
    intro u6 e6
    refine HL.still (Runs.lss e6 rfl (t := true) (decide_eq_true hneg)) ?_
    intro u7 e7
    refine HL.still (Runs.move e7) ?_
    intro u8 e8
    refine HL.skipG rfl rfl e8 ?_
    intro u9 e9
    refine HL.skipG rfl rfl e8 ?_
    intro u10 e10
    refine HL.skipG rfl rfl e8 ?_
    intro u11 e11
    refine HL.skipG rfl rfl e8 ?_
    intro u12 e12
    refine HL.still (Runs.pick e8 rfl) ?_
    intro u13 e13
    refine HL.nil ?_
    refine HW.yes e13 ?_
    -- region 2
    repeat refine HW.seq ?_
    refine HW.region ?_
    refine HL.still (Runs.assign rfl) ?_
    intro u4 e4
    refine HL.nil ?_
    refine HW.ret ?_
    exact RT.one rfl e4 ⟨by unfold endO; rw [if_pos (.inl hneg)], rfl⟩
  by_cases hge : at0 ≥ l.length
  · skip
    -- region 1
    repeat refine HW.seq ?_
    refine HW.region ?_
    refine HL.still (Runs.move p1) ?_
    intro u6 e6
    refine HL.still (Runs.lss e6 rfl (t := false) (decide_eq_false hneg)) ?_
    intro u7 e7
    refine HL.still (Runs.move e7) ?_
    intro u8 e8
    refine HL.stillG rfl rfl e8 (Runs.move p1) ?_
    intro u9 e9
    refine HL.stillG rfl rfl e8 (Runs.move p0) ?_
    intro u10 e10
    refine HL.stillG rfl rfl e8 (Runs.lenSl rfl Tryd.underlying22 e10) ?_
    intro u11 e11
    refine HL.stillG rfl rfl e8 (Runs.geq e9 e11 (t := true) (decide_eq_true hge)) ?_
    intro u12 e12
    refine HL.still (Runs.pick e8 e12) ?_
    intro u13 e13
    refine HL.nil ?_
    refine HW.yes e13 ?_
    -- region 2
    repeat refine HW.seq ?_
    refine HW.region ?_
    refine HL.still (Runs.assign rfl) ?_
    intro u4 e4
    refine HL.nil ?_
    refine HW.ret ?_
    exact RT.one rfl e4 ⟨by unfold endO; rw [if_pos (.inr hge)], rfl⟩
  obtain ⟨k0, rfl⟩ : ∃ k0 : Nat, at0 = k0 := ⟨at0.toNat, by omega⟩
  have hk0 : k0 < l.length := by omega
  have hend : endO l k0 = endS l.length (l.drop k0) 1 k0 := by
    unfold endO
    rw [if_neg (by omega)]
    rfl
  -- region 1
  repeat refine HW.seq ?_
  refine HW.region ?_
  refine HL.still (Runs.move p1) ?_
  intro u6 e6
  refine HL.still (Runs.lss e6 rfl (t := false) (decide_eq_false hneg)) ?_
  intro u7 e7
  refine HL.still (Runs.move e7) ?_
  intro u8 e8
  refine HL.stillG rfl rfl e8 (Runs.move p1) ?_
  intro u9 e9
  refine HL.stillG rfl rfl e8 (Runs.move p0) ?_
  intro u10 e10
  refine HL.stillG rfl rfl e8 (Runs.lenSl rfl Tryd.underlying22 e10) ?_
  intro u11 e11
  refine HL.stillG rfl rfl e8 (Runs.geq e9 e11 (t := false) (decide_eq_false hge)) ?_
  intro u12 e12
  refine HL.still (Runs.pick e8 e12) ?_
  intro u13 e13
  refine HL.nil ?_
  refine HW.no e13 ?_
  refine HW.skip ?_
  -- region 3
  repeat refine HW.seq ?_
  refine HW.region ?_
  refine HL.still (Runs.assign rfl) ?_
  intro u5 e5
  refine HL.nil ?_
  repeat refine HW.seq ?_
  refine HW.block ?_
  refine HW.loop (fun m f u => ∃ (k : Nat) (want : Int), k ≤ l.length ∧ m = l.length - k ∧ f 0 = .slice a l.length cap ∧ f 1 = I64 k ∧ f 5 = I64 want ∧ endO l k0 = endS l.length (l.drop k) want k ∧ 0 ≤ want ∧ want ≤ 1 + ((k * l.length : Nat) : Int) ∧ k * l.length ≤ 1000000000000 ∧ u = h) (l.length - k0)
    ⟨k0, 1, by omega, rfl, p0, p1, e5, hend, by omega, by have := Nat.zero_le (k0 * l.length); omega, Nat.mul_le_mul (by omega : k0 ≤ 1000000) hl, rfl⟩ ?_
  clear e4 e5 p0 p1 hend
  rintro m f u ⟨k, want, hk, hm, f0, f1, f5, hend, hw0, hw1, hkn, rfl⟩
  by_cases hw : want > 0
  · skip
    -- region 4
    repeat refine HW.seq ?_
    refine HW.region ?_
    refine HL.still (Runs.move f5) ?_
    intro u14 e14
    refine HL.still (Runs.gtr e14 rfl (t := true) (decide_eq_true hw)) ?_
    intro u15 e15
    refine HL.nil ?_
    refine HW.yes e15 ?_
    refine HW.skip ?_
    repeat refine HW.seq ?_
    refine HW.block ?_
    by_cases hlt : k < l.length
    · obtain ⟨sb, so, rfl, hc⟩ := hB.at hlt
      have hst := endS_step l.length l want k hw hlt
      rw [hst] at hend
      obtain ⟨x, hx⟩ : ∃ x, x = l.getD k zJ := ⟨_, rfl⟩
      rw [← hx] at hc hend
      by_cases hc0 : x.2.2.2 < 0
      · skip
        -- region 5
        repeat refine HW.seq ?_
        refine HW.region ?_
        refine HL.still (Runs.move f1) ?_
        intro u16 e16
        refine HL.still (Runs.move f0) ?_
        intro u17 e17
        refine HL.still (Runs.lenSl rfl Tryd.underlying22 e17) ?_
        intro u18 e18
        refine HL.still (Runs.geq e16 e18 (t := false) (decide_eq_false (by omega))) ?_
        intro u19 e19
        refine HL.still (Runs.move e19) ?_
        intro u20 e20
        refine HL.stillG rfl rfl e20 (Runs.move f0) ?_
        intro u21 e21
        refine HL.stillG rfl rfl e20 (Runs.move f1) ?_
        intro u22 e22
        refine HL.stillG rfl rfl e20 (Runs.ixSl (o' := so + k * 4) Tryd.underlying22 sz37 e21 e22 (by omega) (by omega) (by omega)) ?_
        intro u23 e23
        refine HL.stillG rfl rfl e20 (Runs.fld (o' := so + k * 4 + 3) Tryd.underlying37 rfl sz3 (by decide) e23 (by first | rfl | omega)) ?_
        intro u24 e24
        refine HL.stillG rfl rfl e20 (Runs.load Tryd.underlying3 rfl e24 (hc 3 _ rfl)) ?_
        intro u25 e25
        refine HL.stillG rfl rfl e20 (Runs.lss e25 rfl (t := true) (decide_eq_true hc0)) ?_
        intro u26 e26
        refine HL.still (Runs.pick e20 e26) ?_
        intro u27 e27
        refine HL.still (Runs.move e27) ?_
        intro u28 e28
        refine HL.skipG rfl rfl e28 ?_
        intro u29 e29
        refine HL.skipG rfl rfl e28 ?_
        intro u30 e30
        refine HL.skipG rfl rfl e28 ?_
        intro u31 e31
        refine HL.skipG rfl rfl e28 ?_
        intro u32 e32
        refine HL.skipG rfl rfl e28 ?_
        intro u33 e33
        refine HL.skipG rfl rfl e28 ?_
        intro u34 e34
        refine HL.skipG rfl rfl e28 ?_
        intro u35 e35
        refine HL.skipG rfl rfl e28 ?_
        intro u36 e36
        refine HL.still (Runs.pick e28 rfl) ?_
        intro u37 e37
        refine HL.nil ?_
        refine HW.yes e37 ?_
        -- region 6
        repeat refine HW.seq ?_
        refine HW.region ?_
        refine HL.still (Runs.assign rfl) ?_
        intro u4 e4
        refine HL.nil ?_
        refine HW.ret ?_
        exact RT.one rfl e4 ⟨by rw [hend, if_pos (.inl hc0)], rfl⟩
      · by_cases hcn : x.2.2.2 > l.length
        · skip
          -- region 5
          repeat refine HW.seq ?_
          refine HW.region ?_
          refine HL.still (Runs.move f1) ?_
          intro u16 e16
          refine HL.still (Runs.move f0) ?_
          intro u17 e17
          refine HL.still (Runs.lenSl rfl Tryd.underlying22 e17) ?_
          intro u18 e18
          refine HL.still (Runs.geq e16 e18 (t := false) (decide_eq_false (by omega))) ?_
          intro u19 e19
          refine HL.still (Runs.move e19) ?_
          intro u20 e20
          refine HL.stillG rfl rfl e20 (Runs.move f0) ?_
          intro u21 e21
          refine HL.stillG rfl rfl e20 (Runs.move f1) ?_
          intro u22 e22
          refine HL.stillG rfl rfl e20 (Runs.ixSl (o' := so + k * 4) Tryd.underlying22 sz37 e21 e22 (by omega) (by omega) (by omega)) ?_
          intro u23 e23
          refine HL.stillG rfl rfl e20 (Runs.fld (o' := so + k * 4 + 3) Tryd.underlying37 rfl sz3 (by decide) e23 (by first | rfl | omega)) ?_
          intro u24 e24
          refine HL.stillG rfl rfl e20 (Runs.load Tryd.underlying3 rfl e24 (hc 3 _ rfl)) ?_
          intro u25 e25
          refine HL.stillG rfl rfl e20 (Runs.lss e25 rfl (t := false) (decide_eq_false hc0)) ?_
          intro u26 e26
          refine HL.still (Runs.pick e20 e26) ?_
          intro u27 e27
          refine HL.still (Runs.move e27) ?_
          intro u28 e28
          refine HL.stillG rfl rfl e28 (Runs.move f0) ?_
          intro u29 e29
          refine HL.stillG rfl rfl e28 (Runs.move f1) ?_
          intro u30 e30
          refine HL.stillG rfl rfl e28 (Runs.ixSl (o' := so + k * 4) Tryd.underlying22 sz37 e29 e30 (by omega) (by omega) (by omega)) ?_
          intro u31 e31
          refine HL.stillG rfl rfl e28 (Runs.fld (o' := so + k * 4 + 3) Tryd.underlying37 rfl sz3 (by decide) e31 (by first | rfl | omega)) ?_
          intro u32 e32
          refine HL.stillG rfl rfl e28 (Runs.load Tryd.underlying3 rfl e32 (hc 3 _ rfl)) ?_
          intro u33 e33
          refine HL.stillG rfl rfl e28 (Runs.move f0) ?_
          intro u34 e34
          refine HL.stillG rfl rfl e28 (Runs.lenSl rfl Tryd.underlying22 e34) ?_
          intro u35 e35
          refine HL.stillG rfl rfl e28 (Runs.gtr e33 e35 (t := true) (decide_eq_true hcn)) ?_
          intro u36 e36
          refine HL.still (Runs.pick e28 e36) ?_
          intro u37 e37
          refine HL.nil ?_
          refine HW.yes e37 ?_
          -- region 6
          repeat refine HW.seq ?_
          refine HW.region ?_
          refine HL.still (Runs.assign rfl) ?_
          intro u4 e4
          refine HL.nil ?_
          refine HW.ret ?_
          exact RT.one rfl e4 ⟨by rw [hend, if_pos (.inr hcn)], rfl⟩
        · skip
          -- region 5
          repeat refine HW.seq ?_
          refine HW.region ?_
          refine HL.still (Runs.move f1) ?_
          intro u16 e16
          refine HL.still (Runs.move f0) ?_
          intro u17 e17
          refine HL.still (Runs.lenSl rfl Tryd.underlying22 e17) ?_
          intro u18 e18
          refine HL.still (Runs.geq e16 e18 (t := false) (decide_eq_false (by omega))) ?_
          intro u19 e19
          refine HL.still (Runs.move e19) ?_
          intro u20 e20
          refine HL.stillG rfl rfl e20 (Runs.move f0) ?_
          intro u21 e21
          refine HL.stillG rfl rfl e20 (Runs.move f1) ?_
          intro u22 e22
          refine HL.stillG rfl rfl e20 (Runs.ixSl (o' := so + k * 4) Tryd.underlying22 sz37 e21 e22 (by omega) (by omega) (by omega)) ?_
          intro u23 e23
          refine HL.stillG rfl rfl e20 (Runs.fld (o' := so + k * 4 + 3) Tryd.underlying37 rfl sz3 (by decide) e23 (by first | rfl | omega)) ?_
          intro u24 e24
          refine HL.stillG rfl rfl e20 (Runs.load Tryd.underlying3 rfl e24 (hc 3 _ rfl)) ?_
          intro u25 e25
          refine HL.stillG rfl rfl e20 (Runs.lss e25 rfl (t := false) (decide_eq_false hc0)) ?_
          intro u26 e26
          refine HL.still (Runs.pick e20 e26) ?_
          intro u27 e27
          refine HL.still (Runs.move e27) ?_
          intro u28 e28
          refine HL.stillG rfl rfl e28 (Runs.move f0) ?_
          intro u29 e29
          refine HL.stillG rfl rfl e28 (Runs.move f1) ?_
          intro u30 e30
          refine HL.stillG rfl rfl e28 (Runs.ixSl (o' := so + k * 4) Tryd.underlying22 sz37 e29 e30 (by omega) (by omega) (by omega)) ?_
          intro u31 e31
          refine HL.stillG rfl rfl e28 (Runs.fld (o' := so + k * 4 + 3) Tryd.underlying37 rfl sz3 (by decide) e31 (by first | rfl | omega)) ?_
          intro u32 e32
          refine HL.stillG rfl rfl e28 (Runs.load Tryd.underlying3 rfl e32 (hc 3 _ rfl)) ?_
          intro u33 e33
          refine HL.stillG rfl rfl e28 (Runs.move f0) ?_
          intro u34 e34
          refine HL.stillG rfl rfl e28 (Runs.lenSl rfl Tryd.underlying22 e34) ?_
          intro u35 e35
          refine HL.stillG rfl rfl e28 (Runs.gtr e33 e35 (t := false) (decide_eq_false hcn)) ?_
          intro u36 e36
          refine HL.still (Runs.pick e28 e36) ?_
          intro u37 e37
          refine HL.nil ?_
          refine HW.no e37 ?_
          refine HW.skip ?_
          rw [if_neg (by omega)] at hend
          have hmul : (k + 1) * l.length = k * l.length + l.length := Nat.succ_mul _ _
          have hle : (k + 1) * l.length ≤ 1000000000000 := Nat.mul_le_mul (by omega : k + 1 ≤ 1000000) hl
          -- region 7
          repeat refine HW.seq ?_
          refine HW.region ?_
          refine HL.still (Runs.move f5) ?_
          intro u38 e38
          refine HL.still (Runs.sub e38 rfl (i64w (by omega))) ?_
          intro u39 e39
          refine HL.still (Runs.move f0) ?_
          intro u40 e40
          refine HL.still (Runs.move f1) ?_
          intro u41 e41
          refine HL.still (Runs.ixSl (o' := so + k * 4) Tryd.underlying22 sz37 e40 e41 (by omega) (by omega) (by omega)) ?_
          intro u42 e42
          refine HL.still (Runs.fld (o' := so + k * 4 + 3) Tryd.underlying37 rfl sz3 (by decide) e42 (by first | rfl | omega)) ?_
          intro u43 e43
          refine HL.still (Runs.load Tryd.underlying3 rfl e43 (hc 3 _ rfl)) ?_
          intro u44 e44
          refine HL.still (Runs.add e39 e44 (i64w (by omega))) ?_
          intro u45 e45
          refine HL.still (Runs.assign e45) ?_
          intro u5 e5
          refine HL.nil ?_
          -- region 8
          repeat refine HW.seq ?_
          refine HW.region ?_
          refine HL.still (Runs.move f1) ?_
          intro u46 e46
          refine HL.still (Runs.add e46 rfl (i64w (by omega))) ?_
          intro u47 e47
          refine HL.still (Runs.assign e47) ?_
          intro u1 e1
          refine HL.nil ?_
          refine ⟨l.length - (k + 1), by omega, k + 1, want - 1 + x.2.2.2, by omega, rfl, f0, e1.trans (congrArg (Value.int .i64) (by omega)), e5.trans (congrArg (Value.int .i64) (by omega)), hend, by omega, by rw [hmul]; omega, hle, rfl⟩
    · have hkl : k = l.length := by omega
      rw [endS_end l.length l want k hw (by omega)] at hend
      -- region 5
      repeat refine HW.seq ?_
      refine HW.region ?_
      refine HL.still (Runs.move f1) ?_
      intro u16 e16
      refine HL.still (Runs.move f0) ?_
      intro u17 e17
      refine HL.still (Runs.lenSl rfl Tryd.underlying22 e17) ?_
      intro u18 e18
      refine HL.still (Runs.geq e16 e18 (t := true) (decide_eq_true (by omega))) ?_
      intro u19 e19
      refine HL.still (Runs.move e19) ?_
      intro u20 e20
      refine HL.skipG rfl rfl e20 ?_
      intro u21 e21
      refine HL.skipG rfl rfl e20 ?_
      intro u22 e22
      refine HL.skipG rfl rfl e20 ?_
      intro u23 e23
      refine HL.skipG rfl rfl e20 ?_
      intro u24 e24
      refine HL.skipG rfl rfl e20 ?_
      intro u25 e25
      refine HL.skipG rfl rfl e20 ?_
      intro u26 e26
      refine HL.still (Runs.pick e20 rfl) ?_
      intro u27 e27
      refine HL.still (Runs.move e27) ?_
      intro u28 e28
      refine HL.skipG rfl rfl e28 ?_
      intro u29 e29
      refine HL.skipG rfl rfl e28 ?_
      intro u30 e30
      refine HL.skipG rfl rfl e28 ?_
      intro u31 e31
      refine HL.skipG rfl rfl e28 ?_
      intro u32 e32
      refine HL.skipG rfl rfl e28 ?_
      intro u33 e33
      refine HL.skipG rfl rfl e28 ?_
      intro u34 e34
      refine HL.skipG rfl rfl e28 ?_
      intro u35 e35
      refine HL.skipG rfl rfl e28 ?_
      intro u36 e36
      refine HL.still (Runs.pick e28 rfl) ?_
      intro u37 e37
      refine HL.nil ?_
      refine HW.yes e37 ?_
      -- region 6
      repeat refine HW.seq ?_
      refine HW.region ?_
      refine HL.still (Runs.assign rfl) ?_
      intro u4 e4
      refine HL.nil ?_
      refine HW.ret ?_
      exact RT.one rfl e4 ⟨by rw [hend], rfl⟩
  · rw [endS_stop _ _ _ _ hw] at hend
    -- region 4
    repeat refine HW.seq ?_
    refine HW.region ?_
    refine HL.still (Runs.move f5) ?_
    intro u14 e14
    refine HL.still (Runs.gtr e14 rfl (t := false) (decide_eq_false hw)) ?_
    intro u15 e15
    refine HL.nil ?_
    refine HW.no e15 ?_
    refine HW.exitHere ?_
    -- region 9
    repeat refine HW.seq ?_
    refine HW.region ?_
    refine HL.still (Runs.move f1) ?_
    intro u48 e48
    refine HL.still (Runs.assign e48) ?_
    intro u4 e4
    refine HL.nil ?_
    refine HW.ret ?_
    exact RT.one rfl e4 ⟨by rw [hend], rfl⟩
end Go.Proofs.YtjopikfkgjbcgaaDoor
