/- Where a value ends: End, both. -/
import Derived.Test.YtjopikfkgjbcgaaGreatDoorTab
namespace Go.Proofs.YtjopikfkgjbcgaaGreatDoor
set_option linter.unnecessarySimpa false
set_option linter.unusedSimpArgs false
set_option linter.unusedVariables false
open Go.RowKit
def endS (n : Nat) : List JV → Int → Nat → Int
  | [], want, k => if want > 0 then -1 else k
  | x :: r, want, k => if want > 0 then (if x.2.2.2 < 0 ∨ x.2.2.2 > n then -1 else endS n r (want - 1 + x.2.2.2) (k + 1)) else k
/-- Where the value at a place ends. -/
def endO (l : List JV) (at0 : Int) : Int := if at0 < 0 ∨ at0 ≥ l.length then -1 else endS l.length (l.drop at0.toNat) 1 at0.toNat
theorem endS_stop (n : Nat) (l : List JV) (want : Int) (k : Nat) (h : ¬ want > 0) : endS n l want k = k := by
  cases l with
  | nil => unfold endS; rw [if_neg h]
  | cons x r => unfold endS; rw [if_neg h]
theorem endS_step (n : Nat) (l : List JV) (want : Int) (k : Nat) (h : want > 0) (hk : k < l.length) : endS n (l.drop k) want k = if (l.getD k zJ).2.2.2 < 0 ∨ (l.getD k zJ).2.2.2 > n then -1 else endS n (l.drop (k + 1)) (want - 1 + (l.getD k zJ).2.2.2) (k + 1) := by
  rw [List.drop_eq_getElem_cons hk, endS, if_pos h, List.getD_eq_getElem?_getD, List.getElem?_eq_getElem hk]
  rfl
theorem endS_end (n : Nat) (l : List JV) (want : Int) (k : Nat) (h : want > 0) (hk : l.length ≤ k) : endS n (l.drop k) want k = -1 := by
  rw [List.drop_of_length_le hk, endS, if_pos h]
set_option maxRecDepth 10000 in
theorem end_ch (h : Heap) (l : List JV) (a : Option Addr) (n cap : Nat) (at0 : Int) (hn : n = l.length) (hB : Jvs h a l) (hl : l.length ≤ 1000000) : CH Tryz.prog 32 #[.slice a n cap, I64 at0] h fun v h' => v = I64 (endO l at0) ∧ h' = h := by
  subst hn
  refine CH.of_body Tryz.func32 rfl rfl rfl ?_
  intro f hf
  have p0 : f 0 = .slice a l.length cap := by rw [hf]; exact fr0_at rfl
  have p1 : f 1 = I64 at0 := by rw [hf]; exact fr0_at rfl
  -- region 0
  repeat refine HW.seq ?_
  refine HW.region ?_
  refine HL.still (Runs.assign rfl) ?_
  intro u4 e4
  refine HL.nil ?_
  by_cases hneg : at0 < 0
  · skip
    -- region 1
    repeat refine HW.seq ?_
    refine HW.region ?_
    refine HL.still (Runs.move p1) ?_
    intro u6 e6
    refine HL.still (Runs.lss e6 rfl (t := true) (decide_eq_true hneg)) ?_
    intro u7 e7
    refine HL.still (Runs.move e7) ?_
    intro u8 e8
    refine HL.skipG rfl rfl e8 ?_
    intro u9 e9
    refine HL.skipG rfl rfl e8 ?_
    intro u10 e10
    refine HL.skipG rfl rfl e8 ?_
    intro u11 e11
    refine HL.skipG rfl rfl e8 ?_
    intro u12 e12
    refine HL.still (Runs.pick e8 rfl) ?_
    intro u13 e13
    refine HL.nil ?_
    refine HW.yes e13 ?_
    -- region 2
    repeat refine HW.seq ?_
    refine HW.region ?_
    refine HL.still (Runs.assign rfl) ?_
    intro u4 e4
    refine HL.nil ?_
    refine HW.ret ?_
    exact RT.one rfl e4 ⟨by unfold endO; rw [if_pos (.inl hneg)], rfl⟩
  by_cases hge : at0 ≥ l.length
  · skip
    -- region 1
    repeat refine HW.seq ?_
    refine HW.region ?_
    refine HL.still (Runs.move p1) ?_
    intro u6 e6
    refine HL.still (Runs.lss e6 rfl (t := false) (decide_eq_false hneg)) ?_
    intro u7 e7
    refine HL.still (Runs.move e7) ?_
    intro u8 e8
    refine HL.stillG rfl rfl e8 (Runs.move p1) ?_
    intro u9 e9
    refine HL.stillG rfl rfl e8 (Runs.move p0) ?_
    intro u10 e10
    refine HL.stillG rfl rfl e8 (Runs.lenSl rfl Tryz.underlying26 e10) ?_
    intro u11 e11
    refine HL.stillG rfl rfl e8 (Runs.geq e9 e11 (t := true) (decide_eq_true hge)) ?_
    intro u12 e12
    refine HL.still (Runs.pick e8 e12) ?_
    intro u13 e13
    refine HL.nil ?_
    refine HW.yes e13 ?_
    -- region 2
    repeat refine HW.seq ?_
    refine HW.region ?_
    refine HL.still (Runs.assign rfl) ?_
    intro u4 e4
    refine HL.nil ?_
    refine HW.ret ?_
    exact RT.one rfl e4 ⟨by unfold endO; rw [if_pos (.inr hge)], rfl⟩
  obtain ⟨k0, rfl⟩ : ∃ k0 : Nat, at0 = k0 := ⟨at0.toNat, by omega⟩
  have hk0 : k0 < l.length := by omega
  have hend : endO l k0 = endS l.length (l.drop k0) 1 k0 := by
    unfold endO
    rw [if_neg (by omega)]
    rfl
  -- region 1
  repeat refine HW.seq ?_
  refine HW.region ?_
  refine HL.still (Runs.move p1) ?_
  intro u6 e6
  refine HL.still (Runs.lss e6 rfl (t := false) (decide_eq_false hneg)) ?_
  intro u7 e7
  refine HL.still (Runs.move e7) ?_
  intro u8 e8
  refine HL.stillG rfl rfl e8 (Runs.move p1) ?_
  intro u9 e9
  refine HL.stillG rfl rfl e8 (Runs.move p0) ?_
  intro u10 e10
  refine HL.stillG rfl rfl e8 (Runs.lenSl rfl Tryz.underlying26 e10) ?_
  intro u11 e11
  refine HL.stillG rfl rfl e8 (Runs.geq e9 e11 (t := false) (decide_eq_false hge)) ?_
  intro u12 e12
  refine HL.still (Runs.pick e8 e12) ?_
  intro u13 e13
  refine HL.nil ?_
  refine HW.no e13 ?_
  refine HW.skip ?_
  -- region 3
  repeat refine HW.seq ?_
  refine HW.region ?_
  refine HL.still (Runs.assign rfl) ?_
  intro u5 e5
  refine HL.nil ?_
  repeat refine HW.seq ?_
  refine HW.block ?_
  refine HW.loop (fun m f u => ∃ (k : Nat) (want : Int), k ≤ l.length ∧ m = l.length - k ∧ f 0 = .slice a l.length cap ∧ f 1 = I64 k ∧ f 5 = I64 want ∧ endO l k0 = endS l.length (l.drop k) want k ∧ 0 ≤ want ∧ want ≤ 1 + ((k * l.length : Nat) : Int) ∧ k * l.length ≤ 1000000000000 ∧ u = h) (l.length - k0)
    ⟨k0, 1, by omega, rfl, p0, p1, e5, hend, by omega, by have := Nat.zero_le (k0 * l.length); omega, Nat.mul_le_mul (by omega : k0 ≤ 1000000) hl, rfl⟩ ?_
  clear e4 e5 p0 p1 hend
  rintro m f u ⟨k, want, hk, hm, f0, f1, f5, hend, hw0, hw1, hkn, rfl⟩
  by_cases hw : want > 0
  · skip
    -- region 4
    repeat refine HW.seq ?_
    refine HW.region ?_
    refine HL.still (Runs.move f5) ?_
    intro u14 e14
    refine HL.still (Runs.gtr e14 rfl (t := true) (decide_eq_true hw)) ?_
    intro u15 e15
    refine HL.nil ?_
    refine HW.yes e15 ?_
    refine HW.skip ?_
    repeat refine HW.seq ?_
    refine HW.block ?_
    by_cases hlt : k < l.length
    · obtain ⟨sb, so, rfl, hc⟩ := hB.at hlt
      have hst := endS_step l.length l want k hw hlt
      rw [hst] at hend
      obtain ⟨x, hx⟩ : ∃ x, x = l.getD k zJ := ⟨_, rfl⟩
      rw [← hx] at hc hend
      by_cases hc0 : x.2.2.2 < 0
      · skip
        -- region 6
        repeat refine HW.seq ?_
        refine HW.region ?_
        refine HL.still (Runs.move f1) ?_
        intro u18 e18
        refine HL.still (Runs.move f0) ?_
        intro u19 e19
        refine HL.still (Runs.lenSl rfl Tryz.underlying26 e19) ?_
        intro u20 e20
        refine HL.still (Runs.eql e18 e20 (t := false) (by simp; omega)) ?_
        intro u21 e21
        refine HL.still (Runs.move e21) ?_
        intro u22 e22
        refine HL.stillG rfl rfl e22 (Runs.move f0) ?_
        intro u23 e23
        refine HL.stillG rfl rfl e22 (Runs.move f1) ?_
        intro u24 e24
        refine HL.stillG rfl rfl e22 (Runs.ixSl (o' := so + k * 4) Tryz.underlying26 sz41 e23 e24 (by omega) (by omega) (by omega)) ?_
        intro u25 e25
        refine HL.stillG rfl rfl e22 (Runs.fld (o' := so + k * 4 + 3) Tryz.underlying41 rfl sz3 (by decide) e25 (by first | rfl | omega)) ?_
        intro u26 e26
        refine HL.stillG rfl rfl e22 (Runs.load Tryz.underlying3 rfl e26 (hc 3 _ rfl)) ?_
        intro u27 e27
        refine HL.stillG rfl rfl e22 (Runs.lss e27 rfl (t := true) (decide_eq_true hc0)) ?_
        intro u28 e28
        refine HL.still (Runs.pick e22 e28) ?_
        intro u29 e29
        refine HL.still (Runs.move e29) ?_
        intro u30 e30
        refine HL.skipG rfl rfl e30 ?_
        intro u31 e31
        refine HL.skipG rfl rfl e30 ?_
        intro u32 e32
        refine HL.skipG rfl rfl e30 ?_
        intro u33 e33
        refine HL.skipG rfl rfl e30 ?_
        intro u34 e34
        refine HL.skipG rfl rfl e30 ?_
        intro u35 e35
        refine HL.skipG rfl rfl e30 ?_
        intro u36 e36
        refine HL.skipG rfl rfl e30 ?_
        intro u37 e37
        refine HL.skipG rfl rfl e30 ?_
        intro u38 e38
        refine HL.still (Runs.pick e30 rfl) ?_
        intro u39 e39
        refine HL.nil ?_
        refine HW.yes e39 ?_
        -- region 7
        repeat refine HW.seq ?_
        refine HW.region ?_
        refine HL.still (Runs.assign rfl) ?_
        intro u4 e4
        refine HL.nil ?_
        refine HW.ret ?_
        exact RT.one rfl e4 ⟨by rw [hend, if_pos (.inl hc0)], rfl⟩
      · by_cases hcn : x.2.2.2 > l.length
        · skip
          -- region 6
          repeat refine HW.seq ?_
          refine HW.region ?_
          refine HL.still (Runs.move f1) ?_
          intro u18 e18
          refine HL.still (Runs.move f0) ?_
          intro u19 e19
          refine HL.still (Runs.lenSl rfl Tryz.underlying26 e19) ?_
          intro u20 e20
          refine HL.still (Runs.eql e18 e20 (t := false) (by simp; omega)) ?_
          intro u21 e21
          refine HL.still (Runs.move e21) ?_
          intro u22 e22
          refine HL.stillG rfl rfl e22 (Runs.move f0) ?_
          intro u23 e23
          refine HL.stillG rfl rfl e22 (Runs.move f1) ?_
          intro u24 e24
          refine HL.stillG rfl rfl e22 (Runs.ixSl (o' := so + k * 4) Tryz.underlying26 sz41 e23 e24 (by omega) (by omega) (by omega)) ?_
          intro u25 e25
          refine HL.stillG rfl rfl e22 (Runs.fld (o' := so + k * 4 + 3) Tryz.underlying41 rfl sz3 (by decide) e25 (by first | rfl | omega)) ?_
          intro u26 e26
          refine HL.stillG rfl rfl e22 (Runs.load Tryz.underlying3 rfl e26 (hc 3 _ rfl)) ?_
          intro u27 e27
          refine HL.stillG rfl rfl e22 (Runs.lss e27 rfl (t := false) (decide_eq_false hc0)) ?_
          intro u28 e28
          refine HL.still (Runs.pick e22 e28) ?_
          intro u29 e29
          refine HL.still (Runs.move e29) ?_
          intro u30 e30
          refine HL.stillG rfl rfl e30 (Runs.move f0) ?_
          intro u31 e31
          refine HL.stillG rfl rfl e30 (Runs.move f1) ?_
          intro u32 e32
          refine HL.stillG rfl rfl e30 (Runs.ixSl (o' := so + k * 4) Tryz.underlying26 sz41 e31 e32 (by omega) (by omega) (by omega)) ?_
          intro u33 e33
          refine HL.stillG rfl rfl e30 (Runs.fld (o' := so + k * 4 + 3) Tryz.underlying41 rfl sz3 (by decide) e33 (by first | rfl | omega)) ?_
          intro u34 e34
          refine HL.stillG rfl rfl e30 (Runs.load Tryz.underlying3 rfl e34 (hc 3 _ rfl)) ?_
          intro u35 e35
          refine HL.stillG rfl rfl e30 (Runs.move f0) ?_
          intro u36 e36
          refine HL.stillG rfl rfl e30 (Runs.lenSl rfl Tryz.underlying26 e36) ?_
          intro u37 e37
          refine HL.stillG rfl rfl e30 (Runs.gtr e35 e37 (t := true) (decide_eq_true hcn)) ?_
          intro u38 e38
          refine HL.still (Runs.pick e30 e38) ?_
          intro u39 e39
          refine HL.nil ?_
          refine HW.yes e39 ?_
          -- region 7
          repeat refine HW.seq ?_
          refine HW.region ?_
          refine HL.still (Runs.assign rfl) ?_
          intro u4 e4
          refine HL.nil ?_
          refine HW.ret ?_
          exact RT.one rfl e4 ⟨by rw [hend, if_pos (.inr hcn)], rfl⟩
        · skip
          -- region 6
          repeat refine HW.seq ?_
          refine HW.region ?_
          refine HL.still (Runs.move f1) ?_
          intro u18 e18
          refine HL.still (Runs.move f0) ?_
          intro u19 e19
          refine HL.still (Runs.lenSl rfl Tryz.underlying26 e19) ?_
          intro u20 e20
          refine HL.still (Runs.eql e18 e20 (t := false) (by simp; omega)) ?_
          intro u21 e21
          refine HL.still (Runs.move e21) ?_
          intro u22 e22
          refine HL.stillG rfl rfl e22 (Runs.move f0) ?_
          intro u23 e23
          refine HL.stillG rfl rfl e22 (Runs.move f1) ?_
          intro u24 e24
          refine HL.stillG rfl rfl e22 (Runs.ixSl (o' := so + k * 4) Tryz.underlying26 sz41 e23 e24 (by omega) (by omega) (by omega)) ?_
          intro u25 e25
          refine HL.stillG rfl rfl e22 (Runs.fld (o' := so + k * 4 + 3) Tryz.underlying41 rfl sz3 (by decide) e25 (by first | rfl | omega)) ?_
          intro u26 e26
          refine HL.stillG rfl rfl e22 (Runs.load Tryz.underlying3 rfl e26 (hc 3 _ rfl)) ?_
          intro u27 e27
          refine HL.stillG rfl rfl e22 (Runs.lss e27 rfl (t := false) (decide_eq_false hc0)) ?_
          intro u28 e28
          refine HL.still (Runs.pick e22 e28) ?_
          intro u29 e29
          refine HL.still (Runs.move e29) ?_
          intro u30 e30
          refine HL.stillG rfl rfl e30 (Runs.move f0) ?_
          intro u31 e31
          refine HL.stillG rfl rfl e30 (Runs.move f1) ?_
          intro u32 e32
          refine HL.stillG rfl rfl e30 (Runs.ixSl (o' := so + k * 4) Tryz.underlying26 sz41 e31 e32 (by omega) (by omega) (by omega)) ?_
          intro u33 e33
          refine HL.stillG rfl rfl e30 (Runs.fld (o' := so + k * 4 + 3) Tryz.underlying41 rfl sz3 (by decide) e33 (by first | rfl | omega)) ?_
          intro u34 e34
          refine HL.stillG rfl rfl e30 (Runs.load Tryz.underlying3 rfl e34 (hc 3 _ rfl)) ?_
          intro u35 e35
          refine HL.stillG rfl rfl e30 (Runs.move f0) ?_
          intro u36 e36
          refine HL.stillG rfl rfl e30 (Runs.lenSl rfl Tryz.underlying26 e36) ?_
          intro u37 e37
          refine HL.stillG rfl rfl e30 (Runs.gtr e35 e37 (t := false) (decide_eq_false hcn)) ?_
          intro u38 e38
          refine HL.still (Runs.pick e30 e38) ?_
          intro u39 e39
          refine HL.nil ?_
          refine HW.no e39 ?_
          refine HW.skip ?_
          rw [if_neg (by omega)] at hend
          have hmul : (k + 1) * l.length = k * l.length + l.length := Nat.succ_mul _ _
          have hle : (k + 1) * l.length ≤ 1000000000000 := Nat.mul_le_mul (by omega : k + 1 ≤ 1000000) hl
          -- region 8
          repeat refine HW.seq ?_
          refine HW.region ?_
          refine HL.still (Runs.move f5) ?_
          intro u40 e40
          refine HL.still (Runs.move f0) ?_
          intro u41 e41
          refine HL.still (Runs.move f1) ?_
          intro u42 e42
          refine HL.still (Runs.ixSl (o' := so + k * 4) Tryz.underlying26 sz41 e41 e42 (by omega) (by omega) (by omega)) ?_
          intro u43 e43
          refine HL.still (Runs.fld (o' := so + k * 4 + 3) Tryz.underlying41 rfl sz3 (by decide) e43 (by first | rfl | omega)) ?_
          intro u44 e44
          refine HL.still (Runs.load Tryz.underlying3 rfl e44 (hc 3 _ rfl)) ?_
          intro u45 e45
          refine HL.still (Runs.sub e45 rfl (i64w (by omega))) ?_
          intro u46 e46
          refine HL.still (Runs.add e40 e46 (i64w (by omega))) ?_
          intro u47 e47
          refine HL.still (Runs.assign e47) ?_
          intro u5 e5
          refine HL.nil ?_
          -- region 5
          repeat refine HW.seq ?_
          refine HW.region ?_
          refine HL.still (Runs.move f1) ?_
          intro u16 e16
          refine HL.still (Runs.add e16 rfl (i64w (by omega))) ?_
          intro u17 e17
          refine HL.still (Runs.assign e17) ?_
          intro u1 e1
          refine HL.nil ?_
          refine ⟨l.length - (k + 1), by omega, k + 1, want - 1 + x.2.2.2, by omega, rfl, f0, e1.trans (congrArg (Value.int .i64) (by omega)), e5.trans (congrArg (Value.int .i64) (by omega)), hend, by omega, by rw [hmul]; omega, hle, rfl⟩
    · have hkl : k = l.length := by omega
      rw [endS_end l.length l want k hw (by omega)] at hend
      -- region 6
      repeat refine HW.seq ?_
      refine HW.region ?_
      refine HL.still (Runs.move f1) ?_
      intro u18 e18
      refine HL.still (Runs.move f0) ?_
      intro u19 e19
      refine HL.still (Runs.lenSl rfl Tryz.underlying26 e19) ?_
      intro u20 e20
      refine HL.still (Runs.eql e18 e20 (t := true) (by simp [hkl])) ?_
      intro u21 e21
      refine HL.still (Runs.move e21) ?_
      intro u22 e22
      refine HL.skipG rfl rfl e22 ?_
      intro u23 e23
      refine HL.skipG rfl rfl e22 ?_
      intro u24 e24
      refine HL.skipG rfl rfl e22 ?_
      intro u25 e25
      refine HL.skipG rfl rfl e22 ?_
      intro u26 e26
      refine HL.skipG rfl rfl e22 ?_
      intro u27 e27
      refine HL.skipG rfl rfl e22 ?_
      intro u28 e28
      refine HL.still (Runs.pick e22 rfl) ?_
      intro u29 e29
      refine HL.still (Runs.move e29) ?_
      intro u30 e30
      refine HL.skipG rfl rfl e30 ?_
      intro u31 e31
      refine HL.skipG rfl rfl e30 ?_
      intro u32 e32
      refine HL.skipG rfl rfl e30 ?_
      intro u33 e33
      refine HL.skipG rfl rfl e30 ?_
      intro u34 e34
      refine HL.skipG rfl rfl e30 ?_
      intro u35 e35
      refine HL.skipG rfl rfl e30 ?_
      intro u36 e36
      refine HL.skipG rfl rfl e30 ?_
      intro u37 e37
      refine HL.skipG rfl rfl e30 ?_
      intro u38 e38
      refine HL.still (Runs.pick e30 rfl) ?_
      intro u39 e39
      refine HL.nil ?_
      refine HW.yes e39 ?_
      -- region 7
      repeat refine HW.seq ?_
      refine HW.region ?_
      refine HL.still (Runs.assign rfl) ?_
      intro u4 e4
      refine HL.nil ?_
      refine HW.ret ?_
      exact RT.one rfl e4 ⟨by rw [hend], rfl⟩
  · rw [endS_stop _ _ _ _ hw] at hend
    -- region 4
    repeat refine HW.seq ?_
    refine HW.region ?_
    refine HL.still (Runs.move f5) ?_
    intro u14 e14
    refine HL.still (Runs.gtr e14 rfl (t := false) (decide_eq_false hw)) ?_
    intro u15 e15
    refine HL.nil ?_
    refine HW.no e15 ?_
    refine HW.exitHere ?_
    -- region 9
    repeat refine HW.seq ?_
    refine HW.region ?_
    refine HL.still (Runs.move f1) ?_
    intro u48 e48
    refine HL.still (Runs.assign e48) ?_
    intro u4 e4
    refine HL.nil ?_
    refine HW.ret ?_
    exact RT.one rfl e4 ⟨by rw [hend], rfl⟩
end Go.Proofs.YtjopikfkgjbcgaaGreatDoor
/-! Values held against each other; Same; slices.Clone; named, both. -/
namespace Go.Proofs.YtjopikfkgjbcgaaGreatDoor
set_option linter.unnecessarySimpa false
set_option linter.unusedSimpArgs false
set_option linter.unusedVariables false
open Go.RowKit
theorem eg41 : Tryz.prog.eqGuardType Tryz.prog.depth 41 = false := by kernel_rfl
theorem sih41 : Tryz.prog.stoodInHeld 41 = false := by kernel_rfl
theorem strOf_beq (a b : List UInt8) : ((strOf a).toList == (strOf b).toList) = (a == b) := by
  rw [strOf_toList, strOf_toList]
section
variable {ρ : Operand → Value} {h : Heap} {d : Option Tmp} {ty : TypeId} {pos : String} {af : Array Edge} {gd : Option (Nat × Bool)} {K : Value → Heap → Prop} {a b : Operand} {T2 : TypeId}
theorem eqv_J (x y : JV) : (eqv (I64 x.1) (I64 y.1) && (eqv (.string (strOf x.2.1)) (.string (strOf y.2.1)) && (eqv (.string (strOf x.2.2.1)) (.string (strOf y.2.2.1)) && eqv (I64 x.2.2.2) (I64 y.2.2.2)))) = (x == y) := by
  obtain ⟨x1, x2, x3, x4⟩ := x
  obtain ⟨y1, y2, y3, y4⟩ := y
  simp only [eqv, strOf_beq]
  rfl
theorem Runs.neqStruct {P : Program} {T : TypeId} {fs : Array Field} {cs ds : List Value} {t : Bool} (hu : P.underlying T = some (.struct fs)) (hp : P.stoodInHeld T = false) (hg : P.eqGuardType P.depth T = false) (hx : ρ a = .agg cs.toArray) (hy : ρ b = .agg ds.toArray) (hok : (fs.toList.all fun F => fieldOk P cs.toArray ds.toArray F) = true)
    (hc : (!(fs.toList.all fun F => eqv (cs.toArray.getD F.offset undef) (ds.toArray.getD F.offset undef))) = t) : Runs P ⟨d, .binOp .neq T a b T2, ty, pos, af, gd⟩ ρ h (.bool t) := fun w _ => by
  subst hc
  have hf : P.fieldsOf T = fs := by simp [Program.fieldsOf, hu]
  have h1 := run_eqGuard_agg (P := P) w .neq T a b cs.toArray ds.toArray hg
  have h2 : (binOp .neq T (.agg cs.toArray) (.agg ds.toArray)).run P w = .ok (.bool (!(fs.toList.all fun F => eqv (cs.toArray.getD F.offset undef) (ds.toArray.getD F.offset undef)))) w := by
    rw [run_neq_struct, run_equalIn_struct (P := P) w 9999 T cs.toArray ds.toArray (by rw [hf]; exact hu) hp, hf, eqFields_plain 9998 w fs.toList hok]
    rfl
  simp only [execOp, hx, hy, Sem.run_bind, h1, Result.andThen_ok, h2]
  rfl
set_option maxRecDepth 10000 in
theorem Runs.neqJ {x y : JV} {t : Bool} (hx : ρ a = .agg (encJ x).toArray) (hy : ρ b = .agg (encJ y).toArray) (hc : (!(x == y)) = t) : Runs Tryz.prog ⟨d, .binOp .neq 41 a b T2, ty, pos, af, gd⟩ ρ h (.bool t) := by
  refine Runs.neqStruct Tryz.underlying41 sih41 eg41 hx hy (by kernel_rfl) ?_
  rw [← hc, ← eqv_J x y]
  simp [encJ]
end
end Go.Proofs.YtjopikfkgjbcgaaGreatDoor
/-! slices.Clone of values; Same; named, both. -/
namespace Go.Proofs.YtjopikfkgjbcgaaGreatDoor
set_option linter.unnecessarySimpa false
set_option linter.unusedSimpArgs false
set_option linter.unusedVariables false
open Go.RowKit
section
variable {ρ : Operand → Value} {h : Heap} {d : Option Tmp} {ty : TypeId} {pos : String} {af : Array Edge} {gd : Option (Nat × Bool)} {K : Value → Heap → Prop}
theorem run_jv0 (w : World) : (Instr.buildSlice 26 0 #[]).run Tryz.prog w = .ok (.slice (some ⟨w.heap.size, 0, none⟩) 0 0) (w.alloc (.cells (flJ []).toArray 41)) := by kernel_rfl
set_option maxRecDepth 10000 in
theorem HO.jv0 (k : ∀ h', Nw h h' (.cells (flJ []).toArray 41 (0, 0)) → K (.slice (some ⟨h.size, 0, none⟩) 0 0) h') : HO Tryz.prog ⟨d, .buildSlice 26 0 #[], ty, pos, af, gd⟩ ρ h K :=
  HO.buildSlice (fun w => by
    have e : (#[] : Array (Nat × Operand)).map (fun (i, x) => (i, ρ x)) = #[] := by simp
    rw [e]
    exact run_jv0 w) k
end

section
variable {ρ : Operand → Value} {h : Heap} {d : Option Tmp} {ty : TypeId} {pos : String} {af : Array Edge} {gd : Option (Nat × Bool)} {x y : Operand}
theorem run_nilDs (n c : Nat) (w : World) : (binOp .eql 26 (.slice none n c) (.slice none 0 0)).run Tryz.prog w = .ok (.bool true) w := by kernel_rfl
theorem run_nonDs (a : Addr) (n c : Nat) (w : World) : (binOp .eql 26 (.slice (some a) n c) (.slice none 0 0)).run Tryz.prog w = .ok (.bool false) w := by kernel_rfl
theorem Runs.eqNilJs {a : Option Addr} {n c : Nat} (hx : ρ x = .slice a n c) (hy : ρ y = .slice none 0 0) : Runs Tryz.prog ⟨d, .binOp .eql 26 x y 26, ty, pos, af, gd⟩ ρ h (.bool a.isNone) := fun w _ => by
  have h1 : (eqGuard .eql 26 x y (.slice a n c) (.slice none 0 0)).run Tryz.prog w = .ok () w := by
    unfold eqGuard
    simp
  have h2 : (binOp .eql 26 (.slice a n c) (.slice none 0 0)).run Tryz.prog w = .ok (.bool a.isNone) w := by
    cases a with
    | none => exact run_nilDs n c w
    | some a => exact run_nonDs a n c w
  simp only [execOp, hx, hy, Sem.run_bind, h1, Result.andThen_ok, h2]
  rfl
end
theorem Js.start (h : Heap) (base : Nat) : Js h base none 0 [] := ⟨Own.nil h base 41 4, Nat.le_refl _⟩
set_option maxRecDepth 10000 in
theorem cloneJ_ch (h : Heap) (l : List JV) (a : Option Addr) (n cap : Nat) (hn : n = l.length) (hsrc : Jvs h a l) (hlen : l.length ≤ 1000000) :
    CH Tryz.prog 36 #[.slice a n cap] h fun v h' => ∃ a' c', v = .slice a' l.length c' ∧ Js h' h.size a' c' l ∧ Ext h h' := by
  subst hn
  refine CH.of_body Tryz.func36 rfl rfl rfl ?_
  intro f hf
  have p0 : f 0 = .slice a l.length cap := by rw [hf]; exact fr0_at rfl
  -- region 0
  repeat refine HW.seq ?_
  refine HW.region ?_
  refine HL.still (Runs.assign rfl) ?_
  intro u2 e2
  refine HL.nil ?_
  -- region 1
  repeat refine HW.seq ?_
  refine HW.region ?_
  refine HL.still (Runs.move p0) ?_
  intro u3 e3
  refine HL.still (Runs.eqNilJs e3 rfl) ?_
  intro u4 e4
  refine HL.nil ?_
  cases a with
  | none =>
    have hxs : l = [] := by
      rcases hsrc with q | ⟨sb, so, q, _⟩
      · exact q
      · cases q
    subst hxs
    refine HW.yes e4 ?_
    -- region 2
    repeat refine HW.seq ?_
    refine HW.region ?_
    refine HL.still (Runs.assign rfl) ?_
    intro u2 e2
    refine HL.nil ?_
    refine HW.ret ?_
    exact RT.one rfl e2 ⟨none, 0, rfl, Js.start h h.size, Bel.refl _ _⟩
  | some a =>
    refine HW.no e4 ?_
    refine HW.skip ?_
    -- region 3
    repeat refine HW.seq ?_
    refine HW.region ?_
    refine HL.one (HO.jv0 ?_)
    intro h1 w1
    intro u5 e5
    refine HL.still (Runs.move p0) ?_
    intro u6 e6
    refine HL.one (HO.dapp e5 e6 rfl rfl (Js.lit (l := []) w1 (Nat.le_refl _) (Nat.zero_le _)) (hsrc.ext w1.ext) (by simp; omega) (by rw [w1.size]; omega) ?_)
    intro a5 c5 h5 B5 G5
    intro u7 e7
    refine HL.still (Runs.assign e7) ?_
    intro u2 e2
    refine HL.nil ?_
    refine HW.ret ?_
    exact RT.one rfl e2 ⟨a5, c5, rfl, B5, G5.belJ w1.ext (Js.lit (l := []) w1 (Nat.le_refl _) (Nat.zero_le _)) (Nat.le_refl _) (Nat.le_refl _)⟩

theorem take_eq_step {A B : List JV} {k : Nat} (hA : k < A.length) (hB : k < B.length) (h : A.take k = B.take k) (e : A.getD k zJ = B.getD k zJ) : A.take (k + 1) = B.take (k + 1) := by
  rw [List.take_succ_eq_append_getElem hA, List.take_succ_eq_append_getElem hB, h]
  congr 2
  rw [List.getD_eq_getElem?_getD, List.getD_eq_getElem?_getD, List.getElem?_eq_getElem hA, List.getElem?_eq_getElem hB] at e
  exact e
set_option maxRecDepth 10000 in
theorem same_ch (h : Heap) (A B : List JV) (a b : Option Addr) (n m c d : Nat) (hn : n = A.length) (hm : m = B.length) (hA : Jvs h a A) (hB : Jvs h b B) (hlA : A.length ≤ 1000000) (hlB : B.length ≤ 1000000) :
    CH Tryz.prog 6 #[.slice a n c, .slice b m d] h fun v h' => v = .bool (A == B) ∧ h' = h := by
  subst hn hm
  refine CH.of_body Tryz.func6 rfl rfl rfl ?_
  intro f hf
  have p0 : f 0 = .slice a A.length c := by rw [hf]; exact fr0_at rfl
  have p1 : f 1 = .slice b B.length d := by rw [hf]; exact fr0_at rfl
  -- region 0
  repeat refine HW.seq ?_
  refine HW.region ?_
  refine HL.still (Runs.assign rfl) ?_
  intro u4 e4
  refine HL.nil ?_
  by_cases hlen : A.length = B.length
  case neg =>
    -- region 1
    repeat refine HW.seq ?_
    refine HW.region ?_
    refine HL.still (Runs.move p0) ?_
    intro u6 e6
    refine HL.still (Runs.lenSl rfl Tryz.underlying26 e6) ?_
    intro u7 e7
    refine HL.still (Runs.move p1) ?_
    intro u8 e8
    refine HL.still (Runs.lenSl rfl Tryz.underlying26 e8) ?_
    intro u9 e9
    refine HL.still (Runs.neq e7 e9 (t := true) (by simp; omega)) ?_
    intro u10 e10
    refine HL.nil ?_
    repeat refine HW.seq ?_
    refine HW.yes ?_ ?_
    exact e10
    -- region 2
    repeat refine HW.seq ?_
    refine HW.region ?_
    refine HL.still (Runs.assign rfl) ?_
    intro u4 e4
    refine HL.nil ?_
    refine HW.ret ?_
    exact RT.one rfl e4 ⟨by rw [beq_eq_false_iff_ne.2 (fun e => hlen (congrArg List.length e))], rfl⟩
  -- region 1
  repeat refine HW.seq ?_
  refine HW.region ?_
  refine HL.still (Runs.move p0) ?_
  intro u6 e6
  refine HL.still (Runs.lenSl rfl Tryz.underlying26 e6) ?_
  intro u7 e7
  refine HL.still (Runs.move p1) ?_
  intro u8 e8
  refine HL.still (Runs.lenSl rfl Tryz.underlying26 e8) ?_
  intro u9 e9
  refine HL.still (Runs.neq e7 e9 (t := false) (by rw [hlen]; simp)) ?_
  intro u10 e10
  refine HL.nil ?_
  repeat refine HW.seq ?_
  refine HW.no ?_ ?_
  exact e10
  refine HW.skip ?_
  -- region 3
  repeat refine HW.seq ?_
  refine HW.region ?_
  refine HL.still (Runs.assign rfl) ?_
  intro u5 e5
  refine HL.nil ?_
  repeat refine HW.seq ?_
  refine HW.block ?_
  refine HW.loop (fun m f u => ∃ k : Nat, k ≤ A.length ∧ m = A.length - k ∧ f 5 = I64 k ∧ f 0 = .slice a A.length c ∧ f 1 = .slice b B.length d ∧ A.take k = B.take k ∧ u = h) A.length
    ⟨0, Nat.zero_le _, rfl, e5, p0, p1, rfl, rfl⟩ ?_
  clear e4 e5
  rintro m f u ⟨k, hk, hm, f5, f0, f1, hpre, rfl⟩
  by_cases hlt : k < A.length
  · obtain ⟨sa, oa, rfl, ca⟩ := hA.at hlt
    obtain ⟨sb, ob, rfl, cb⟩ := hB.at (show k < B.length by omega)
    -- region 4
    repeat refine HW.seq ?_
    refine HW.region ?_
    refine HL.still (Runs.move f5) ?_
    intro u11 e11
    refine HL.still (Runs.move f0) ?_
    intro u12 e12
    refine HL.still (Runs.lenSl rfl Tryz.underlying26 e12) ?_
    intro u13 e13
    refine HL.still (Runs.lss e11 e13 rfl) ?_
    intro u14 e14
    refine HL.nil ?_
    repeat refine HW.seq ?_
    refine HW.yes ?_ ?_
    exact e14.trans (congrArg Value.bool (decide_eq_true (by omega)))
    refine HW.skip ?_
    repeat refine HW.seq ?_
    refine HW.block ?_
    by_cases he : A.getD k zJ = B.getD k zJ
    · skip
      -- region 6
      repeat refine HW.seq ?_
      refine HW.draw mixed (by kernel_rfl) ?_
      refine HS.still (Runs.move f0) ?_
      intro u17 e17
      refine HS.still (Runs.move f5) ?_
      intro u18 e18
      refine HS.still (Runs.ixSl (o' := oa + k * 4) Tryz.underlying26 sz41 e17 e18 (by omega) (by omega) (by omega)) ?_
      intro u19 e19
      refine HS.still (Runs.loadAgg Tryz.underlying41 rfl sz41 e19 (encJ_len (A.getD k zJ)) ca) ?_
      intro u20 e20
      refine HS.still (Runs.move f1) ?_
      intro u21 e21
      refine HS.still (Runs.move f5) ?_
      intro u22 e22
      refine HS.still (Runs.ixSl (o' := ob + k * 4) Tryz.underlying26 sz41 e21 e22 (by omega) (by omega) (by omega)) ?_
      intro u23 e23
      refine HS.still (Runs.loadAgg Tryz.underlying41 rfl sz41 e23 (encJ_len (B.getD k zJ)) cb) ?_
      intro u24 e24
      refine HS.still (Runs.neqJ (t := false) e20 e24 (by rw [he]; simp)) ?_
      intro u25 e25
      refine HS.nil ?_
      repeat refine HW.seq ?_
      refine HW.no ?_ ?_
      exact e25
      refine HW.skip ?_
      -- region 5
      repeat refine HW.seq ?_
      refine HW.region ?_
      refine HL.still (Runs.move f5) ?_
      intro u15 e15
      refine HL.still (Runs.add e15 rfl (i64w (by omega))) ?_
      intro u16 e16
      refine HL.still (Runs.assign e16) ?_
      intro u5 e5
      refine HL.nil ?_
      exact ⟨A.length - (k + 1), by omega, k + 1, by omega, rfl, e5, f0, f1, take_eq_step hlt (by omega) hpre he, rfl⟩
    · skip
      -- region 6
      repeat refine HW.seq ?_
      refine HW.draw mixed (by kernel_rfl) ?_
      refine HS.still (Runs.move f0) ?_
      intro u17 e17
      refine HS.still (Runs.move f5) ?_
      intro u18 e18
      refine HS.still (Runs.ixSl (o' := oa + k * 4) Tryz.underlying26 sz41 e17 e18 (by omega) (by omega) (by omega)) ?_
      intro u19 e19
      refine HS.still (Runs.loadAgg Tryz.underlying41 rfl sz41 e19 (encJ_len (A.getD k zJ)) ca) ?_
      intro u20 e20
      refine HS.still (Runs.move f1) ?_
      intro u21 e21
      refine HS.still (Runs.move f5) ?_
      intro u22 e22
      refine HS.still (Runs.ixSl (o' := ob + k * 4) Tryz.underlying26 sz41 e21 e22 (by omega) (by omega) (by omega)) ?_
      intro u23 e23
      refine HS.still (Runs.loadAgg Tryz.underlying41 rfl sz41 e23 (encJ_len (B.getD k zJ)) cb) ?_
      intro u24 e24
      refine HS.still (Runs.neqJ (t := true) e20 e24 (by rw [beq_eq_false_iff_ne.2 he]; rfl)) ?_
      intro u25 e25
      refine HS.nil ?_
      repeat refine HW.seq ?_
      refine HW.yes ?_ ?_
      exact e25
      -- region 7
      repeat refine HW.seq ?_
      refine HW.region ?_
      refine HL.still (Runs.assign rfl) ?_
      intro u4 e4
      refine HL.nil ?_
      refine HW.ret ?_
      exact RT.one rfl e4 ⟨by rw [beq_eq_false_iff_ne.2 (fun e => he (by rw [e]))], rfl⟩
  · have hkn : k = A.length := by omega
    subst hkn
    have hAB : A = B := by
      rw [List.take_of_length_le (Nat.le_refl _), hlen, List.take_of_length_le (Nat.le_refl _)] at hpre
      exact hpre
    -- region 4
    repeat refine HW.seq ?_
    refine HW.region ?_
    refine HL.still (Runs.move f5) ?_
    intro u11 e11
    refine HL.still (Runs.move f0) ?_
    intro u12 e12
    refine HL.still (Runs.lenSl rfl Tryz.underlying26 e12) ?_
    intro u13 e13
    refine HL.still (Runs.lss e11 e13 rfl) ?_
    intro u14 e14
    refine HL.nil ?_
    repeat refine HW.seq ?_
    refine HW.no ?_ ?_
    exact e14.trans (congrArg Value.bool (decide_eq_false (by omega)))
    refine HW.exitHere ?_
    -- region 8
    repeat refine HW.seq ?_
    refine HW.region ?_
    refine HL.still (Runs.assign rfl) ?_
    intro u4 e4
    refine HL.nil ?_
    refine HW.ret ?_
    exact RT.one rfl e4 ⟨by rw [hAB]; simp, rfl⟩
end Go.Proofs.YtjopikfkgjbcgaaGreatDoor
/-! A row of another key: named, both. -/
namespace Go.Proofs.YtjopikfkgjbcgaaGreatDoor
set_option linter.unnecessarySimpa false
set_option linter.unusedSimpArgs false
set_option linter.unusedVariables false
open Go.RowKit
/-- A row of another key. -/
def namedO (l : List JV) (key : List UInt8) : List JV := match l with | [] => [] | x :: r => (x.1, key, x.2.2) :: r
theorem namedO_len (l : List JV) (key : List UInt8) : (namedO l key).length = l.length := by cases l <;> rfl
theorem Js.named {h h' : Heap} {base g cap : Nat} {l : List JV} {key : List UInt8} {cur : List Value} (x : Js h base (some ⟨g, 0, none⟩) cap l) (hl : l ≠ []) (hb : h[g]? = some (.cells cur.toArray 41 (0, 0))) (w : Wr h h' g (.cells (cur.set 1 (.string (strOf key))).toArray 41 (0, 0))) : Js h' base (some ⟨g, 0, none⟩) cap (namedO l key) := by
  obtain ⟨cur', h1, h2, h3⟩ := x.blkAt
  rw [hb] at h1
  have e1 : cur = cur' := by
    have := Option.some.inj h1
    injection this with q
    have := congrArg Array.toList q
    simpa using this
  subst e1
  obtain ⟨hg, _⟩ : base ≤ g ∧ g < h.size := by
    rcases x.blk with ⟨q, _⟩ | ⟨g', q, q1, q2⟩
    · cases q
    · cases q; exact ⟨q1, q2⟩
  cases l with
  | nil => exact absurd rfl hl
  | cons y r =>
    refine Js.of_blk w.new (by rw [List.length_set]; exact h2) ?_ hg (by have := x.2; simpa [namedO] using this) x.capLe
    have e2 : (cur.set 1 (.string (strOf key))).take ((y :: r).length * 4) = (flJ (y :: r)).set 1 (.string (strOf key)) := by rw [← h3, List.take_set]
    have e3 : (namedO (y :: r) key).length = (y :: r).length := rfl
    rw [e3, e2]
    rfl
set_option maxRecDepth 10000 in
theorem named_ch (h : Heap) (l : List JV) (a : Option Addr) (n cap : Nat) (key : List UInt8) (hn : n = l.length) (hsrc : Jvs h a l) (hlen : l.length ≤ 1000000) :
    CH Tryz.prog 31 #[.slice a n cap, .string (strOf key)] h fun v h' => ∃ a' c', v = .slice a' (namedO l key).length c' ∧ Js h' h.size a' c' (namedO l key) ∧ Ext h h' := by
  subst hn
  refine CH.of_body Tryz.func31 rfl rfl rfl ?_
  intro f hf
  have p0 : f 0 = .slice a l.length cap := by rw [hf]; exact fr0_at rfl
  have p1 : f 1 = .string (strOf key) := by rw [hf]; exact fr0_at rfl
  -- region 0
  repeat refine HW.seq ?_
  refine HW.region ?_
  refine HL.still (Runs.assign rfl) ?_
  intro u4 e4
  refine HL.nil ?_
  -- region 1
  repeat refine HW.seq ?_
  refine HW.region ?_
  refine HL.still (Runs.move p0) ?_
  intro u6 e6
  refine HL.one (HO.call Tryz.func36 bd36 nm36 (args1 e6) rfl ((cloneJ_ch h l a l.length cap rfl hsrc hlen).mono ?_))
  rintro _ h1 ⟨a1, c1, rfl, J, X1⟩
  intro u7 e7
  refine HL.still (Runs.assign e7) ?_
  intro u5 e5
  refine HL.nil ?_
  have g5 : u5 = .slice a1 l.length c1 := e5
  cases l with
  | nil =>
    -- region 2
    repeat refine HW.seq ?_
    refine HW.region ?_
    refine HL.still (Runs.move g5) ?_
    intro u8 e8
    refine HL.still (Runs.lenSl rfl Tryz.underlying26 e8) ?_
    intro u9 e9
    refine HL.still (Runs.gtr e9 rfl (t := false) (by simp)) ?_
    intro u10 e10
    refine HL.nil ?_
    refine HW.no e10 ?_
    refine HW.skip ?_
    -- region 4
    repeat refine HW.seq ?_
    refine HW.region ?_
    refine HL.still (Runs.move g5) ?_
    intro u15 e15
    refine HL.still (Runs.assign e15) ?_
    intro u4 e4
    refine HL.nil ?_
    refine HW.ret ?_
    exact RT.one rfl e4 ⟨a1, c1, rfl, J, X1⟩
  | cons y r =>
    obtain ⟨g, rfl, hg, hgl⟩ : ∃ g, a1 = some ⟨g, 0, none⟩ ∧ h.size ≤ g ∧ g < h1.size := by
      rcases J.blk with ⟨_, q⟩ | q
      · cases q
      · exact q
    obtain ⟨cur, hb, hcl, _⟩ := J.blkAt
    have hcap := J.2
    have hpos : 0 < (y :: r).length := by simp
    -- region 2
    repeat refine HW.seq ?_
    refine HW.region ?_
    refine HL.still (Runs.move g5) ?_
    intro u8 e8
    refine HL.still (Runs.lenSl rfl Tryz.underlying26 e8) ?_
    intro u9 e9
    refine HL.still (Runs.gtr e9 rfl (t := true) (by simp)) ?_
    intro u10 e10
    refine HL.nil ?_
    refine HW.yes e10 ?_
    -- region 3
    repeat refine HW.seq ?_
    refine HW.region ?_
    refine HL.still (Runs.move g5) ?_
    intro u11 e11
    refine HL.still (Runs.move p1) ?_
    intro u12 e12
    refine HL.still (Runs.ixSl (o' := 0) Tryz.underlying26 sz41 e11 rfl (by omega) (by omega) (by omega)) ?_
    intro u13 e13
    refine HL.still (Runs.fld (o' := 1) Tryz.underlying41 rfl sz9 (by decide) e13 (by rfl)) ?_
    intro u14 e14
    refine HL.zero (HO.store (s := 1) sz9 e14 e12 rfl hb (by omega) rfl ?_)
    intro h2 w2
    refine HL.nil ?_
    have J2 := J.named (key := key) (by simp) hb w2
    -- region 4
    repeat refine HW.seq ?_
    refine HW.region ?_
    refine HL.still (Runs.move g5) ?_
    intro u15 e15
    refine HL.still (Runs.assign e15) ?_
    intro u4 e4
    refine HL.nil ?_
    refine HW.ret ?_
    exact RT.one rfl e4 ⟨_, c1, by rw [namedO_len], J2, X1.wr w2 hg⟩
set_option maxRecDepth 10000 in
theorem namedR_ch (h : Heap) (l : List JV) (a : Option Addr) (n cap : Nat) (key : List UInt8) (hn : n = l.length) (hsrc : Jvs h a l) (hlen : l.length ≤ 1000000) :
    CH Tryz.prog 49 #[.slice a n cap, .string (strOf key)] h fun v h' => ∃ a' c', v = .slice a' (namedO l key).length c' ∧ Js h' h.size a' c' (namedO l key) ∧ Ext h h' := by
  subst hn
  refine CH.of_body Tryz.func49 rfl rfl rfl ?_
  intro f hf
  have p0 : f 0 = .slice a l.length cap := by rw [hf]; exact fr0_at rfl
  have p1 : f 1 = .string (strOf key) := by rw [hf]; exact fr0_at rfl
  -- region 0
  repeat refine HW.seq ?_
  refine HW.region ?_
  refine HL.still (Runs.assign rfl) ?_
  intro u4 e4
  refine HL.nil ?_
  -- region 1
  repeat refine HW.seq ?_
  refine HW.region ?_
  refine HL.one (HO.jv0 ?_)
  intro h0 w0
  intro u6 e6
  refine HL.still (Runs.move p0) ?_
  intro u7 e7
  refine HL.one (HO.dapp e6 e7 rfl rfl (Js.lit (l := []) w0 (Nat.le_refl _) (Nat.zero_le _)) (hsrc.ext w0.ext) (by simp; omega) (by rw [w0.size]; omega) ?_)
  intro a1 c1 h1 J G1
  intro u8 e8
  refine HL.still (Runs.assign e8) ?_
  intro u5 e5
  refine HL.nil ?_
  have X1 : Ext h h1 := G1.belJ w0.ext (Js.lit (l := []) w0 (Nat.le_refl _) (Nat.zero_le _)) (Nat.le_refl _) (Nat.le_refl _)
  have J : Js h1 h.size a1 c1 l := J
  have g5 : u5 = .slice a1 l.length c1 := e5
  cases l with
  | nil =>
    -- region 2
    repeat refine HW.seq ?_
    refine HW.region ?_
    refine HL.still (Runs.move g5) ?_
    intro u9 e9
    refine HL.still (Runs.lenSl rfl Tryz.underlying26 e9) ?_
    intro u10 e10
    refine HL.still (Runs.gtr e10 rfl (t := false) (by simp)) ?_
    intro u11 e11
    refine HL.nil ?_
    refine HW.no e11 ?_
    refine HW.skip ?_
    -- region 4
    repeat refine HW.seq ?_
    refine HW.region ?_
    refine HL.still (Runs.move g5) ?_
    intro u16 e16
    refine HL.still (Runs.assign e16) ?_
    intro u4 e4
    refine HL.nil ?_
    refine HW.ret ?_
    exact RT.one rfl e4 ⟨a1, c1, rfl, J, X1⟩
  | cons y r =>
    obtain ⟨g, rfl, hg, hgl⟩ : ∃ g, a1 = some ⟨g, 0, none⟩ ∧ h.size ≤ g ∧ g < h1.size := by
      rcases J.blk with ⟨_, q⟩ | q
      · cases q
      · exact q
    obtain ⟨cur, hb, hcl, _⟩ := J.blkAt
    have hcap := J.2
    have hpos : 0 < (y :: r).length := by simp
    -- region 2
    repeat refine HW.seq ?_
    refine HW.region ?_
    refine HL.still (Runs.move g5) ?_
    intro u9 e9
    refine HL.still (Runs.lenSl rfl Tryz.underlying26 e9) ?_
    intro u10 e10
    refine HL.still (Runs.gtr e10 rfl (t := true) (by simp)) ?_
    intro u11 e11
    refine HL.nil ?_
    refine HW.yes e11 ?_
    -- region 3
    repeat refine HW.seq ?_
    refine HW.region ?_
    refine HL.still (Runs.move g5) ?_
    intro u12 e12
    refine HL.still (Runs.move p1) ?_
    intro u13 e13
    refine HL.still (Runs.ixSl (o' := 0) Tryz.underlying26 sz41 e12 rfl (by omega) (by omega) (by omega)) ?_
    intro u14 e14
    refine HL.still (Runs.fld (o' := 1) Tryz.underlying41 rfl sz9 (by decide) e14 (by rfl)) ?_
    intro u15 e15
    refine HL.zero (HO.store (s := 1) sz9 e15 e13 rfl hb (by omega) rfl ?_)
    intro h2 w2
    refine HL.nil ?_
    have J2 := J.named (key := key) (by simp) hb w2
    -- region 4
    repeat refine HW.seq ?_
    refine HW.region ?_
    refine HL.still (Runs.move g5) ?_
    intro u16 e16
    refine HL.still (Runs.assign e16) ?_
    intro u4 e4
    refine HL.nil ?_
    refine HW.ret ?_
    exact RT.one rfl e4 ⟨_, c1, by rw [namedO_len], J2, X1.wr w2 hg⟩
end Go.Proofs.YtjopikfkgjbcgaaGreatDoor
