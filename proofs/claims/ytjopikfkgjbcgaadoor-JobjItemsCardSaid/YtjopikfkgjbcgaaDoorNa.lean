/- How many digits a text has at a place: onionskinref10.digits. -/
import Derived.Test.YtjopikfkgjbcgaaDoorTab
namespace Go.Proofs.YtjopikfkgjbcgaaDoor
set_option linter.unnecessarySimpa false
set_option linter.unusedSimpArgs false
set_option linter.unusedVariables false
open Go.RowKit
def isDg (c : UInt8) : Bool := decide ((c.toNat : Int) ≥ 48) && decide ((c.toNat : Int) ≤ 57)
/-- How many digits bytes begin with. -/
def digs (s : List UInt8) : Nat := (s.takeWhile isDg).length
theorem digs_step {s : List UInt8} {j : Nat} (hj : j < s.length) (h : isDg (s.getD j 0) = true) : digs (s.drop j) = digs (s.drop (j + 1)) + 1 := by
  unfold digs
  rw [List.getD_eq_getElem?_getD, List.getElem?_eq_getElem hj] at h
  rw [List.drop_eq_getElem_cons hj, List.takeWhile_cons]
  simp only [Option.getD_some] at h
  rw [if_pos h, List.length_cons]
theorem digs_stop {s : List UInt8} {j : Nat} (hj : j < s.length) (h : isDg (s.getD j 0) = false) : digs (s.drop j) = 0 := by
  unfold digs
  rw [List.getD_eq_getElem?_getD, List.getElem?_eq_getElem hj] at h
  rw [List.drop_eq_getElem_cons hj, List.takeWhile_cons]
  simp only [Option.getD_some] at h
  rw [h]
  rfl
theorem digs_end {s : List UInt8} {j : Nat} (hj : s.length ≤ j) : digs (s.drop j) = 0 := by
  rw [List.drop_of_length_le hj]
  rfl
set_option maxRecDepth 10000 in
theorem digitsR_ch (h : Heap) (s : List UInt8) (k : Nat) (hs : s.length < 4611686018427387904) (hk : k < 4611686018427387904) : CH Tryd.prog 89 #[.string (strOf s), I64 k] h fun v h' => v = I64 (digs (s.drop k)) ∧ h' = h := by
  refine CH.of_body Tryd.func89 rfl rfl rfl ?_
  intro f hf
  have p0 : f 0 = .string (strOf s) := by rw [hf]; exact fr0_at rfl
  have p1 : f 1 = I64 k := by rw [hf]; exact fr0_at rfl
  -- region 0
  repeat refine HW.seq ?_
  refine HW.region ?_
  refine HL.still (Runs.assign rfl) ?_
  intro u4 e4
  refine HL.nil ?_
  -- region 1
  repeat refine HW.seq ?_
  refine HW.region ?_
  refine HL.still (Runs.move p1) ?_
  intro u6 e6
  refine HL.still (Runs.assign e6) ?_
  intro u5 e5
  refine HL.nil ?_
  repeat refine HW.seq ?_
  refine HW.block ?_
  refine HW.loop (fun m f u => ∃ j : Nat, k ≤ j ∧ m = s.length - j ∧ j < 4611686018427387904 ∧ f 5 = I64 j ∧ f 0 = .string (strOf s) ∧ f 1 = I64 k ∧ digs (s.drop k) = (j - k) + digs (s.drop j) ∧ u = h) (s.length - k)
    ⟨k, Nat.le_refl _, rfl, hk, e5, p0, p1, by omega, rfl⟩ ?_
  clear e4 e5 p0 p1
  rintro m f u ⟨j, hj, hm, hjb, f5, f0, f1, hd, rfl⟩
  by_cases hlt : j < s.length
  · have hget : s[j]? = some (s.getD j 0) := by rw [List.getD_eq_getElem?_getD, List.getElem?_eq_getElem hlt]; rfl
    obtain ⟨c, hc⟩ : ∃ c, c = s.getD j 0 := ⟨_, rfl⟩
    rw [← hc] at hget
    by_cases h1 : (c.toNat : Int) ≥ 48
    · by_cases h2 : (c.toNat : Int) ≤ 57
      · have hdg : isDg (s.getD j 0) = true := by rw [← hc]; unfold isDg; rw [decide_eq_true h1, decide_eq_true h2]; rfl
        have hst := digs_step hlt hdg
        -- region 2
        repeat refine HW.seq ?_
        refine HW.region ?_
        refine HL.still (Runs.move f5) ?_
        intro u7 e7
        refine HL.still (Runs.move f0) ?_
        intro u8 e8
        refine HL.still (Runs.lenS rfl Tryd.underlying9 e8) ?_
        intro u9 e9
        refine HL.still (Runs.lss e7 e9 (t := true) (decide_eq_true (by omega))) ?_
        intro u10 e10
        refine HL.still (Runs.move e10) ?_
        intro u11 e11
        refine HL.stillG rfl rfl e11 (Runs.move f0) ?_
        intro u12 e12
        refine HL.stillG rfl rfl e11 (Runs.move f5) ?_
        intro u13 e13
        refine HL.stillG rfl rfl e11 (Runs.ixS Tryd.underlying9 e12 e13 rfl hget) ?_
        intro u14 e14
        refine HL.stillG rfl rfl e11 (Runs.geq e14 rfl (t := true) (decide_eq_true h1)) ?_
        intro u15 e15
        refine HL.still (Runs.pick e11 e15) ?_
        intro u16 e16
        refine HL.still (Runs.move e16) ?_
        intro u17 e17
        refine HL.stillG rfl rfl e17 (Runs.move f0) ?_
        intro u18 e18
        refine HL.stillG rfl rfl e17 (Runs.move f5) ?_
        intro u19 e19
        refine HL.stillG rfl rfl e17 (Runs.ixS Tryd.underlying9 e18 e19 rfl hget) ?_
        intro u20 e20
        refine HL.stillG rfl rfl e17 (Runs.leq e20 rfl (t := true) (decide_eq_true h2)) ?_
        intro u21 e21
        refine HL.still (Runs.pick e17 e21) ?_
        intro u22 e22
        refine HL.nil ?_
        refine HW.yes e22 ?_
        refine HW.skip ?_
        repeat refine HW.seq ?_
        refine HW.block ?_
        -- region 3
        repeat refine HW.seq ?_
        refine HW.region ?_
        refine HL.still (Runs.move f5) ?_
        intro u23 e23
        refine HL.still (Runs.add e23 rfl (i64w (by omega))) ?_
        intro u24 e24
        refine HL.still (Runs.assign e24) ?_
        intro u5 e5
        refine HL.nil ?_
        exact ⟨s.length - (j + 1), by omega, j + 1, by omega, rfl, by omega, e5, f0, f1, by omega, rfl⟩
      · have hdg : isDg (s.getD j 0) = false := by rw [← hc]; unfold isDg; rw [decide_eq_true h1, decide_eq_false h2]; rfl
        have hst := digs_stop hlt hdg
        -- region 2
        repeat refine HW.seq ?_
        refine HW.region ?_
        refine HL.still (Runs.move f5) ?_
        intro u7 e7
        refine HL.still (Runs.move f0) ?_
        intro u8 e8
        refine HL.still (Runs.lenS rfl Tryd.underlying9 e8) ?_
        intro u9 e9
        refine HL.still (Runs.lss e7 e9 (t := true) (decide_eq_true (by omega))) ?_
        intro u10 e10
        refine HL.still (Runs.move e10) ?_
        intro u11 e11
        refine HL.stillG rfl rfl e11 (Runs.move f0) ?_
        intro u12 e12
        refine HL.stillG rfl rfl e11 (Runs.move f5) ?_
        intro u13 e13
        refine HL.stillG rfl rfl e11 (Runs.ixS Tryd.underlying9 e12 e13 rfl hget) ?_
        intro u14 e14
        refine HL.stillG rfl rfl e11 (Runs.geq e14 rfl (t := true) (decide_eq_true h1)) ?_
        intro u15 e15
        refine HL.still (Runs.pick e11 e15) ?_
        intro u16 e16
        refine HL.still (Runs.move e16) ?_
        intro u17 e17
        refine HL.stillG rfl rfl e17 (Runs.move f0) ?_
        intro u18 e18
        refine HL.stillG rfl rfl e17 (Runs.move f5) ?_
        intro u19 e19
        refine HL.stillG rfl rfl e17 (Runs.ixS Tryd.underlying9 e18 e19 rfl hget) ?_
        intro u20 e20
        refine HL.stillG rfl rfl e17 (Runs.leq e20 rfl (t := false) (decide_eq_false h2)) ?_
        intro u21 e21
        refine HL.still (Runs.pick e17 e21) ?_
        intro u22 e22
        refine HL.nil ?_
        refine HW.no e22 ?_
        refine HW.exitHere ?_
        -- region 4
        repeat refine HW.seq ?_
        refine HW.region ?_
        refine HL.still (Runs.move f5) ?_
        intro u25 e25
        refine HL.still (Runs.move f1) ?_
        intro u26 e26
        refine HL.still (Runs.sub e25 e26 (i64w (by omega))) ?_
        intro u27 e27
        refine HL.still (Runs.assign e27) ?_
        intro u4 e4
        refine HL.nil ?_
        refine HW.ret ?_
        exact RT.one rfl e4 ⟨congrArg (Value.int .i64) (by omega), rfl⟩
    · have hdg : isDg (s.getD j 0) = false := by rw [← hc]; unfold isDg; rw [decide_eq_false h1]; rfl
      have hst := digs_stop hlt hdg
      -- region 2
      repeat refine HW.seq ?_
      refine HW.region ?_
      refine HL.still (Runs.move f5) ?_
      intro u7 e7
      refine HL.still (Runs.move f0) ?_
      intro u8 e8
      refine HL.still (Runs.lenS rfl Tryd.underlying9 e8) ?_
      intro u9 e9
      refine HL.still (Runs.lss e7 e9 (t := true) (decide_eq_true (by omega))) ?_
      intro u10 e10
      refine HL.still (Runs.move e10) ?_
      intro u11 e11
      refine HL.stillG rfl rfl e11 (Runs.move f0) ?_
      intro u12 e12
      refine HL.stillG rfl rfl e11 (Runs.move f5) ?_
      intro u13 e13
      refine HL.stillG rfl rfl e11 (Runs.ixS Tryd.underlying9 e12 e13 rfl hget) ?_
      intro u14 e14
      refine HL.stillG rfl rfl e11 (Runs.geq e14 rfl (t := false) (decide_eq_false h1)) ?_
      intro u15 e15
      refine HL.still (Runs.pick e11 e15) ?_
      intro u16 e16
      refine HL.still (Runs.move e16) ?_
      intro u17 e17
      refine HL.skipG rfl rfl e17 ?_
      intro u18 e18
      refine HL.skipG rfl rfl e17 ?_
      intro u19 e19
      refine HL.skipG rfl rfl e17 ?_
      intro u20 e20
      refine HL.skipG rfl rfl e17 ?_
      intro u21 e21
      refine HL.still (Runs.pick e17 rfl) ?_
      intro u22 e22
      refine HL.nil ?_
      refine HW.no e22 ?_
      refine HW.exitHere ?_
      -- region 4
      repeat refine HW.seq ?_
      refine HW.region ?_
      refine HL.still (Runs.move f5) ?_
      intro u25 e25
      refine HL.still (Runs.move f1) ?_
      intro u26 e26
      refine HL.still (Runs.sub e25 e26 (i64w (by omega))) ?_
      intro u27 e27
      refine HL.still (Runs.assign e27) ?_
      intro u4 e4
      refine HL.nil ?_
      refine HW.ret ?_
      exact RT.one rfl e4 ⟨congrArg (Value.int .i64) (by omega), rfl⟩
  · have hst := digs_end (s := s) (j := j) (by omega)
    -- region 2
    repeat refine HW.seq ?_
    refine HW.region ?_
    refine HL.still (Runs.move f5) ?_
    intro u7 e7
    refine HL.still (Runs.move f0) ?_
    intro u8 e8
    refine HL.still (Runs.lenS rfl Tryd.underlying9 e8) ?_
    intro u9 e9
    refine HL.still (Runs.lss e7 e9 (t := false) (decide_eq_false (by omega))) ?_
    intro u10 e10
    refine HL.still (Runs.move e10) ?_
    intro u11 e11
    refine HL.skipG rfl rfl e11 ?_
    intro u12 e12
    refine HL.skipG rfl rfl e11 ?_
    intro u13 e13
    refine HL.skipG rfl rfl e11 ?_
    intro u14 e14
    refine HL.skipG rfl rfl e11 ?_
    intro u15 e15
    refine HL.still (Runs.pick e11 rfl) ?_
    intro u16 e16
    refine HL.still (Runs.move e16) ?_
    intro u17 e17
    refine HL.skipG rfl rfl e17 ?_
    intro u18 e18
    refine HL.skipG rfl rfl e17 ?_
    intro u19 e19
    refine HL.skipG rfl rfl e17 ?_
    intro u20 e20
    refine HL.skipG rfl rfl e17 ?_
    intro u21 e21
    refine HL.still (Runs.pick e17 rfl) ?_
    intro u22 e22
    refine HL.nil ?_
    refine HW.no e22 ?_
    refine HW.exitHere ?_
    -- region 4
    repeat refine HW.seq ?_
    refine HW.region ?_
    refine HL.still (Runs.move f5) ?_
    intro u25 e25
    refine HL.still (Runs.move f1) ?_
    intro u26 e26
    refine HL.still (Runs.sub e25 e26 (i64w (by omega))) ?_
    intro u27 e27
    refine HL.still (Runs.assign e27) ?_
    intro u4 e4
    refine HL.nil ?_
    refine HW.ret ?_
    exact RT.one rfl e4 ⟨congrArg (Value.int .i64) (by omega), rfl⟩
end Go.Proofs.YtjopikfkgjbcgaaDoor
