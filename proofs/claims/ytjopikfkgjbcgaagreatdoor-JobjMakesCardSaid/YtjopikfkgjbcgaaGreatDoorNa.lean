/- How many digits a text has at a place: onionskinref10.digits. -/
import Derived.Test.YtjopikfkgjbcgaaGreatDoorTab
namespace Go.Proofs.YtjopikfkgjbcgaaGreatDoor
set_option linter.unnecessarySimpa false
set_option linter.unusedSimpArgs false
set_option linter.unusedVariables false
open Go.RowKit
def isDg (c : UInt8) : Bool := decide ((c.toNat : Int) ≥ 48) && decide ((c.toNat : Int) ≤ 57)
/-- How many digits bytes begin with. -/
def digs (s : List UInt8) : Nat := (s.takeWhile isDg).length
theorem digs_step {s : List UInt8} {j : Nat} (hj : j < s.length) (h : isDg (s.getD j 0) = true) : digs (s.drop j) = digs (s.drop (j + 1)) + 1 := by
  unfold digs
  rw [List.getD_eq_getElem?_getD, List.getElem?_eq_getElem hj] at h
  rw [List.drop_eq_getElem_cons hj, List.takeWhile_cons]
  simp only [Option.getD_some] at h
  rw [if_pos h, List.length_cons]
theorem digs_stop {s : List UInt8} {j : Nat} (hj : j < s.length) (h : isDg (s.getD j 0) = false) : digs (s.drop j) = 0 := by
  unfold digs
  rw [List.getD_eq_getElem?_getD, List.getElem?_eq_getElem hj] at h
  rw [List.drop_eq_getElem_cons hj, List.takeWhile_cons]
  simp only [Option.getD_some] at h
  rw [h]
  rfl
theorem digs_end {s : List UInt8} {j : Nat} (hj : s.length ≤ j) : digs (s.drop j) = 0 := by
  rw [List.drop_of_length_le hj]
  rfl
set_option maxRecDepth 10000 in
theorem digitsR_ch (h : Heap) (s : List UInt8) (k : Nat) (hs : s.length < 4611686018427387904) (hk : k < 4611686018427387904) : CH Tryz.prog 93 #[.string (strOf s), I64 k] h fun v h' => v = I64 (digs (s.drop k)) ∧ h' = h := by
  refine CH.of_body Tryz.func93 rfl rfl rfl ?_
  intro f hf
  have p0 : f 0 = .string (strOf s) := by rw [hf]; exact fr0_at rfl
  have p1 : f 1 = I64 k := by rw [hf]; exact fr0_at rfl
  -- region 0
  repeat refine HW.seq ?_
  refine HW.region ?_
  refine HL.still (Runs.assign rfl) ?_
  intro u4 e4
  refine HL.nil ?_
  -- region 1
  repeat refine HW.seq ?_
  refine HW.region ?_
  refine HL.still (Runs.move p1) ?_
  intro u6 e6
  refine HL.still (Runs.assign e6) ?_
  intro u5 e5
  refine HL.nil ?_
  repeat refine HW.seq ?_
  refine HW.block ?_
  refine HW.loop (fun m f u => ∃ j : Nat, k ≤ j ∧ m = s.length - j ∧ j < 4611686018427387904 ∧ f 5 = I64 j ∧ f 0 = .string (strOf s) ∧ f 1 = I64 k ∧ digs (s.drop k) = (j - k) + digs (s.drop j) ∧ u = h) (s.length - k)
    ⟨k, Nat.le_refl _, rfl, hk, e5, p0, p1, by omega, rfl⟩ ?_
  clear e4 e5 p0 p1
  rintro m f u ⟨j, hj, hm, hjb, f5, f0, f1, hd, rfl⟩
  by_cases hlt : j < s.length
  · have hget : s[j]? = some (s.getD j 0) := by rw [List.getD_eq_getElem?_getD, List.getElem?_eq_getElem hlt]; rfl
    obtain ⟨c, hc⟩ : ∃ c, c = s.getD j 0 := ⟨_, rfl⟩
    rw [← hc] at hget
    by_cases h1 : (c.toNat : Int) ≥ 48
    · by_cases h2 : (c.toNat : Int) ≤ 57
      · have hdg : isDg (s.getD j 0) = true := by rw [← hc]; unfold isDg; rw [decide_eq_true h1, decide_eq_true h2]; rfl
        have hst := digs_step hlt hdg
        -- region 2
        repeat refine HW.seq ?_
        refine HW.region ?_
        refine HL.still (Runs.move f5) ?_
        intro u7 e7
        refine HL.still (Runs.move f0) ?_
        intro u8 e8
        refine HL.still (Runs.lenS rfl Tryz.underlying9 e8) ?_
        intro u9 e9
        refine HL.still (Runs.lss e7 e9 (t := true) (decide_eq_true (by omega))) ?_
        intro u10 e10
        refine HL.still (Runs.move e10) ?_
        intro u11 e11
        refine HL.stillG rfl rfl e11 (Runs.move f0) ?_
        intro u12 e12
        refine HL.stillG rfl rfl e11 (Runs.move f5) ?_
        intro u13 e13
        refine HL.stillG rfl rfl e11 (Runs.ixS Tryz.underlying9 e12 e13 rfl hget) ?_
        intro u14 e14
        refine HL.stillG rfl rfl e11 (Runs.geq e14 rfl (t := true) (decide_eq_true h1)) ?_
        intro u15 e15
        refine HL.still (Runs.pick e11 e15) ?_
        intro u16 e16
        refine HL.still (Runs.move e16) ?_
        intro u17 e17
        refine HL.stillG rfl rfl e17 (Runs.move f0) ?_
        intro u18 e18
        refine HL.stillG rfl rfl e17 (Runs.move f5) ?_
        intro u19 e19
        refine HL.stillG rfl rfl e17 (Runs.ixS Tryz.underlying9 e18 e19 rfl hget) ?_
        intro u20 e20
        refine HL.stillG rfl rfl e17 (Runs.leq e20 rfl (t := true) (decide_eq_true h2)) ?_
        intro u21 e21
        refine HL.still (Runs.pick e17 e21) ?_
        intro u22 e22
        refine HL.nil ?_
        refine HW.yes e22 ?_
        refine HW.skip ?_
        repeat refine HW.seq ?_
        refine HW.block ?_
        -- region 3
        repeat refine HW.seq ?_
        refine HW.region ?_
        refine HL.still (Runs.move f5) ?_
        intro u23 e23
        refine HL.still (Runs.add e23 rfl (i64w (by omega))) ?_
        intro u24 e24
        refine HL.still (Runs.assign e24) ?_
        intro u5 e5
        refine HL.nil ?_
        exact ⟨s.length - (j + 1), by omega, j + 1, by omega, rfl, by omega, e5, f0, f1, by omega, rfl⟩
      · have hdg : isDg (s.getD j 0) = false := by rw [← hc]; unfold isDg; rw [decide_eq_true h1, decide_eq_false h2]; rfl
        have hst := digs_stop hlt hdg
        -- region 2
        repeat refine HW.seq ?_
        refine HW.region ?_
        refine HL.still (Runs.move f5) ?_
        intro u7 e7
        refine HL.still (Runs.move f0) ?_
        intro u8 e8
        refine HL.still (Runs.lenS rfl Tryz.underlying9 e8) ?_
        intro u9 e9
        refine HL.still (Runs.lss e7 e9 (t := true) (decide_eq_true (by omega))) ?_
        intro u10 e10
        refine HL.still (Runs.move e10) ?_
        intro u11 e11
        refine HL.stillG rfl rfl e11 (Runs.move f0) ?_
        intro u12 e12
        refine HL.stillG rfl rfl e11 (Runs.move f5) ?_
        intro u13 e13
        refine HL.stillG rfl rfl e11 (Runs.ixS Tryz.underlying9 e12 e13 rfl hget) ?_
        intro u14 e14
        refine HL.stillG rfl rfl e11 (Runs.geq e14 rfl (t := true) (decide_eq_true h1)) ?_
        intro u15 e15
        refine HL.still (Runs.pick e11 e15) ?_
        intro u16 e16
        refine HL.still (Runs.move e16) ?_
        intro u17 e17
        refine HL.stillG rfl rfl e17 (Runs.move f0) ?_
        intro u18 e18
        refine HL.stillG rfl rfl e17 (Runs.move f5) ?_
        intro u19 e19
        refine HL.stillG rfl rfl e17 (Runs.ixS Tryz.underlying9 e18 e19 rfl hget) ?_
        intro u20 e20
        refine HL.stillG rfl rfl e17 (Runs.leq e20 rfl (t := false) (decide_eq_false h2)) ?_
        intro u21 e21
        refine HL.still (Runs.pick e17 e21) ?_
        intro u22 e22
        refine HL.nil ?_
        refine HW.no e22 ?_
        refine HW.exitHere ?_
        -- region 4
        repeat refine HW.seq ?_
        refine HW.region ?_
        refine HL.still (Runs.move f5) ?_
        intro u25 e25
        refine HL.still (Runs.move f1) ?_
        intro u26 e26
        refine HL.still (Runs.sub e25 e26 (i64w (by omega))) ?_
        intro u27 e27
        refine HL.still (Runs.assign e27) ?_
        intro u4 e4
        refine HL.nil ?_
        refine HW.ret ?_
        exact RT.one rfl e4 ⟨congrArg (Value.int .i64) (by omega), rfl⟩
    · have hdg : isDg (s.getD j 0) = false := by rw [← hc]; unfold isDg; rw [decide_eq_false h1]; rfl
      have hst := digs_stop hlt hdg
      -- region 2
      repeat refine HW.seq ?_
      refine HW.region ?_
      refine HL.still (Runs.move f5) ?_
      intro u7 e7
      refine HL.still (Runs.move f0) ?_
      intro u8 e8
      refine HL.still (Runs.lenS rfl Tryz.underlying9 e8) ?_
      intro u9 e9
      refine HL.still (Runs.lss e7 e9 (t := true) (decide_eq_true (by omega))) ?_
      intro u10 e10
      refine HL.still (Runs.move e10) ?_
      intro u11 e11
      refine HL.stillG rfl rfl e11 (Runs.move f0) ?_
      intro u12 e12
      refine HL.stillG rfl rfl e11 (Runs.move f5) ?_
      intro u13 e13
      refine HL.stillG rfl rfl e11 (Runs.ixS Tryz.underlying9 e12 e13 rfl hget) ?_
      intro u14 e14
      refine HL.stillG rfl rfl e11 (Runs.geq e14 rfl (t := false) (decide_eq_false h1)) ?_
      intro u15 e15
      refine HL.still (Runs.pick e11 e15) ?_
      intro u16 e16
      refine HL.still (Runs.move e16) ?_
      intro u17 e17
      refine HL.skipG rfl rfl e17 ?_
      intro u18 e18
      refine HL.skipG rfl rfl e17 ?_
      intro u19 e19
      refine HL.skipG rfl rfl e17 ?_
      intro u20 e20
      refine HL.skipG rfl rfl e17 ?_
      intro u21 e21
      refine HL.still (Runs.pick e17 rfl) ?_
      intro u22 e22
      refine HL.nil ?_
      refine HW.no e22 ?_
      refine HW.exitHere ?_
      -- region 4
      repeat refine HW.seq ?_
      refine HW.region ?_
      refine HL.still (Runs.move f5) ?_
      intro u25 e25
      refine HL.still (Runs.move f1) ?_
      intro u26 e26
      refine HL.still (Runs.sub e25 e26 (i64w (by omega))) ?_
      intro u27 e27
      refine HL.still (Runs.assign e27) ?_
      intro u4 e4
      refine HL.nil ?_
      refine HW.ret ?_
      exact RT.one rfl e4 ⟨congrArg (Value.int .i64) (by omega), rfl⟩
  · have hst := digs_end (s := s) (j := j) (by omega)
    -- region 2
    repeat refine HW.seq ?_
    refine HW.region ?_
    refine HL.still (Runs.move f5) ?_
    intro u7 e7
    refine HL.still (Runs.move f0) ?_
    intro u8 e8
    refine HL.still (Runs.lenS rfl Tryz.underlying9 e8) ?_
    intro u9 e9
    refine HL.still (Runs.lss e7 e9 (t := false) (decide_eq_false (by omega))) ?_
    intro u10 e10
    refine HL.still (Runs.move e10) ?_
    intro u11 e11
    refine HL.skipG rfl rfl e11 ?_
    intro u12 e12
    refine HL.skipG rfl rfl e11 ?_
    intro u13 e13
    refine HL.skipG rfl rfl e11 ?_
    intro u14 e14
    refine HL.skipG rfl rfl e11 ?_
    intro u15 e15
    refine HL.still (Runs.pick e11 rfl) ?_
    intro u16 e16
    refine HL.still (Runs.move e16) ?_
    intro u17 e17
    refine HL.skipG rfl rfl e17 ?_
    intro u18 e18
    refine HL.skipG rfl rfl e17 ?_
    intro u19 e19
    refine HL.skipG rfl rfl e17 ?_
    intro u20 e20
    refine HL.skipG rfl rfl e17 ?_
    intro u21 e21
    refine HL.still (Runs.pick e17 rfl) ?_
    intro u22 e22
    refine HL.nil ?_
    refine HW.no e22 ?_
    refine HW.exitHere ?_
    -- region 4
    repeat refine HW.seq ?_
    refine HW.region ?_
    refine HL.still (Runs.move f5) ?_
    intro u25 e25
    refine HL.still (Runs.move f1) ?_
    intro u26 e26
    refine HL.still (Runs.sub e25 e26 (i64w (by omega))) ?_
    intro u27 e27
    refine HL.still (Runs.assign e27) ?_
    intro u4 e4
    refine HL.nil ?_
    refine HW.ret ?_
    exact RT.one rfl e4 ⟨congrArg (Value.int .i64) (by omega), rfl⟩
end Go.Proofs.YtjopikfkgjbcgaaGreatDoor
/-! How many bytes a number has: onionskinref10.Number. -/
namespace Go.Proofs.YtjopikfkgjbcgaaGreatDoor
set_option linter.unnecessarySimpa false
set_option linter.unusedSimpArgs false
set_option linter.unusedVariables false
open Go.RowKit
/-- The byte at a place; 0 behind the end. -/
def at8 (s : List UInt8) (k : Nat) : Int := ((s.getD k 0).toNat : Int)
theorem at8_get {s : List UInt8} {k : Nat} (hk : k < s.length) : s[k]? = some (s.getD k 0) := by rw [List.getD_eq_getElem?_getD, List.getElem?_eq_getElem hk]; rfl
theorem at8_end {s : List UInt8} {k : Nat} (hk : s.length ≤ k) : at8 s k = 0 := by
  unfold at8
  rw [List.getD_eq_getElem?_getD, List.getElem?_eq_none hk]
  rfl
theorem digs_le (s : List UInt8) (k : Nat) : digs (s.drop k) ≤ s.length - k := by
  unfold digs
  have h1 := (List.takeWhile_sublist (p := isDg) (l := s.drop k)).length_le
  rwa [List.length_drop] at h1
/-- Behind a sign; behind the whole digits; behind a fraction. -/
def numA (s : List UInt8) : Nat := if at8 s 0 = 45 then 1 else 0
def numB (s : List UInt8) : Nat := numA s + (if at8 s (numA s) = 48 then 1 else digs (s.drop (numA s)))
def numC (s : List UInt8) (k : Nat) : Nat := if at8 s k = 46 ∧ digs (s.drop (k + 1)) > 0 then k + 1 + digs (s.drop (k + 1)) else k
def numM (s : List UInt8) (m : Nat) : Nat := if at8 s m = 43 ∨ at8 s m = 45 then m + 1 else m
def numD (s : List UInt8) (k : Nat) : Nat := if (at8 s k = 101 ∨ at8 s k = 69) ∧ digs (s.drop (numM s (k + 1))) > 0 then numM s (k + 1) + digs (s.drop (numM s (k + 1))) else k
def numO (s : List UInt8) : Nat := if digs (s.drop (numA s)) = 0 then 0 else numD s (numC s (numB s))
set_option maxRecDepth 10000 in
set_option maxHeartbeats 1000000 in
theorem numberR_ch (h : Heap) (s : List UInt8) (hs : s.length < 4611686018427387000) : CH Tryz.prog 87 #[.string (strOf s)] h fun v h' => v = I64 (numO s) ∧ h' = h := by
  refine CH.of_body Tryz.func87 rfl rfl rfl ?_
  intro f hf
  have p0 : f 0 = .string (strOf s) := by rw [hf]; exact fr0_at rfl
  -- region 0
  repeat refine HW.seq ?_
  refine HW.region ?_
  refine HL.still (Runs.assign rfl) ?_
  intro u2 e2
  refine HL.nil ?_
  -- region 1
  repeat refine HW.seq ?_
  refine HW.region ?_
  refine HL.still (Runs.assign rfl) ?_
  intro u3 e3
  refine HL.nil ?_
  have hA : numA s ≤ 1 := by unfold numA; split <;> omega
  refine HW.seq ?_
  refine HW.mono (N := fun f u => f 0 = .string (strOf s) ∧ f 3 = I64 (numA s) ∧ h = u) ?_ ?_ (fun _ _ _ q => q) (fun _ _ q => q)
  · repeat refine HW.seq ?_
    by_cases hne : s = []
    · skip
      -- region 2
      repeat refine HW.seq ?_
      refine HW.region ?_
      refine HL.still (Runs.move p0) ?_
      intro u6 e6
      refine HL.still (Runs.neqS e6 rfl (t := false) (by rw [hne]; rfl)) ?_
      intro u7 e7
      refine HL.still (Runs.move e7) ?_
      intro u8 e8
      refine HL.skipG rfl rfl e8 ?_
      intro u9 e9
      refine HL.skipG rfl rfl e8 ?_
      intro u10 e10
      refine HL.skipG rfl rfl e8 ?_
      intro u11 e11
      refine HL.still (Runs.pick e8 rfl) ?_
      intro u12 e12
      refine HL.nil ?_
      refine HW.no e12 ?_
      refine HW.skip ?_
      exact ⟨p0, by rw [hne]; exact e3, rfl⟩
    · have hpos : 0 < s.length := List.length_pos_iff.2 hne
      have hget := at8_get hpos
      by_cases h45 : at8 s 0 = 45
      · skip
        -- region 2
        repeat refine HW.seq ?_
        refine HW.region ?_
        refine HL.still (Runs.move p0) ?_
        intro u6 e6
        refine HL.still (Runs.neqS e6 rfl (t := true) (by cases s with | nil => exact absurd rfl hne | cons _ _ => rfl)) ?_
        intro u7 e7
        refine HL.still (Runs.move e7) ?_
        intro u8 e8
        refine HL.stillG rfl rfl e8 (Runs.move p0) ?_
        intro u9 e9
        refine HL.stillG rfl rfl e8 (Runs.ixS Tryz.underlying9 e9 rfl (j := 0) rfl hget) ?_
        intro u10 e10
        refine HL.stillG rfl rfl e8 (Runs.eql e10 rfl (t := true) (by simpa [at8] using h45)) ?_
        intro u11 e11
        refine HL.still (Runs.pick e8 e11) ?_
        intro u12 e12
        refine HL.nil ?_
        refine HW.yes e12 ?_
        -- region 3
        repeat refine HW.seq ?_
        refine HW.region ?_
        refine HL.still (Runs.assign rfl) ?_
        intro u3 e3
        refine HL.nil ?_
        exact ⟨p0, by unfold numA; rw [if_pos h45]; exact e3, rfl⟩
      · skip
        -- region 2
        repeat refine HW.seq ?_
        refine HW.region ?_
        refine HL.still (Runs.move p0) ?_
        intro u6 e6
        refine HL.still (Runs.neqS e6 rfl (t := true) (by cases s with | nil => exact absurd rfl hne | cons _ _ => rfl)) ?_
        intro u7 e7
        refine HL.still (Runs.move e7) ?_
        intro u8 e8
        refine HL.stillG rfl rfl e8 (Runs.move p0) ?_
        intro u9 e9
        refine HL.stillG rfl rfl e8 (Runs.ixS Tryz.underlying9 e9 rfl (j := 0) rfl hget) ?_
        intro u10 e10
        refine HL.stillG rfl rfl e8 (Runs.eql e10 rfl (t := false) (by simpa [at8] using h45)) ?_
        intro u11 e11
        refine HL.still (Runs.pick e8 e11) ?_
        intro u12 e12
        refine HL.nil ?_
        refine HW.no e12 ?_
        refine HW.skip ?_
        exact ⟨p0, by unfold numA; rw [if_neg h45]; exact e3, rfl⟩
  clear e2 e3 p0
  rintro f u ⟨p0, f3, rfl⟩
  have hdA := digs_le s (numA s)
  -- region 4
  repeat refine HW.seq ?_
  refine HW.region ?_
  refine HL.still (Runs.move p0) ?_
  intro u13 e13
  refine HL.still (Runs.move f3) ?_
  intro u14 e14
  refine HL.one (HO.call Tryz.func93 bd93 nm93 (args2 e13 e14) rfl ((digitsR_ch _ s (numA s) (by omega) (by omega)).mono ?_))
  rintro _ h15 ⟨rfl, rfl⟩
  intro u15 e15
  refine HL.still (Runs.assign e15) ?_
  intro u4 e4
  refine HL.nil ?_
  by_cases hz : digs (s.drop (numA s)) = 0
  · skip
    -- region 5
    repeat refine HW.seq ?_
    refine HW.region ?_
    refine HL.still (Runs.move e4) ?_
    intro u16 e16
    refine HL.still (Runs.eql e16 rfl (t := true) (by simp [hz])) ?_
    intro u17 e17
    refine HL.nil ?_
    refine HW.yes e17 ?_
    -- region 6
    repeat refine HW.seq ?_
    refine HW.region ?_
    refine HL.still (Runs.assign rfl) ?_
    intro u2 e2
    refine HL.nil ?_
    refine HW.ret ?_
    exact RT.one rfl e2 ⟨by unfold numO; rw [if_pos hz]; rfl, rfl⟩
  -- region 5
  repeat refine HW.seq ?_
  refine HW.region ?_
  refine HL.still (Runs.move e4) ?_
  intro u16 e16
  refine HL.still (Runs.eql e16 rfl (t := false) (by simp; omega)) ?_
  intro u17 e17
  refine HL.nil ?_
  refine HW.no e17 ?_
  refine HW.skip ?_
  have hAl : numA s < s.length := by omega
  have hnum : numO s = numD s (numC s (numB s)) := by unfold numO; rw [if_neg hz]
  refine HW.seq ?_
  refine HW.mono (N := fun f v => f 0 = .string (strOf s) ∧ f 3 = I64 (numA s) ∧ f 4 = I64 ((if at8 s (numA s) = 48 then 1 else digs (s.drop (numA s)) : Nat) : Int) ∧ h15 = v) ?_ ?_ (fun _ _ _ q => q) (fun _ _ q => q)
  · repeat refine HW.seq ?_
    have hget := at8_get hAl
    by_cases h48 : at8 s (numA s) = 48
    · skip
      -- region 7
      repeat refine HW.seq ?_
      refine HW.region ?_
      refine HL.still (Runs.move p0) ?_
      intro u18 e18
      refine HL.still (Runs.move f3) ?_
      intro u19 e19
      refine HL.still (Runs.ixS Tryz.underlying9 e18 e19 rfl hget) ?_
      intro u20 e20
      refine HL.still (Runs.eql e20 rfl (t := true) (by simpa [at8] using h48)) ?_
      intro u21 e21
      refine HL.nil ?_
      refine HW.yes e21 ?_
      -- region 8
      repeat refine HW.seq ?_
      refine HW.region ?_
      refine HL.still (Runs.assign rfl) ?_
      intro u4 e4
      refine HL.nil ?_
      exact ⟨p0, f3, by rw [if_pos h48]; exact e4, rfl⟩
    · skip
      -- region 7
      repeat refine HW.seq ?_
      refine HW.region ?_
      refine HL.still (Runs.move p0) ?_
      intro u18 e18
      refine HL.still (Runs.move f3) ?_
      intro u19 e19
      refine HL.still (Runs.ixS Tryz.underlying9 e18 e19 rfl hget) ?_
      intro u20 e20
      refine HL.still (Runs.eql e20 rfl (t := false) (by simpa [at8] using h48)) ?_
      intro u21 e21
      refine HL.nil ?_
      refine HW.no e21 ?_
      refine HW.skip ?_
      exact ⟨p0, f3, by rw [if_neg h48]; exact e4, rfl⟩
  clear e4 e17 p0 f3
  rintro f v ⟨p0, f3, f4, rfl⟩
  have hBl : numB s ≤ s.length := by unfold numB; split <;> omega
  -- region 9
  repeat refine HW.seq ?_
  refine HW.region ?_
  refine HL.still (Runs.move f3) ?_
  intro u22 e22
  refine HL.still (Runs.move f4) ?_
  intro u23 e23
  refine HL.still (Runs.add e22 e23 (i64w (by split <;> omega))) ?_
  intro u24 e24
  refine HL.still (Runs.assign e24) ?_
  intro u3 e3
  refine HL.nil ?_
  have g3 : u3 = I64 (numB s) := e3.trans (congrArg (Value.int .i64) (by unfold numB; omega))
  clear e3 f3 f4
  obtain ⟨K, hKd⟩ : ∃ K, K = numB s := ⟨_, rfl⟩
  rw [← hKd] at g3 hBl hnum
  have hdK := digs_le s (K + 1)
  refine HW.seq ?_
  refine HW.mono (N := fun f v => f 0 = .string (strOf s) ∧ f 3 = I64 (numC s K) ∧ h15 = v) ?_ ?_ (fun _ _ _ q => q) (fun _ _ q => q)
  · repeat refine HW.seq ?_
    by_cases hK : K < s.length
    · have hget := at8_get hK
      by_cases h46 : at8 s K = 46
      · by_cases hd : digs (s.drop (K + 1)) > 0
        · skip
          -- region 10
          repeat refine HW.seq ?_
          refine HW.region ?_
          refine HL.still (Runs.move g3) ?_
          intro u25 e25
          refine HL.still (Runs.move p0) ?_
          intro u26 e26
          refine HL.still (Runs.lenS rfl Tryz.underlying9 e26) ?_
          intro u27 e27
          refine HL.still (Runs.lss e25 e27 (t := true) (decide_eq_true (by omega))) ?_
          intro u28 e28
          refine HL.still (Runs.move e28) ?_
          intro u29 e29
          refine HL.stillG rfl rfl e29 (Runs.move p0) ?_
          intro u30 e30
          refine HL.stillG rfl rfl e29 (Runs.move g3) ?_
          intro u31 e31
          refine HL.stillG rfl rfl e29 (Runs.ixS Tryz.underlying9 e30 e31 rfl hget) ?_
          intro u32 e32
          refine HL.stillG rfl rfl e29 (Runs.eql e32 rfl (t := true) (by simpa [at8] using h46)) ?_
          intro u33 e33
          refine HL.still (Runs.pick e29 e33) ?_
          intro u34 e34
          refine HL.still (Runs.move e34) ?_
          intro u35 e35
          refine HL.stillG rfl rfl e35 (Runs.move p0) ?_
          intro u36 e36
          refine HL.stillG rfl rfl e35 (Runs.move g3) ?_
          intro u37 e37
          refine HL.stillG rfl rfl e35 (Runs.add e37 rfl (i64w (by omega))) ?_
          intro u38 e38
          refine HL.oneG rfl rfl e35 (HO.call Tryz.func93 bd93 nm93 (args2 e36 e38) rfl ((digitsR_ch _ s (K + 1) (by omega) (by omega)).mono ?_))
          rintro _ h39 ⟨rfl, rfl⟩
          intro u39 e39
          refine HL.stillG rfl rfl e35 (Runs.gtr e39 rfl (t := true) (decide_eq_true (by omega))) ?_
          intro u40 e40
          refine HL.still (Runs.pick e35 e40) ?_
          intro u41 e41
          refine HL.nil ?_
          refine HW.yes e41 ?_
          -- region 11
          repeat refine HW.seq ?_
          refine HW.region ?_
          refine HL.still (Runs.move g3) ?_
          intro u42 e42
          refine HL.still (Runs.add e42 rfl (i64w (by omega))) ?_
          intro u43 e43
          refine HL.still (Runs.move p0) ?_
          intro u44 e44
          refine HL.still (Runs.move g3) ?_
          intro u45 e45
          refine HL.still (Runs.add e45 rfl (i64w (by omega))) ?_
          intro u46 e46
          refine HL.one (HO.call Tryz.func93 bd93 nm93 (args2 e44 e46) rfl ((digitsR_ch _ s (K + 1) (by omega) (by omega)).mono ?_))
          rintro _ h47 ⟨rfl, rfl⟩
          intro u47 e47
          refine HL.still (Runs.add e43 e47 (i64w (by omega))) ?_
          intro u48 e48
          refine HL.still (Runs.assign e48) ?_
          intro u3 e3
          refine HL.nil ?_
          exact ⟨p0, by unfold numC; rw [if_pos ⟨h46, hd⟩]; exact e3, rfl⟩
        · skip
          -- region 10
          repeat refine HW.seq ?_
          refine HW.region ?_
          refine HL.still (Runs.move g3) ?_
          intro u25 e25
          refine HL.still (Runs.move p0) ?_
          intro u26 e26
          refine HL.still (Runs.lenS rfl Tryz.underlying9 e26) ?_
          intro u27 e27
          refine HL.still (Runs.lss e25 e27 (t := true) (decide_eq_true (by omega))) ?_
          intro u28 e28
          refine HL.still (Runs.move e28) ?_
          intro u29 e29
          refine HL.stillG rfl rfl e29 (Runs.move p0) ?_
          intro u30 e30
          refine HL.stillG rfl rfl e29 (Runs.move g3) ?_
          intro u31 e31
          refine HL.stillG rfl rfl e29 (Runs.ixS Tryz.underlying9 e30 e31 rfl hget) ?_
          intro u32 e32
          refine HL.stillG rfl rfl e29 (Runs.eql e32 rfl (t := true) (by simpa [at8] using h46)) ?_
          intro u33 e33
          refine HL.still (Runs.pick e29 e33) ?_
          intro u34 e34
          refine HL.still (Runs.move e34) ?_
          intro u35 e35
          refine HL.stillG rfl rfl e35 (Runs.move p0) ?_
          intro u36 e36
          refine HL.stillG rfl rfl e35 (Runs.move g3) ?_
          intro u37 e37
          refine HL.stillG rfl rfl e35 (Runs.add e37 rfl (i64w (by omega))) ?_
          intro u38 e38
          refine HL.oneG rfl rfl e35 (HO.call Tryz.func93 bd93 nm93 (args2 e36 e38) rfl ((digitsR_ch _ s (K + 1) (by omega) (by omega)).mono ?_))
          rintro _ h39 ⟨rfl, rfl⟩
          intro u39 e39
          refine HL.stillG rfl rfl e35 (Runs.gtr e39 rfl (t := false) (decide_eq_false (by omega))) ?_
          intro u40 e40
          refine HL.still (Runs.pick e35 e40) ?_
          intro u41 e41
          refine HL.nil ?_
          refine HW.no e41 ?_
          refine HW.skip ?_
          exact ⟨p0, by unfold numC; rw [if_neg (fun q => hd q.2)]; exact g3, rfl⟩
      · skip
        -- region 10
        repeat refine HW.seq ?_
        refine HW.region ?_
        refine HL.still (Runs.move g3) ?_
        intro u25 e25
        refine HL.still (Runs.move p0) ?_
        intro u26 e26
        refine HL.still (Runs.lenS rfl Tryz.underlying9 e26) ?_
        intro u27 e27
        refine HL.still (Runs.lss e25 e27 (t := true) (decide_eq_true (by omega))) ?_
        intro u28 e28
        refine HL.still (Runs.move e28) ?_
        intro u29 e29
        refine HL.stillG rfl rfl e29 (Runs.move p0) ?_
        intro u30 e30
        refine HL.stillG rfl rfl e29 (Runs.move g3) ?_
        intro u31 e31
        refine HL.stillG rfl rfl e29 (Runs.ixS Tryz.underlying9 e30 e31 rfl hget) ?_
        intro u32 e32
        refine HL.stillG rfl rfl e29 (Runs.eql e32 rfl (t := false) (by simpa [at8] using h46)) ?_
        intro u33 e33
        refine HL.still (Runs.pick e29 e33) ?_
        intro u34 e34
        refine HL.still (Runs.move e34) ?_
        intro u35 e35
        refine HL.skipG rfl rfl e35 ?_
        intro u36 e36
        refine HL.skipG rfl rfl e35 ?_
        intro u37 e37
        refine HL.skipG rfl rfl e35 ?_
        intro u38 e38
        refine HL.skipG rfl rfl e35 ?_
        intro u39 e39
        refine HL.skipG rfl rfl e35 ?_
        intro u40 e40
        refine HL.still (Runs.pick e35 rfl) ?_
        intro u41 e41
        refine HL.nil ?_
        refine HW.no e41 ?_
        refine HW.skip ?_
        exact ⟨p0, by unfold numC; rw [if_neg (fun q => h46 q.1)]; exact g3, rfl⟩
    · have h46 : ¬ at8 s K = 46 := by rw [at8_end (by omega)]; decide
      -- region 10
      repeat refine HW.seq ?_
      refine HW.region ?_
      refine HL.still (Runs.move g3) ?_
      intro u25 e25
      refine HL.still (Runs.move p0) ?_
      intro u26 e26
      refine HL.still (Runs.lenS rfl Tryz.underlying9 e26) ?_
      intro u27 e27
      refine HL.still (Runs.lss e25 e27 (t := false) (decide_eq_false (by omega))) ?_
      intro u28 e28
      refine HL.still (Runs.move e28) ?_
      intro u29 e29
      refine HL.skipG rfl rfl e29 ?_
      intro u30 e30
      refine HL.skipG rfl rfl e29 ?_
      intro u31 e31
      refine HL.skipG rfl rfl e29 ?_
      intro u32 e32
      refine HL.skipG rfl rfl e29 ?_
      intro u33 e33
      refine HL.still (Runs.pick e29 rfl) ?_
      intro u34 e34
      refine HL.still (Runs.move e34) ?_
      intro u35 e35
      refine HL.skipG rfl rfl e35 ?_
      intro u36 e36
      refine HL.skipG rfl rfl e35 ?_
      intro u37 e37
      refine HL.skipG rfl rfl e35 ?_
      intro u38 e38
      refine HL.skipG rfl rfl e35 ?_
      intro u39 e39
      refine HL.skipG rfl rfl e35 ?_
      intro u40 e40
      refine HL.still (Runs.pick e35 rfl) ?_
      intro u41 e41
      refine HL.nil ?_
      refine HW.no e41 ?_
      refine HW.skip ?_
      exact ⟨p0, by unfold numC; rw [if_neg (fun q => h46 q.1)]; exact g3, rfl⟩
  have hCl : numC s K ≤ s.length := by unfold numC; split <;> omega
  clear p0 g3
  rintro f v ⟨p0, g3, rfl⟩
  obtain ⟨J, hJ⟩ : ∃ J, J = numC s K := ⟨_, rfl⟩
  rw [← hJ] at g3 hCl hnum
  refine HW.seq ?_
  refine HW.mono (N := fun f v => f 3 = I64 (numD s J) ∧ h15 = v) ?_ ?_ (fun _ _ _ q => q) (fun _ _ q => q)
  · repeat refine HW.seq ?_
    have hMl : numM s (J + 1) ≤ J + 2 := by unfold numM; split <;> omega
    have hdM := digs_le s (numM s (J + 1))
    by_cases hK : J < s.length
    · have hget := at8_get hK
      by_cases ha : at8 s J = 101
      · skip
        -- region 12
        repeat refine HW.seq ?_
        refine HW.region ?_
        refine HL.still (Runs.move g3) ?_
        intro u49 e49
        refine HL.still (Runs.move p0) ?_
        intro u50 e50
        refine HL.still (Runs.lenS rfl Tryz.underlying9 e50) ?_
        intro u51 e51
        refine HL.still (Runs.lss e49 e51 (t := true) (decide_eq_true (by omega))) ?_
        intro u52 e52
        refine HL.still (Runs.move e52) ?_
        intro u53 e53
        refine HL.stillG rfl rfl e53 (Runs.move p0) ?_
        intro u54 e54
        refine HL.stillG rfl rfl e53 (Runs.move g3) ?_
        intro u55 e55
        refine HL.stillG rfl rfl e53 (Runs.ixS Tryz.underlying9 e54 e55 rfl hget) ?_
        intro u56 e56
        refine HL.stillG rfl rfl e53 (Runs.eql e56 rfl (t := true) (by simpa [at8] using ha)) ?_
        intro u57 e57
        refine HL.stillG rfl rfl e53 (Runs.move e57) ?_
        intro u58 e58
        refine HL.skipG rfl rfl e58 ?_
        intro u59 e59
        refine HL.skipG rfl rfl e58 ?_
        intro u60 e60
        refine HL.skipG rfl rfl e58 ?_
        intro u61 e61
        refine HL.skipG rfl rfl e58 ?_
        intro u62 e62
        refine HL.stillG rfl rfl e53 (Runs.pick e58 rfl) ?_
        intro u63 e63
        refine HL.still (Runs.pick e53 e63) ?_
        intro u64 e64
        refine HL.nil ?_
        refine HW.yes e64 ?_
        repeat refine HW.seq ?_
        -- region 13
        repeat refine HW.seq ?_
        refine HW.region ?_
        refine HL.still (Runs.move g3) ?_
        intro u65 e65
        refine HL.still (Runs.add e65 rfl (i64w (by omega))) ?_
        intro u66 e66
        refine HL.still (Runs.assign e66) ?_
        intro u5 e5
        refine HL.nil ?_
        have g5 : u5 = I64 ((J + 1 : Nat) : Int) := e5
        clear e5
        refine HW.seq ?_
        refine HW.mono (N := fun f v => f 0 = .string (strOf s) ∧ f 3 = I64 J ∧ f 5 = I64 (numM s (J + 1)) ∧ h15 = v) ?_ ?_ (fun _ _ _ q => q) (fun _ _ q => q)
        · repeat refine HW.seq ?_
          clear hget hK
          by_cases hK2 : (J + 1) < s.length
          · have hget2 := at8_get hK2
            by_cases ha2 : at8 s (J + 1) = 43
            · skip
              -- region 14
              repeat refine HW.seq ?_
              refine HW.region ?_
              refine HL.still (Runs.move g5) ?_
              intro u67 e67
              refine HL.still (Runs.move p0) ?_
              intro u68 e68
              refine HL.still (Runs.lenS rfl Tryz.underlying9 e68) ?_
              intro u69 e69
              refine HL.still (Runs.lss e67 e69 (t := true) (decide_eq_true (by omega))) ?_
              intro u70 e70
              refine HL.still (Runs.move e70) ?_
              intro u71 e71
              refine HL.stillG rfl rfl e71 (Runs.move p0) ?_
              intro u72 e72
              refine HL.stillG rfl rfl e71 (Runs.move g5) ?_
              intro u73 e73
              refine HL.stillG rfl rfl e71 (Runs.ixS Tryz.underlying9 e72 e73 rfl hget2) ?_
              intro u74 e74
              refine HL.stillG rfl rfl e71 (Runs.eql e74 rfl (t := true) (by simpa [at8] using ha2)) ?_
              intro u75 e75
              refine HL.stillG rfl rfl e71 (Runs.move e75) ?_
              intro u76 e76
              refine HL.skipG rfl rfl e76 ?_
              intro u77 e77
              refine HL.skipG rfl rfl e76 ?_
              intro u78 e78
              refine HL.skipG rfl rfl e76 ?_
              intro u79 e79
              refine HL.skipG rfl rfl e76 ?_
              intro u80 e80
              refine HL.stillG rfl rfl e71 (Runs.pick e76 rfl) ?_
              intro u81 e81
              refine HL.still (Runs.pick e71 e81) ?_
              intro u82 e82
              refine HL.nil ?_
              refine HW.yes e82 ?_
              -- region 15
              repeat refine HW.seq ?_
              refine HW.region ?_
              refine HL.still (Runs.move g5) ?_
              intro u83 e83
              refine HL.still (Runs.add e83 rfl (i64w (by omega))) ?_
              intro u84 e84
              refine HL.still (Runs.assign e84) ?_
              intro u5 e5
              refine HL.nil ?_
              exact ⟨p0, g3, by unfold numM; rw [if_pos (.inl ha2)]; exact e5, rfl⟩
            · by_cases hb2 : at8 s (J + 1) = 45
              · skip
                -- region 14
                repeat refine HW.seq ?_
                refine HW.region ?_
                refine HL.still (Runs.move g5) ?_
                intro u67 e67
                refine HL.still (Runs.move p0) ?_
                intro u68 e68
                refine HL.still (Runs.lenS rfl Tryz.underlying9 e68) ?_
                intro u69 e69
                refine HL.still (Runs.lss e67 e69 (t := true) (decide_eq_true (by omega))) ?_
                intro u70 e70
                refine HL.still (Runs.move e70) ?_
                intro u71 e71
                refine HL.stillG rfl rfl e71 (Runs.move p0) ?_
                intro u72 e72
                refine HL.stillG rfl rfl e71 (Runs.move g5) ?_
                intro u73 e73
                refine HL.stillG rfl rfl e71 (Runs.ixS Tryz.underlying9 e72 e73 rfl hget2) ?_
                intro u74 e74
                refine HL.stillG rfl rfl e71 (Runs.eql e74 rfl (t := false) (by simpa [at8] using ha2)) ?_
                intro u75 e75
                refine HL.stillG rfl rfl e71 (Runs.move e75) ?_
                intro u76 e76
                refine HL.stillG rfl rfl e76 (Runs.move p0) ?_
                intro u77 e77
                refine HL.stillG rfl rfl e76 (Runs.move g5) ?_
                intro u78 e78
                refine HL.stillG rfl rfl e76 (Runs.ixS Tryz.underlying9 e77 e78 rfl hget2) ?_
                intro u79 e79
                refine HL.stillG rfl rfl e76 (Runs.eql e79 rfl (t := true) (by simpa [at8] using hb2)) ?_
                intro u80 e80
                refine HL.stillG rfl rfl e71 (Runs.pick e76 e80) ?_
                intro u81 e81
                refine HL.still (Runs.pick e71 e81) ?_
                intro u82 e82
                refine HL.nil ?_
                refine HW.yes e82 ?_
                -- region 15
                repeat refine HW.seq ?_
                refine HW.region ?_
                refine HL.still (Runs.move g5) ?_
                intro u83 e83
                refine HL.still (Runs.add e83 rfl (i64w (by omega))) ?_
                intro u84 e84
                refine HL.still (Runs.assign e84) ?_
                intro u5 e5
                refine HL.nil ?_
                exact ⟨p0, g3, by unfold numM; rw [if_pos (.inr hb2)]; exact e5, rfl⟩
              · skip
                -- region 14
                repeat refine HW.seq ?_
                refine HW.region ?_
                refine HL.still (Runs.move g5) ?_
                intro u67 e67
                refine HL.still (Runs.move p0) ?_
                intro u68 e68
                refine HL.still (Runs.lenS rfl Tryz.underlying9 e68) ?_
                intro u69 e69
                refine HL.still (Runs.lss e67 e69 (t := true) (decide_eq_true (by omega))) ?_
                intro u70 e70
                refine HL.still (Runs.move e70) ?_
                intro u71 e71
                refine HL.stillG rfl rfl e71 (Runs.move p0) ?_
                intro u72 e72
                refine HL.stillG rfl rfl e71 (Runs.move g5) ?_
                intro u73 e73
                refine HL.stillG rfl rfl e71 (Runs.ixS Tryz.underlying9 e72 e73 rfl hget2) ?_
                intro u74 e74
                refine HL.stillG rfl rfl e71 (Runs.eql e74 rfl (t := false) (by simpa [at8] using ha2)) ?_
                intro u75 e75
                refine HL.stillG rfl rfl e71 (Runs.move e75) ?_
                intro u76 e76
                refine HL.stillG rfl rfl e76 (Runs.move p0) ?_
                intro u77 e77
                refine HL.stillG rfl rfl e76 (Runs.move g5) ?_
                intro u78 e78
                refine HL.stillG rfl rfl e76 (Runs.ixS Tryz.underlying9 e77 e78 rfl hget2) ?_
                intro u79 e79
                refine HL.stillG rfl rfl e76 (Runs.eql e79 rfl (t := false) (by simpa [at8] using hb2)) ?_
                intro u80 e80
                refine HL.stillG rfl rfl e71 (Runs.pick e76 e80) ?_
                intro u81 e81
                refine HL.still (Runs.pick e71 e81) ?_
                intro u82 e82
                refine HL.nil ?_
                refine HW.no e82 ?_
                refine HW.skip ?_
                exact ⟨p0, g3, by unfold numM; rw [if_neg (fun q => q.elim ha2 hb2)]; exact g5, rfl⟩
          · have h0 := at8_end (s := s) (k := (J + 1)) (by omega)
            have ha2 : ¬ at8 s (J + 1) = 43 := by rw [h0]; decide
            have hb2 : ¬ at8 s (J + 1) = 45 := by rw [h0]; decide
            -- region 14
            repeat refine HW.seq ?_
            refine HW.region ?_
            refine HL.still (Runs.move g5) ?_
            intro u67 e67
            refine HL.still (Runs.move p0) ?_
            intro u68 e68
            refine HL.still (Runs.lenS rfl Tryz.underlying9 e68) ?_
            intro u69 e69
            refine HL.still (Runs.lss e67 e69 (t := false) (decide_eq_false (by omega))) ?_
            intro u70 e70
            refine HL.still (Runs.move e70) ?_
            intro u71 e71
            refine HL.skipG rfl rfl e71 ?_
            intro u72 e72
            refine HL.skipG rfl rfl e71 ?_
            intro u73 e73
            refine HL.skipG rfl rfl e71 ?_
            intro u74 e74
            refine HL.skipG rfl rfl e71 ?_
            intro u75 e75
            refine HL.skipG rfl rfl e71 ?_
            intro u76 e76
            refine HL.skipU rfl rfl e76 ?_
            intro u77 e77
            refine HL.skipU rfl rfl e76 ?_
            intro u78 e78
            refine HL.skipU rfl rfl e76 ?_
            intro u79 e79
            refine HL.skipU rfl rfl e76 ?_
            intro u80 e80
            refine HL.skipG rfl rfl e71 ?_
            intro u81 e81
            refine HL.still (Runs.pick e71 rfl) ?_
            intro u82 e82
            refine HL.nil ?_
            refine HW.no e82 ?_
            refine HW.skip ?_
            exact ⟨p0, g3, by unfold numM; rw [if_neg (fun q => q.elim ha2 hb2)]; exact g5, rfl⟩
        clear p0 g3 g5
        rintro f v ⟨p0, g3, g5, rfl⟩
        -- region 16
        repeat refine HW.seq ?_
        refine HW.region ?_
        refine HL.still (Runs.move p0) ?_
        intro u85 e85
        refine HL.still (Runs.move g5) ?_
        intro u86 e86
        refine HL.one (HO.call Tryz.func93 bd93 nm93 (args2 e85 e86) rfl ((digitsR_ch _ s (numM s (J + 1)) (by omega) (by omega)).mono ?_))
        rintro _ h87 ⟨rfl, rfl⟩
        intro u87 e87
        refine HL.still (Runs.gtr e87 rfl (t := decide (digs (s.drop (numM s (J + 1))) > 0)) (decide_eq_decide.2 (by omega))) ?_
        intro u88 e88
        refine HL.nil ?_
        by_cases hd : digs (s.drop (numM s (J + 1))) > 0
        · refine HW.yes (e88.trans (congrArg Value.bool (decide_eq_true hd))) ?_
          -- region 17
          repeat refine HW.seq ?_
          refine HW.region ?_
          refine HL.still (Runs.move g5) ?_
          intro u89 e89
          refine HL.still (Runs.move p0) ?_
          intro u90 e90
          refine HL.still (Runs.move g5) ?_
          intro u91 e91
          refine HL.one (HO.call Tryz.func93 bd93 nm93 (args2 e90 e91) rfl ((digitsR_ch _ s (numM s (J + 1)) (by omega) (by omega)).mono ?_))
          rintro _ h92 ⟨rfl, rfl⟩
          intro u92 e92
          refine HL.still (Runs.add e89 e92 (i64w (by omega))) ?_
          intro u93 e93
          refine HL.still (Runs.assign e93) ?_
          intro u3 e3
          refine HL.nil ?_
          exact ⟨by unfold numD; rw [if_pos ⟨.inl ha, hd⟩]; exact e3, rfl⟩
        · refine HW.no (e88.trans (congrArg Value.bool (decide_eq_false hd))) ?_
          refine HW.skip ?_
          exact ⟨by unfold numD; rw [if_neg (fun q => hd q.2)]; exact g3, rfl⟩
      · by_cases hb : at8 s J = 69
        · skip
          -- region 12
          repeat refine HW.seq ?_
          refine HW.region ?_
          refine HL.still (Runs.move g3) ?_
          intro u49 e49
          refine HL.still (Runs.move p0) ?_
          intro u50 e50
          refine HL.still (Runs.lenS rfl Tryz.underlying9 e50) ?_
          intro u51 e51
          refine HL.still (Runs.lss e49 e51 (t := true) (decide_eq_true (by omega))) ?_
          intro u52 e52
          refine HL.still (Runs.move e52) ?_
          intro u53 e53
          refine HL.stillG rfl rfl e53 (Runs.move p0) ?_
          intro u54 e54
          refine HL.stillG rfl rfl e53 (Runs.move g3) ?_
          intro u55 e55
          refine HL.stillG rfl rfl e53 (Runs.ixS Tryz.underlying9 e54 e55 rfl hget) ?_
          intro u56 e56
          refine HL.stillG rfl rfl e53 (Runs.eql e56 rfl (t := false) (by simpa [at8] using ha)) ?_
          intro u57 e57
          refine HL.stillG rfl rfl e53 (Runs.move e57) ?_
          intro u58 e58
          refine HL.stillG rfl rfl e58 (Runs.move p0) ?_
          intro u59 e59
          refine HL.stillG rfl rfl e58 (Runs.move g3) ?_
          intro u60 e60
          refine HL.stillG rfl rfl e58 (Runs.ixS Tryz.underlying9 e59 e60 rfl hget) ?_
          intro u61 e61
          refine HL.stillG rfl rfl e58 (Runs.eql e61 rfl (t := true) (by simpa [at8] using hb)) ?_
          intro u62 e62
          refine HL.stillG rfl rfl e53 (Runs.pick e58 e62) ?_
          intro u63 e63
          refine HL.still (Runs.pick e53 e63) ?_
          intro u64 e64
          refine HL.nil ?_
          refine HW.yes e64 ?_
          repeat refine HW.seq ?_
          -- region 13
          repeat refine HW.seq ?_
          refine HW.region ?_
          refine HL.still (Runs.move g3) ?_
          intro u65 e65
          refine HL.still (Runs.add e65 rfl (i64w (by omega))) ?_
          intro u66 e66
          refine HL.still (Runs.assign e66) ?_
          intro u5 e5
          refine HL.nil ?_
          have g5 : u5 = I64 ((J + 1 : Nat) : Int) := e5
          clear e5
          refine HW.seq ?_
          refine HW.mono (N := fun f v => f 0 = .string (strOf s) ∧ f 3 = I64 J ∧ f 5 = I64 (numM s (J + 1)) ∧ h15 = v) ?_ ?_ (fun _ _ _ q => q) (fun _ _ q => q)
          · repeat refine HW.seq ?_
            clear hget hK
            by_cases hK2 : (J + 1) < s.length
            · have hget2 := at8_get hK2
              by_cases ha2 : at8 s (J + 1) = 43
              · skip
                -- region 14
                repeat refine HW.seq ?_
                refine HW.region ?_
                refine HL.still (Runs.move g5) ?_
                intro u67 e67
                refine HL.still (Runs.move p0) ?_
                intro u68 e68
                refine HL.still (Runs.lenS rfl Tryz.underlying9 e68) ?_
                intro u69 e69
                refine HL.still (Runs.lss e67 e69 (t := true) (decide_eq_true (by omega))) ?_
                intro u70 e70
                refine HL.still (Runs.move e70) ?_
                intro u71 e71
                refine HL.stillG rfl rfl e71 (Runs.move p0) ?_
                intro u72 e72
                refine HL.stillG rfl rfl e71 (Runs.move g5) ?_
                intro u73 e73
                refine HL.stillG rfl rfl e71 (Runs.ixS Tryz.underlying9 e72 e73 rfl hget2) ?_
                intro u74 e74
                refine HL.stillG rfl rfl e71 (Runs.eql e74 rfl (t := true) (by simpa [at8] using ha2)) ?_
                intro u75 e75
                refine HL.stillG rfl rfl e71 (Runs.move e75) ?_
                intro u76 e76
                refine HL.skipG rfl rfl e76 ?_
                intro u77 e77
                refine HL.skipG rfl rfl e76 ?_
                intro u78 e78
                refine HL.skipG rfl rfl e76 ?_
                intro u79 e79
                refine HL.skipG rfl rfl e76 ?_
                intro u80 e80
                refine HL.stillG rfl rfl e71 (Runs.pick e76 rfl) ?_
                intro u81 e81
                refine HL.still (Runs.pick e71 e81) ?_
                intro u82 e82
                refine HL.nil ?_
                refine HW.yes e82 ?_
                -- region 15
                repeat refine HW.seq ?_
                refine HW.region ?_
                refine HL.still (Runs.move g5) ?_
                intro u83 e83
                refine HL.still (Runs.add e83 rfl (i64w (by omega))) ?_
                intro u84 e84
                refine HL.still (Runs.assign e84) ?_
                intro u5 e5
                refine HL.nil ?_
                exact ⟨p0, g3, by unfold numM; rw [if_pos (.inl ha2)]; exact e5, rfl⟩
              · by_cases hb2 : at8 s (J + 1) = 45
                · skip
                  -- region 14
                  repeat refine HW.seq ?_
                  refine HW.region ?_
                  refine HL.still (Runs.move g5) ?_
                  intro u67 e67
                  refine HL.still (Runs.move p0) ?_
                  intro u68 e68
                  refine HL.still (Runs.lenS rfl Tryz.underlying9 e68) ?_
                  intro u69 e69
                  refine HL.still (Runs.lss e67 e69 (t := true) (decide_eq_true (by omega))) ?_
                  intro u70 e70
                  refine HL.still (Runs.move e70) ?_
                  intro u71 e71
                  refine HL.stillG rfl rfl e71 (Runs.move p0) ?_
                  intro u72 e72
                  refine HL.stillG rfl rfl e71 (Runs.move g5) ?_
                  intro u73 e73
                  refine HL.stillG rfl rfl e71 (Runs.ixS Tryz.underlying9 e72 e73 rfl hget2) ?_
                  intro u74 e74
                  refine HL.stillG rfl rfl e71 (Runs.eql e74 rfl (t := false) (by simpa [at8] using ha2)) ?_
                  intro u75 e75
                  refine HL.stillG rfl rfl e71 (Runs.move e75) ?_
                  intro u76 e76
                  refine HL.stillG rfl rfl e76 (Runs.move p0) ?_
                  intro u77 e77
                  refine HL.stillG rfl rfl e76 (Runs.move g5) ?_
                  intro u78 e78
                  refine HL.stillG rfl rfl e76 (Runs.ixS Tryz.underlying9 e77 e78 rfl hget2) ?_
                  intro u79 e79
                  refine HL.stillG rfl rfl e76 (Runs.eql e79 rfl (t := true) (by simpa [at8] using hb2)) ?_
                  intro u80 e80
                  refine HL.stillG rfl rfl e71 (Runs.pick e76 e80) ?_
                  intro u81 e81
                  refine HL.still (Runs.pick e71 e81) ?_
                  intro u82 e82
                  refine HL.nil ?_
                  refine HW.yes e82 ?_
                  -- region 15
                  repeat refine HW.seq ?_
                  refine HW.region ?_
                  refine HL.still (Runs.move g5) ?_
                  intro u83 e83
                  refine HL.still (Runs.add e83 rfl (i64w (by omega))) ?_
                  intro u84 e84
                  refine HL.still (Runs.assign e84) ?_
                  intro u5 e5
                  refine HL.nil ?_
                  exact ⟨p0, g3, by unfold numM; rw [if_pos (.inr hb2)]; exact e5, rfl⟩
                · skip
                  -- region 14
                  repeat refine HW.seq ?_
                  refine HW.region ?_
                  refine HL.still (Runs.move g5) ?_
                  intro u67 e67
                  refine HL.still (Runs.move p0) ?_
                  intro u68 e68
                  refine HL.still (Runs.lenS rfl Tryz.underlying9 e68) ?_
                  intro u69 e69
                  refine HL.still (Runs.lss e67 e69 (t := true) (decide_eq_true (by omega))) ?_
                  intro u70 e70
                  refine HL.still (Runs.move e70) ?_
                  intro u71 e71
                  refine HL.stillG rfl rfl e71 (Runs.move p0) ?_
                  intro u72 e72
                  refine HL.stillG rfl rfl e71 (Runs.move g5) ?_
                  intro u73 e73
                  refine HL.stillG rfl rfl e71 (Runs.ixS Tryz.underlying9 e72 e73 rfl hget2) ?_
                  intro u74 e74
                  refine HL.stillG rfl rfl e71 (Runs.eql e74 rfl (t := false) (by simpa [at8] using ha2)) ?_
                  intro u75 e75
                  refine HL.stillG rfl rfl e71 (Runs.move e75) ?_
                  intro u76 e76
                  refine HL.stillG rfl rfl e76 (Runs.move p0) ?_
                  intro u77 e77
                  refine HL.stillG rfl rfl e76 (Runs.move g5) ?_
                  intro u78 e78
                  refine HL.stillG rfl rfl e76 (Runs.ixS Tryz.underlying9 e77 e78 rfl hget2) ?_
                  intro u79 e79
                  refine HL.stillG rfl rfl e76 (Runs.eql e79 rfl (t := false) (by simpa [at8] using hb2)) ?_
                  intro u80 e80
                  refine HL.stillG rfl rfl e71 (Runs.pick e76 e80) ?_
                  intro u81 e81
                  refine HL.still (Runs.pick e71 e81) ?_
                  intro u82 e82
                  refine HL.nil ?_
                  refine HW.no e82 ?_
                  refine HW.skip ?_
                  exact ⟨p0, g3, by unfold numM; rw [if_neg (fun q => q.elim ha2 hb2)]; exact g5, rfl⟩
            · have h0 := at8_end (s := s) (k := (J + 1)) (by omega)
              have ha2 : ¬ at8 s (J + 1) = 43 := by rw [h0]; decide
              have hb2 : ¬ at8 s (J + 1) = 45 := by rw [h0]; decide
              -- region 14
              repeat refine HW.seq ?_
              refine HW.region ?_
              refine HL.still (Runs.move g5) ?_
              intro u67 e67
              refine HL.still (Runs.move p0) ?_
              intro u68 e68
              refine HL.still (Runs.lenS rfl Tryz.underlying9 e68) ?_
              intro u69 e69
              refine HL.still (Runs.lss e67 e69 (t := false) (decide_eq_false (by omega))) ?_
              intro u70 e70
              refine HL.still (Runs.move e70) ?_
              intro u71 e71
              refine HL.skipG rfl rfl e71 ?_
              intro u72 e72
              refine HL.skipG rfl rfl e71 ?_
              intro u73 e73
              refine HL.skipG rfl rfl e71 ?_
              intro u74 e74
              refine HL.skipG rfl rfl e71 ?_
              intro u75 e75
              refine HL.skipG rfl rfl e71 ?_
              intro u76 e76
              refine HL.skipU rfl rfl e76 ?_
              intro u77 e77
              refine HL.skipU rfl rfl e76 ?_
              intro u78 e78
              refine HL.skipU rfl rfl e76 ?_
              intro u79 e79
              refine HL.skipU rfl rfl e76 ?_
              intro u80 e80
              refine HL.skipG rfl rfl e71 ?_
              intro u81 e81
              refine HL.still (Runs.pick e71 rfl) ?_
              intro u82 e82
              refine HL.nil ?_
              refine HW.no e82 ?_
              refine HW.skip ?_
              exact ⟨p0, g3, by unfold numM; rw [if_neg (fun q => q.elim ha2 hb2)]; exact g5, rfl⟩
          clear p0 g3 g5
          rintro f v ⟨p0, g3, g5, rfl⟩
          -- region 16
          repeat refine HW.seq ?_
          refine HW.region ?_
          refine HL.still (Runs.move p0) ?_
          intro u85 e85
          refine HL.still (Runs.move g5) ?_
          intro u86 e86
          refine HL.one (HO.call Tryz.func93 bd93 nm93 (args2 e85 e86) rfl ((digitsR_ch _ s (numM s (J + 1)) (by omega) (by omega)).mono ?_))
          rintro _ h87 ⟨rfl, rfl⟩
          intro u87 e87
          refine HL.still (Runs.gtr e87 rfl (t := decide (digs (s.drop (numM s (J + 1))) > 0)) (decide_eq_decide.2 (by omega))) ?_
          intro u88 e88
          refine HL.nil ?_
          by_cases hd : digs (s.drop (numM s (J + 1))) > 0
          · refine HW.yes (e88.trans (congrArg Value.bool (decide_eq_true hd))) ?_
            -- region 17
            repeat refine HW.seq ?_
            refine HW.region ?_
            refine HL.still (Runs.move g5) ?_
            intro u89 e89
            refine HL.still (Runs.move p0) ?_
            intro u90 e90
            refine HL.still (Runs.move g5) ?_
            intro u91 e91
            refine HL.one (HO.call Tryz.func93 bd93 nm93 (args2 e90 e91) rfl ((digitsR_ch _ s (numM s (J + 1)) (by omega) (by omega)).mono ?_))
            rintro _ h92 ⟨rfl, rfl⟩
            intro u92 e92
            refine HL.still (Runs.add e89 e92 (i64w (by omega))) ?_
            intro u93 e93
            refine HL.still (Runs.assign e93) ?_
            intro u3 e3
            refine HL.nil ?_
            exact ⟨by unfold numD; rw [if_pos ⟨.inr hb, hd⟩]; exact e3, rfl⟩
          · refine HW.no (e88.trans (congrArg Value.bool (decide_eq_false hd))) ?_
            refine HW.skip ?_
            exact ⟨by unfold numD; rw [if_neg (fun q => hd q.2)]; exact g3, rfl⟩
        · skip
          -- region 12
          repeat refine HW.seq ?_
          refine HW.region ?_
          refine HL.still (Runs.move g3) ?_
          intro u49 e49
          refine HL.still (Runs.move p0) ?_
          intro u50 e50
          refine HL.still (Runs.lenS rfl Tryz.underlying9 e50) ?_
          intro u51 e51
          refine HL.still (Runs.lss e49 e51 (t := true) (decide_eq_true (by omega))) ?_
          intro u52 e52
          refine HL.still (Runs.move e52) ?_
          intro u53 e53
          refine HL.stillG rfl rfl e53 (Runs.move p0) ?_
          intro u54 e54
          refine HL.stillG rfl rfl e53 (Runs.move g3) ?_
          intro u55 e55
          refine HL.stillG rfl rfl e53 (Runs.ixS Tryz.underlying9 e54 e55 rfl hget) ?_
          intro u56 e56
          refine HL.stillG rfl rfl e53 (Runs.eql e56 rfl (t := false) (by simpa [at8] using ha)) ?_
          intro u57 e57
          refine HL.stillG rfl rfl e53 (Runs.move e57) ?_
          intro u58 e58
          refine HL.stillG rfl rfl e58 (Runs.move p0) ?_
          intro u59 e59
          refine HL.stillG rfl rfl e58 (Runs.move g3) ?_
          intro u60 e60
          refine HL.stillG rfl rfl e58 (Runs.ixS Tryz.underlying9 e59 e60 rfl hget) ?_
          intro u61 e61
          refine HL.stillG rfl rfl e58 (Runs.eql e61 rfl (t := false) (by simpa [at8] using hb)) ?_
          intro u62 e62
          refine HL.stillG rfl rfl e53 (Runs.pick e58 e62) ?_
          intro u63 e63
          refine HL.still (Runs.pick e53 e63) ?_
          intro u64 e64
          refine HL.nil ?_
          refine HW.no e64 ?_
          refine HW.skip ?_
          exact ⟨by unfold numD; rw [if_neg (fun q => q.1.elim ha hb)]; exact g3, rfl⟩
    · have h0 := at8_end (s := s) (k := J) (by omega)
      have ha : ¬ at8 s J = 101 := by rw [h0]; decide
      have hb : ¬ at8 s J = 69 := by rw [h0]; decide
      -- region 12
      repeat refine HW.seq ?_
      refine HW.region ?_
      refine HL.still (Runs.move g3) ?_
      intro u49 e49
      refine HL.still (Runs.move p0) ?_
      intro u50 e50
      refine HL.still (Runs.lenS rfl Tryz.underlying9 e50) ?_
      intro u51 e51
      refine HL.still (Runs.lss e49 e51 (t := false) (decide_eq_false (by omega))) ?_
      intro u52 e52
      refine HL.still (Runs.move e52) ?_
      intro u53 e53
      refine HL.skipG rfl rfl e53 ?_
      intro u54 e54
      refine HL.skipG rfl rfl e53 ?_
      intro u55 e55
      refine HL.skipG rfl rfl e53 ?_
      intro u56 e56
      refine HL.skipG rfl rfl e53 ?_
      intro u57 e57
      refine HL.skipG rfl rfl e53 ?_
      intro u58 e58
      refine HL.skipU rfl rfl e58 ?_
      intro u59 e59
      refine HL.skipU rfl rfl e58 ?_
      intro u60 e60
      refine HL.skipU rfl rfl e58 ?_
      intro u61 e61
      refine HL.skipU rfl rfl e58 ?_
      intro u62 e62
      refine HL.skipG rfl rfl e53 ?_
      intro u63 e63
      refine HL.still (Runs.pick e53 rfl) ?_
      intro u64 e64
      refine HL.nil ?_
      refine HW.no e64 ?_
      refine HW.skip ?_
      exact ⟨by unfold numD; rw [if_neg (fun q => q.1.elim ha hb)]; exact g3, rfl⟩
  clear p0 g3
  rintro f v ⟨g3, rfl⟩
  -- region 18
  repeat refine HW.seq ?_
  refine HW.region ?_
  refine HL.still (Runs.move g3) ?_
  intro u94 e94
  refine HL.still (Runs.assign e94) ?_
  intro u2 e2
  refine HL.nil ?_
  refine HW.ret ?_
  exact RT.one rfl e2 ⟨by rw [hnum], rfl⟩
end Go.Proofs.YtjopikfkgjbcgaaGreatDoor
/-! A character at a text's begin: onionskinref10.char; are all right: Valid. -/
namespace Go.Proofs.YtjopikfkgjbcgaaGreatDoor
set_option linter.unnecessarySimpa false
set_option linter.unusedSimpArgs false
set_option linter.unusedVariables false
open Go.RowKit
/-- What a first byte says: how many bytes, and what it gives of the number; 0: nothing. -/
def lead (c : Int) : Nat × Int := if c < 128 then (1, c) else if 192 ≤ c ∧ c < 224 then (2, c - 192) else if 224 ≤ c ∧ c < 240 then (3, c - 224) else if 240 ≤ c ∧ c < 248 then (4, c - 240) else (0, 0)
def cont (c : Int) : Bool := decide (128 ≤ c) && decide (c ≤ 191)
/-- The number of the bytes up to a place. -/
def numK (s : List UInt8) (n : Int) : Nat → Int
  | 0 => n
  | k + 1 => numK s n k * 64 + at8 s (k + 1) - 128
def leastO (z : Nat) : Int := if z = 2 then 128 else if z = 3 then 2048 else if z = 4 then 65536 else 0
/-- How many bytes the character has with which bytes begin; 0: none. -/
def sizeO (s : List UInt8) : Nat :=
  let z := (lead (at8 s 0)).1
  let n := numK s (lead (at8 s 0)).2 (z - 1)
  if z = 1 then 1 else if z = 0 then 0 else if (List.range (z - 1)).all (fun k => cont (at8 s (k + 1))) = false then 0 else
    if n < leastO z ∨ n > 1114111 ∨ (55296 ≤ n ∧ n < 57344) then 0 else z
theorem at8_range (s : List UInt8) (k : Nat) : 0 ≤ at8 s k ∧ at8 s k < 256 := by
  unfold at8
  have := (s.getD k 0).toNat_lt
  omega
theorem cont_end {s : List UInt8} {k : Nat} (h : s.length ≤ k) : cont (at8 s k) = false := by
  rw [at8_end h]; rfl
theorem lead_le (c : Int) : (lead c).1 ≤ 4 := by
  unfold lead
  split
  · simp
  · split
    · simp
    · split
      · simp
      · split <;> simp
theorem sizeO_le (s : List UInt8) : sizeO s ≤ 4 := by
  have h := lead_le (at8 s 0)
  unfold sizeO
  simp only
  generalize (lead (at8 s 0)).1 = z at *
  split
  · omega
  · split
    · omega
    · split
      · omega
      · split <;> omega
end Go.Proofs.YtjopikfkgjbcgaaGreatDoor
