/- octal.Check, onionskinref05.Check: a block's sum. -/
import Derived.Test.YtfogkggkjmkdiaaDoorWf
namespace Go.Proofs.YtfogkggkjmkdiaaDoor
set_option linter.unnecessarySimpa false
set_option linter.unusedSimpArgs false
set_option linter.unusedVariables false
open Go.RowKit
/-- The bytes that do not tell the sum, k of them gone over. -/
def cA (xs : List UInt8) : Nat → Nat
  | 0 => 0
  | k + 1 => cA xs k + (if 148 ≤ k ∧ k < 156 then 0 else (xs.getD k 0).toNat)
def cB (xs : List UInt8) : Nat → Nat
  | 0 => 0
  | k + 1 => cB xs k + (if 148 ≤ k ∧ k < 156 then 32 else (xs.getD k 0).toNat)
theorem cA_le (xs : List UInt8) (k : Nat) : cA xs k ≤ 255 * k := by
  induction k with
  | zero => exact Nat.le_refl _
  | succ k ih =>
    have := (xs.getD k 0).toNat_lt
    rw [cA]
    split <;> omega
theorem cB_le (xs : List UInt8) (k : Nat) : cB xs k ≤ 255 * k := by
  induction k with
  | zero => exact Nat.le_refl _
  | succ k ih =>
    have := (xs.getD k 0).toNat_lt
    rw [cB]
    split <;> omega
theorem cB_cA (xs : List UInt8) (k : Nat) : cB xs k = cA xs k + 32 * (min k 156 - min k 148) := by
  induction k with
  | zero => rfl
  | succ k ih =>
    rw [cB, cA, ih]
    split <;> omega
/-- A block's sum. -/
def checkO (xs : List UInt8) : Int := if xs.length = 512 then ((256 + cA xs 512 : Nat) : Int) else -1
theorem check_ch (h : Heap) (xs : List UInt8) (a : Option Addr) (cap : Nat) (hsrc : Byt h a xs) (hlen : xs.length < 4611686018427387904) : CH Tryd.prog 18 #[.slice a xs.length cap] h fun v h' => v = I64 (checkO xs) ∧ h' = h := by
  refine CH.of_body Tryd.func18 rfl rfl rfl ?_
  intro f hf
  have p0 : f 0 = .slice a xs.length cap := by rw [hf]; exact fr0_at rfl
  -- region 0
  repeat refine HW.seq ?_
  refine HW.region ?_
  refine HL.still (Runs.assign rfl) ?_
  intro u2 e2
  refine HL.nil ?_
  by_cases hl : xs.length = 512
  · obtain ⟨sb, so, ha, _⟩ := hsrc.at (k := 0) (by omega)
    have hc : ∀ k, k < xs.length → cellH h sb (so + k) = some (B8 (xs.getD k 0)) := fun k hk => by
      obtain ⟨sb', so', ha', hc'⟩ := hsrc.at hk
      rw [ha] at ha'
      cases ha'
      exact hc'
    rw [ha] at p0
    -- region 1
    repeat refine HW.seq ?_
    refine HW.region ?_
    refine HL.still (Runs.move p0) ?_
    intro u6 e6
    refine HL.still (Runs.lenSl rfl Tryd.underlying22 e6) ?_
    intro u7 e7
    refine HL.still (Runs.neq e7 rfl (t := false) (by rw [hl]; rfl)) ?_
    intro u8 e8
    refine HL.nil ?_
    repeat refine HW.seq ?_
    refine HW.no ?_ ?_
    exact e8
    refine HW.skip ?_
    -- region 3
    repeat refine HW.seq ?_
    refine HW.region ?_
    refine HL.still (Runs.assign rfl) ?_
    intro u3 e3
    refine HL.nil ?_
    -- region 4
    repeat refine HW.seq ?_
    refine HW.region ?_
    refine HL.still (Runs.move p0) ?_
    intro u9 e9
    refine HL.still (Runs.lenSl rfl Tryd.underlying22 e9) ?_
    intro u10 e10
    refine HL.still (Runs.move rfl) ?_
    intro u11 e11
    refine HL.nil ?_
    repeat refine HW.seq ?_
    refine HW.block ?_
    refine HW.loop (fun m f h' => ∃ k : Nat, k ≤ 512 ∧ m = 512 - k ∧ f 11 = I64 k ∧ f 10 = I64 xs.length ∧ f 9 = .slice (some ⟨sb, so, none⟩) xs.length cap ∧ f 3 = I64 ((256 + cA xs k : Nat) : Int) ∧ h' = h) 512
      ⟨0, Nat.zero_le _, rfl, e11, e10, e9, e3, rfl⟩ ?_
    clear e3 e9 e10 e11
    rintro m f h' ⟨k, hk, hm, f11, f10, f9, f3, rfl⟩
    by_cases hlt : k < 512
    · have hcl := (xs.getD k 0).toNat_lt
      have hle := cA_le xs k
      -- region 5
      repeat refine HW.seq ?_
      refine HW.region ?_
      refine HL.still (Runs.lss f11 f10 rfl) ?_
      intro u12 e12
      refine HL.nil ?_
      repeat refine HW.seq ?_
      refine HW.yes ?_ ?_
      exact e12.trans (congrArg Value.bool (decide_eq_true (by omega)))
      refine HW.skip ?_
      repeat refine HW.seq ?_
      refine HW.block ?_
      -- region 6
      repeat refine HW.seq ?_
      refine HW.region ?_
      refine HL.still (Runs.move f11) ?_
      intro u13 e13
      refine HL.still (Runs.ixSl (o' := so + k) Tryd.underlying22 sz5 f9 f11 (by omega) (by omega) (by omega)) ?_
      intro u14 e14
      refine HL.still (Runs.load Tryd.underlying5 rfl e14 (hc k (by omega))) ?_
      intro u15 e15
      refine HL.still (Runs.assign e13) ?_
      intro u4 e4
      refine HL.still (Runs.assign e15) ?_
      intro u5 e5
      refine HL.nil ?_
      by_cases h1 : k < 148
      · skip
        -- region 7
        repeat refine HW.seq ?_
        refine HW.region ?_
        refine HL.still (Runs.move e4) ?_
        intro u16 e16
        refine HL.still (Runs.lss e16 rfl (t := true) (decide_eq_true (by omega))) ?_
        intro u17 e17
        refine HL.still (Runs.move e17) ?_
        intro u18 e18
        refine HL.skipG rfl rfl e18 ?_
        intro u19 e19
        refine HL.skipG rfl rfl e18 ?_
        intro u20 e20
        refine HL.still (Runs.pick e18 rfl) ?_
        intro u21 e21
        refine HL.nil ?_
        repeat refine HW.seq ?_
        refine HW.yes ?_ ?_
        exact e21
        -- region 8
        repeat refine HW.seq ?_
        refine HW.region ?_
        refine HL.still (Runs.move f3) ?_
        intro u22 e22
        refine HL.still (Runs.move e5) ?_
        intro u23 e23
        refine HL.still (Runs.conv Tryd.underlying5 Tryd.underlying3 e23 (i64w (by omega))) ?_
        intro u24 e24
        refine HL.still (Runs.add e22 e24 (i64w (by omega))) ?_
        intro u25 e25
        refine HL.still (Runs.assign e25) ?_
        intro u3 e3
        refine HL.nil ?_
        -- region 9
        repeat refine HW.seq ?_
        refine HW.region ?_
        refine HL.still (Runs.add f11 rfl (i64w (by omega))) ?_
        intro u26 e26
        refine HL.still (Runs.move e26) ?_
        intro u11 e11
        refine HL.nil ?_
        exact ⟨512 - (k + 1), by omega, k + 1, by omega, rfl, e11, f10, f9, e3.trans (congrArg (Value.int .i64) (by rw [cA, if_neg (by omega)]; omega)), rfl⟩
      · by_cases h2 : k < 156
        · skip
          -- region 7
          repeat refine HW.seq ?_
          refine HW.region ?_
          refine HL.still (Runs.move e4) ?_
          intro u16 e16
          refine HL.still (Runs.lss e16 rfl (t := false) (decide_eq_false (by omega))) ?_
          intro u17 e17
          refine HL.still (Runs.move e17) ?_
          intro u18 e18
          refine HL.stillG rfl rfl e18 (Runs.move e4) ?_
          intro u19 e19
          refine HL.stillG rfl rfl e18 (Runs.geq e19 rfl (t := false) (decide_eq_false (by omega))) ?_
          intro u20 e20
          refine HL.still (Runs.pick e18 e20) ?_
          intro u21 e21
          refine HL.nil ?_
          repeat refine HW.seq ?_
          refine HW.no ?_ ?_
          exact e21
          refine HW.skip ?_
          -- region 9
          repeat refine HW.seq ?_
          refine HW.region ?_
          refine HL.still (Runs.add f11 rfl (i64w (by omega))) ?_
          intro u26 e26
          refine HL.still (Runs.move e26) ?_
          intro u11 e11
          refine HL.nil ?_
          exact ⟨512 - (k + 1), by omega, k + 1, by omega, rfl, e11, f10, f9, f3.trans (congrArg (Value.int .i64) (by rw [cA, if_pos (by omega)]; rfl)), rfl⟩
        · skip
          -- region 7
          repeat refine HW.seq ?_
          refine HW.region ?_
          refine HL.still (Runs.move e4) ?_
          intro u16 e16
          refine HL.still (Runs.lss e16 rfl (t := false) (decide_eq_false (by omega))) ?_
          intro u17 e17
          refine HL.still (Runs.move e17) ?_
          intro u18 e18
          refine HL.stillG rfl rfl e18 (Runs.move e4) ?_
          intro u19 e19
          refine HL.stillG rfl rfl e18 (Runs.geq e19 rfl (t := true) (decide_eq_true (by omega))) ?_
          intro u20 e20
          refine HL.still (Runs.pick e18 e20) ?_
          intro u21 e21
          refine HL.nil ?_
          repeat refine HW.seq ?_
          refine HW.yes ?_ ?_
          exact e21
          -- region 8
          repeat refine HW.seq ?_
          refine HW.region ?_
          refine HL.still (Runs.move f3) ?_
          intro u22 e22
          refine HL.still (Runs.move e5) ?_
          intro u23 e23
          refine HL.still (Runs.conv Tryd.underlying5 Tryd.underlying3 e23 (i64w (by omega))) ?_
          intro u24 e24
          refine HL.still (Runs.add e22 e24 (i64w (by omega))) ?_
          intro u25 e25
          refine HL.still (Runs.assign e25) ?_
          intro u3 e3
          refine HL.nil ?_
          -- region 9
          repeat refine HW.seq ?_
          refine HW.region ?_
          refine HL.still (Runs.add f11 rfl (i64w (by omega))) ?_
          intro u26 e26
          refine HL.still (Runs.move e26) ?_
          intro u11 e11
          refine HL.nil ?_
          exact ⟨512 - (k + 1), by omega, k + 1, by omega, rfl, e11, f10, f9, e3.trans (congrArg (Value.int .i64) (by rw [cA, if_neg (by omega)]; omega)), rfl⟩
    · have hk5 : k = 512 := by omega
      subst hk5
      -- region 5
      repeat refine HW.seq ?_
      refine HW.region ?_
      refine HL.still (Runs.lss f11 f10 rfl) ?_
      intro u12 e12
      refine HL.nil ?_
      repeat refine HW.seq ?_
      refine HW.no ?_ ?_
      exact e12.trans (congrArg Value.bool (decide_eq_false (by omega)))
      refine HW.exitHere ?_
      -- region 10
      repeat refine HW.seq ?_
      refine HW.region ?_
      refine HL.still (Runs.move f3) ?_
      intro u27 e27
      refine HL.still (Runs.assign e27) ?_
      intro u2 e2
      refine HL.nil ?_
      refine HW.ret ?_
      refine RT.one rfl e2 ⟨?_, rfl⟩
      unfold checkO
      rw [if_pos hl]
  · skip
    -- region 1
    repeat refine HW.seq ?_
    refine HW.region ?_
    refine HL.still (Runs.move p0) ?_
    intro u6 e6
    refine HL.still (Runs.lenSl rfl Tryd.underlying22 e6) ?_
    intro u7 e7
    refine HL.still (Runs.neq e7 rfl (t := true) (by simp; omega)) ?_
    intro u8 e8
    refine HL.nil ?_
    repeat refine HW.seq ?_
    refine HW.yes ?_ ?_
    exact e8
    -- region 2
    repeat refine HW.seq ?_
    refine HW.region ?_
    refine HL.still (Runs.assign rfl) ?_
    intro u2 e2
    refine HL.nil ?_
    refine HW.ret ?_
    refine RT.one rfl e2 ⟨?_, rfl⟩
    unfold checkO
    rw [if_neg hl]
theorem rcheck_ch (h : Heap) (xs : List UInt8) (a : Option Addr) (cap : Nat) (hsrc : Byt h a xs) (hlen : xs.length < 4611686018427387904) : CH Tryd.prog 19 #[.slice a xs.length cap] h fun v h' => v = I64 (checkO xs) ∧ h' = h := by
  refine CH.of_body Tryd.func19 rfl rfl rfl ?_
  intro f hf
  have p0 : f 0 = .slice a xs.length cap := by rw [hf]; exact fr0_at rfl
  -- region 0
  repeat refine HW.seq ?_
  refine HW.region ?_
  refine HL.still (Runs.assign rfl) ?_
  intro u2 e2
  refine HL.nil ?_
  by_cases hl : xs.length = 512
  · obtain ⟨sb, so, ha, _⟩ := hsrc.at (k := 0) (by omega)
    have hc : ∀ k, k < xs.length → cellH h sb (so + k) = some (B8 (xs.getD k 0)) := fun k hk => by
      obtain ⟨sb', so', ha', hc'⟩ := hsrc.at hk
      rw [ha] at ha'
      cases ha'
      exact hc'
    rw [ha] at p0
    -- region 1
    repeat refine HW.seq ?_
    refine HW.region ?_
    refine HL.still (Runs.move p0) ?_
    intro u5 e5
    refine HL.still (Runs.lenSl rfl Tryd.underlying22 e5) ?_
    intro u6 e6
    refine HL.still (Runs.neq e6 rfl (t := false) (by rw [hl]; rfl)) ?_
    intro u7 e7
    refine HL.nil ?_
    repeat refine HW.seq ?_
    refine HW.no ?_ ?_
    exact e7
    refine HW.skip ?_
    -- region 3
    repeat refine HW.seq ?_
    refine HW.region ?_
    refine HL.still (Runs.assign rfl) ?_
    intro u3 e3
    refine HL.nil ?_
    -- region 4
    repeat refine HW.seq ?_
    refine HW.region ?_
    refine HL.still (Runs.assign rfl) ?_
    intro u4 e4
    refine HL.nil ?_
    repeat refine HW.seq ?_
    refine HW.block ?_
    refine HW.loop (fun m f h' => ∃ k : Nat, k ≤ 512 ∧ m = 512 - k ∧ f 4 = I64 k ∧ f 0 = .slice (some ⟨sb, so, none⟩) xs.length cap ∧ f 3 = I64 ((cB xs k : Nat) : Int) ∧ h' = h) 512
      ⟨0, Nat.zero_le _, rfl, e4, p0, e3, rfl⟩ ?_
    clear e3 e4
    rintro m f h' ⟨k, hk, hm, f4, f0, f3, rfl⟩
    by_cases hlt : k < 512
    · have hcl := (xs.getD k 0).toNat_lt
      have hle := cB_le xs k
      -- region 5
      repeat refine HW.seq ?_
      refine HW.region ?_
      refine HL.still (Runs.move f4) ?_
      intro u8 e8
      refine HL.still (Runs.lss e8 rfl rfl) ?_
      intro u9 e9
      refine HL.nil ?_
      repeat refine HW.seq ?_
      refine HW.yes ?_ ?_
      exact e9.trans (congrArg Value.bool (decide_eq_true (by omega)))
      refine HW.skip ?_
      repeat refine HW.seq ?_
      refine HW.block ?_
      by_cases h1 : k < 148
      · skip
        -- region 7
        repeat refine HW.seq ?_
        refine HW.region ?_
        refine HL.still (Runs.move f4) ?_
        intro u12 e12
        refine HL.still (Runs.geq e12 rfl (t := false) (decide_eq_false (by omega))) ?_
        intro u13 e13
        refine HL.still (Runs.move e13) ?_
        intro u14 e14
        refine HL.skipG rfl rfl e14 ?_
        intro u15 e15
        refine HL.skipG rfl rfl e14 ?_
        intro u16 e16
        refine HL.still (Runs.pick e14 rfl) ?_
        intro u17 e17
        refine HL.nil ?_
        repeat refine HW.seq ?_
        refine HW.no ?_ ?_
        exact e17
        -- region 9
        repeat refine HW.seq ?_
        refine HW.region ?_
        refine HL.still (Runs.move f3) ?_
        intro u20 e20
        refine HL.still (Runs.move f0) ?_
        intro u21 e21
        refine HL.still (Runs.move f4) ?_
        intro u22 e22
        refine HL.still (Runs.ixSl (o' := so + k) Tryd.underlying22 sz5 e21 e22 (by omega) (by omega) (by omega)) ?_
        intro u23 e23
        refine HL.still (Runs.load Tryd.underlying5 rfl e23 (hc k (by omega))) ?_
        intro u24 e24
        refine HL.still (Runs.conv Tryd.underlying5 Tryd.underlying3 e24 (i64w (by omega))) ?_
        intro u25 e25
        refine HL.still (Runs.add e20 e25 (i64w (by omega))) ?_
        intro u26 e26
        refine HL.still (Runs.assign e26) ?_
        intro u3 e3
        refine HL.nil ?_
        -- region 6
        repeat refine HW.seq ?_
        refine HW.region ?_
        refine HL.still (Runs.move f4) ?_
        intro u10 e10
        refine HL.still (Runs.add e10 rfl (i64w (by omega))) ?_
        intro u11 e11
        refine HL.still (Runs.assign e11) ?_
        intro u4 e4
        refine HL.nil ?_
        exact ⟨512 - (k + 1), by omega, k + 1, by omega, rfl, e4, f0, e3.trans (congrArg (Value.int .i64) (by rw [cB, if_neg (by omega)]; omega)), rfl⟩
      · by_cases h2 : k < 156
        · skip
          -- region 7
          repeat refine HW.seq ?_
          refine HW.region ?_
          refine HL.still (Runs.move f4) ?_
          intro u12 e12
          refine HL.still (Runs.geq e12 rfl (t := true) (decide_eq_true (by omega))) ?_
          intro u13 e13
          refine HL.still (Runs.move e13) ?_
          intro u14 e14
          refine HL.stillG rfl rfl e14 (Runs.move f4) ?_
          intro u15 e15
          refine HL.stillG rfl rfl e14 (Runs.lss e15 rfl (t := true) (decide_eq_true (by omega))) ?_
          intro u16 e16
          refine HL.still (Runs.pick e14 e16) ?_
          intro u17 e17
          refine HL.nil ?_
          repeat refine HW.seq ?_
          refine HW.yes ?_ ?_
          exact e17
          -- region 8
          repeat refine HW.seq ?_
          refine HW.region ?_
          refine HL.still (Runs.move f3) ?_
          intro u18 e18
          refine HL.still (Runs.add e18 rfl (i64w (by omega))) ?_
          intro u19 e19
          refine HL.still (Runs.assign e19) ?_
          intro u3 e3
          refine HL.nil ?_
          -- region 6
          repeat refine HW.seq ?_
          refine HW.region ?_
          refine HL.still (Runs.move f4) ?_
          intro u10 e10
          refine HL.still (Runs.add e10 rfl (i64w (by omega))) ?_
          intro u11 e11
          refine HL.still (Runs.assign e11) ?_
          intro u4 e4
          refine HL.nil ?_
          exact ⟨512 - (k + 1), by omega, k + 1, by omega, rfl, e4, f0, e3.trans (congrArg (Value.int .i64) (by rw [cB, if_pos (by omega)]; omega)), rfl⟩
        · skip
          -- region 7
          repeat refine HW.seq ?_
          refine HW.region ?_
          refine HL.still (Runs.move f4) ?_
          intro u12 e12
          refine HL.still (Runs.geq e12 rfl (t := true) (decide_eq_true (by omega))) ?_
          intro u13 e13
          refine HL.still (Runs.move e13) ?_
          intro u14 e14
          refine HL.stillG rfl rfl e14 (Runs.move f4) ?_
          intro u15 e15
          refine HL.stillG rfl rfl e14 (Runs.lss e15 rfl (t := false) (decide_eq_false (by omega))) ?_
          intro u16 e16
          refine HL.still (Runs.pick e14 e16) ?_
          intro u17 e17
          refine HL.nil ?_
          repeat refine HW.seq ?_
          refine HW.no ?_ ?_
          exact e17
          -- region 9
          repeat refine HW.seq ?_
          refine HW.region ?_
          refine HL.still (Runs.move f3) ?_
          intro u20 e20
          refine HL.still (Runs.move f0) ?_
          intro u21 e21
          refine HL.still (Runs.move f4) ?_
          intro u22 e22
          refine HL.still (Runs.ixSl (o' := so + k) Tryd.underlying22 sz5 e21 e22 (by omega) (by omega) (by omega)) ?_
          intro u23 e23
          refine HL.still (Runs.load Tryd.underlying5 rfl e23 (hc k (by omega))) ?_
          intro u24 e24
          refine HL.still (Runs.conv Tryd.underlying5 Tryd.underlying3 e24 (i64w (by omega))) ?_
          intro u25 e25
          refine HL.still (Runs.add e20 e25 (i64w (by omega))) ?_
          intro u26 e26
          refine HL.still (Runs.assign e26) ?_
          intro u3 e3
          refine HL.nil ?_
          -- region 6
          repeat refine HW.seq ?_
          refine HW.region ?_
          refine HL.still (Runs.move f4) ?_
          intro u10 e10
          refine HL.still (Runs.add e10 rfl (i64w (by omega))) ?_
          intro u11 e11
          refine HL.still (Runs.assign e11) ?_
          intro u4 e4
          refine HL.nil ?_
          exact ⟨512 - (k + 1), by omega, k + 1, by omega, rfl, e4, f0, e3.trans (congrArg (Value.int .i64) (by rw [cB, if_neg (by omega)]; omega)), rfl⟩
    · have hk5 : k = 512 := by omega
      subst hk5
      -- region 5
      repeat refine HW.seq ?_
      refine HW.region ?_
      refine HL.still (Runs.move f4) ?_
      intro u8 e8
      refine HL.still (Runs.lss e8 rfl rfl) ?_
      intro u9 e9
      refine HL.nil ?_
      repeat refine HW.seq ?_
      refine HW.no ?_ ?_
      exact e9.trans (congrArg Value.bool (decide_eq_false (by omega)))
      refine HW.exitHere ?_
      -- region 10
      repeat refine HW.seq ?_
      refine HW.region ?_
      refine HL.still (Runs.move f3) ?_
      intro u27 e27
      refine HL.still (Runs.assign e27) ?_
      intro u2 e2
      refine HL.nil ?_
      refine HW.ret ?_
      refine RT.one rfl e2 ⟨?_, rfl⟩
      unfold checkO
      rw [if_pos hl, cB_cA]
      exact congrArg (Value.int .i64) (by omega)
  · skip
    -- region 1
    repeat refine HW.seq ?_
    refine HW.region ?_
    refine HL.still (Runs.move p0) ?_
    intro u5 e5
    refine HL.still (Runs.lenSl rfl Tryd.underlying22 e5) ?_
    intro u6 e6
    refine HL.still (Runs.neq e6 rfl (t := true) (by simp; omega)) ?_
    intro u7 e7
    refine HL.nil ?_
    repeat refine HW.seq ?_
    refine HW.yes ?_ ?_
    exact e7
    -- region 2
    repeat refine HW.seq ?_
    refine HW.region ?_
    refine HL.still (Runs.assign rfl) ?_
    intro u2 e2
    refine HL.nil ?_
    refine HW.ret ?_
    refine RT.one rfl e2 ⟨?_, rfl⟩
    unfold checkO
    rw [if_neg hl]
end Go.Proofs.YtfogkggkjmkdiaaDoor
