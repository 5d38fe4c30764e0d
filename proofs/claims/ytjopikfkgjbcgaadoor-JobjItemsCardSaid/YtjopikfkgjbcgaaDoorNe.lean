/- Is a text right: onionskinref10.Valid. -/
import Derived.Test.YtjopikfkgjbcgaaDoorNd
namespace Go.Proofs.YtjopikfkgjbcgaaDoor
set_option linter.unnecessarySimpa false
set_option linter.unusedSimpArgs false
set_option linter.unusedVariables false
open Go.RowKit
theorem sizeO_len {s : List UInt8} (hpos : 0 < s.length) : sizeO s ≤ s.length := by
  unfold sizeO
  simp only
  generalize (lead (at8 s 0)).1 = z
  generalize numK s (lead (at8 s 0)).2 (z - 1) = n
  split
  · omega
  · split
    · omega
    · rename_i h1 h0
      split
      · omega
      · rename_i hall
        have hall : (List.range (z - 1)).all (fun k => cont (at8 s (k + 1))) = true := by simpa using hall
        have hk := List.all_eq_true.1 hall (z - 2) (List.mem_range.2 (by omega))
        have hlt : z - 2 + 1 < s.length := by
          refine Nat.lt_of_not_le fun hle => ?_
          rw [cont_end hle] at hk
          cases hk
        split <;> omega
def validN : Nat → List UInt8 → Bool
  | 0, s => s.isEmpty
  | n + 1, s => if s = [] then true else if sizeO s = 0 then false else validN n (s.drop (sizeO s))
/-- Is it UTF-8? -/
def validO (s : List UInt8) : Bool := validN s.length s
theorem validN_nil (n : Nat) : validN n [] = true := by cases n <;> rfl
set_option maxRecDepth 10000 in
theorem validR_ch (h : Heap) (s : List UInt8) (hs : s.length < 4611686018427387000) : CH Tryd.prog 44 #[.string (strOf s)] h fun v h' => v = .bool (validO s) ∧ h' = h := by
  refine CH.of_body Tryd.func44 rfl rfl rfl ?_
  intro f hf
  have p0 : f 0 = .string (strOf s) := by rw [hf]; exact fr0_at rfl
  -- region 0
  repeat refine HW.seq ?_
  refine HW.region ?_
  refine HL.still (Runs.assign rfl) ?_
  intro u2 e2
  refine HL.nil ?_
  repeat refine HW.seq ?_
  refine HW.block ?_
  refine HW.loop (fun m f u => ∃ t : List UInt8, t.length ≤ m ∧ t.length ≤ s.length ∧ f 0 = .string (strOf t) ∧ validO s = validN m t ∧ h = u) s.length
    ⟨s, Nat.le_refl _, Nat.le_refl _, p0, rfl, rfl⟩ ?_
  clear e2 p0
  rintro m f u ⟨t, htm, hts, p0, hv, rfl⟩
  by_cases hne : t = []
  · subst hne
    rw [validN_nil] at hv
    -- region 1
    repeat refine HW.seq ?_
    refine HW.region ?_
    refine HL.still (Runs.move p0) ?_
    intro u5 e5
    refine HL.still (Runs.neqS e5 rfl (t := false) rfl) ?_
    intro u6 e6
    refine HL.nil ?_
    refine HW.no e6 ?_
    refine HW.exitHere ?_
    -- region 6
    repeat refine HW.seq ?_
    refine HW.region ?_
    refine HL.still (Runs.assign rfl) ?_
    intro u2 e2
    refine HL.nil ?_
    refine HW.ret ?_
    exact RT.one rfl e2 ⟨by rw [hv], rfl⟩
  · have hpos : 0 < t.length := List.length_pos_iff.2 hne
    obtain ⟨m, rfl⟩ : ∃ m', m = m' + 1 := ⟨m - 1, by omega⟩
    rw [validN, if_neg hne] at hv
    have hle := sizeO_le t
    -- region 1
    repeat refine HW.seq ?_
    refine HW.region ?_
    refine HL.still (Runs.move p0) ?_
    intro u5 e5
    refine HL.still (Runs.neqS e5 rfl (t := true) (by cases t with | nil => exact absurd rfl hne | cons _ _ => rfl)) ?_
    intro u6 e6
    refine HL.nil ?_
    refine HW.yes e6 ?_
    refine HW.skip ?_
    repeat refine HW.seq ?_
    refine HW.block ?_
    -- region 2
    repeat refine HW.seq ?_
    refine HW.region ?_
    refine HL.still (Runs.move p0) ?_
    intro u8 e8
    refine HL.one (HO.call Tryd.func54 bd54 nm54 (args1 e8) rfl ((char_ch h t (by omega) hpos).mono ?_))
    rintro _ h9 ⟨⟨r, rfl⟩, rfl⟩
    intro u9 e9
    refine HL.still (Runs.move e9) ?_
    intro u7 e7
    refine HL.still (Runs.extr e7 rfl) ?_
    intro u10 e10
    refine HL.still (Runs.extr e7 rfl) ?_
    intro u11 e11
    refine HL.still (Runs.assign e10) ?_
    intro u3 e3
    refine HL.still (Runs.assign e11) ?_
    intro u4 e4
    refine HL.nil ?_
    have g4 : u4 = I64 (sizeO t : Int) := e4
    by_cases hz : sizeO t = 0
    · rw [if_pos hz] at hv
      -- region 3
      repeat refine HW.seq ?_
      refine HW.region ?_
      refine HL.still (Runs.move g4) ?_
      intro u12 e12
      refine HL.still (Runs.eql e12 rfl (t := true) (by simp [hz])) ?_
      intro u13 e13
      refine HL.nil ?_
      refine HW.yes e13 ?_
      -- region 4
      repeat refine HW.seq ?_
      refine HW.region ?_
      refine HL.still (Runs.assign rfl) ?_
      intro u2 e2
      refine HL.nil ?_
      refine HW.ret ?_
      exact RT.one rfl e2 ⟨by rw [hv], rfl⟩
    · rw [if_neg hz] at hv
      have hzl : sizeO t ≤ t.length := sizeO_len hpos
      -- region 3
      repeat refine HW.seq ?_
      refine HW.region ?_
      refine HL.still (Runs.move g4) ?_
      intro u12 e12
      refine HL.still (Runs.eql e12 rfl (t := false) (by simp [hz])) ?_
      intro u13 e13
      refine HL.nil ?_
      refine HW.no e13 ?_
      refine HW.skip ?_
      -- region 5
      repeat refine HW.seq ?_
      refine HW.region ?_
      refine HL.still (Runs.move p0) ?_
      intro u14 e14
      refine HL.still (Runs.move g4) ?_
      intro u15 e15
      refine HL.still (Runs.sliceS Tryd.underlying9 e14 (lo := sizeO t) (hi := t.length) ⟨_, e15⟩ rfl hzl (Nat.le_refl _)) ?_
      intro u16 e16
      refine HL.still (Runs.assign e16) ?_
      intro u0 e0
      refine HL.nil ?_
      refine ⟨m, by omega, t.drop (sizeO t), by rw [List.length_drop]; omega, by rw [List.length_drop]; omega, ?_, hv, rfl⟩
      rw [e0]
      simp
end Go.Proofs.YtjopikfkgjbcgaaDoor
