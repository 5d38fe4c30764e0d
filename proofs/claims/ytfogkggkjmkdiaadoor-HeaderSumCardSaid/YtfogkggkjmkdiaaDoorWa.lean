/- strings.TrimLeft of one byte, strings.TrimRight of two: blanks and zeros cut off. -/
import Derived.Test.YtfogkggkjmkdiaaDoorTab
namespace Go.Proofs.YtfogkggkjmkdiaaDoor
set_option linter.unnecessarySimpa false
set_option linter.unusedSimpArgs false
set_option linter.unusedVariables false
open Go.RowKit
/-- Cut off at the end all that p holds of. -/
def cutR (p : UInt8 → Bool) (s : List UInt8) : List UInt8 := (s.reverse.dropWhile p).reverse
theorem cutR_nil (p : UInt8 → Bool) : cutR p [] = [] := rfl
theorem cutR_yes (p : UInt8 → Bool) (s : List UInt8) (c : UInt8) (h : p c = true) : cutR p (s ++ [c]) = cutR p s := by
  unfold cutR
  rw [List.reverse_append, List.reverse_singleton, List.singleton_append, List.dropWhile_cons_of_pos h]
theorem cutR_no (p : UInt8 → Bool) (s : List UInt8) (c : UInt8) (h : p c = false) : cutR p (s ++ [c]) = s ++ [c] := by
  unfold cutR
  rw [List.reverse_append, List.reverse_singleton, List.singleton_append, List.dropWhile_cons_of_neg (by rw [h]; decide)]
  simp
theorem last_split (s : List UInt8) (h : 0 < s.length) : s = s.take (s.length - 1) ++ [s.getD (s.length - 1) 0] := by
  have h1 : s.length - 1 < s.length := by omega
  have := List.take_append_drop (s.length - 1) s
  rw [List.drop_eq_getElem_cons h1, List.drop_of_length_le (by omega)] at this
  simpa [h1] using this.symm
theorem get_of_lt {s : List UInt8} {k : Nat} (h : k < s.length) : s[k]? = some (s.getD k 0) := by
  rw [List.getElem?_eq_getElem h]
  simp [h]
theorem tlb_ch (h : Heap) (s : List UInt8) (c : UInt8) (hs : s.length < 4611686018427387904) : CH Tryd.prog 48 #[.string (strOf s), B8 c] h fun v h' => v = .string (strOf (s.dropWhile (· == c))) ∧ h' = h := by
  refine CH.of_body Tryd.func48 rfl rfl rfl ?_
  intro f hf
  have p0 : f 0 = .string (strOf s) := by rw [hf]; exact fr0_at rfl
  have p1 : f 1 = B8 c := by rw [hf]; exact fr0_at rfl
  -- region 0
  repeat refine HW.seq ?_
  refine HW.region ?_
  refine HL.still (Runs.assign rfl) ?_
  intro u4 e4
  refine HL.nil ?_
  repeat refine HW.seq ?_
  refine HW.block ?_
  refine HW.loop (fun m f h' => ∃ t : List UInt8, m = t.length ∧ t.length ≤ s.length ∧ f 0 = .string (strOf t) ∧ f 1 = B8 c ∧ t.dropWhile (· == c) = s.dropWhile (· == c) ∧ h' = h) s.length
    ⟨s, rfl, Nat.le_refl _, p0, p1, rfl, rfl⟩ ?_
  rintro m f h' ⟨t, rfl, htl, f0, f1, ht, rfl⟩
  by_cases hl : 0 < t.length
  · by_cases hc : t.getD 0 0 = c
    · skip
      -- region 1
      repeat refine HW.seq ?_
      refine HW.region ?_
      refine HL.still (Runs.move f0) ?_
      intro u5 e5
      refine HL.still (Runs.lenS rfl Tryd.underlying9 e5) ?_
      intro u6 e6
      refine HL.still (Runs.gtr e6 rfl (t := true) (decide_eq_true (by omega))) ?_
      intro u7 e7
      refine HL.still (Runs.move e7) ?_
      intro u8 e8
      refine HL.stillG rfl rfl e8 (Runs.move f0) ?_
      intro u9 e9
      refine HL.stillG rfl rfl e8 (Runs.ixS Tryd.underlying9 e9 rfl (j := 0) rfl (get_of_lt hl)) ?_
      intro u10 e10
      refine HL.stillG rfl rfl e8 (Runs.move f1) ?_
      intro u11 e11
      refine HL.stillG rfl rfl e8 (Runs.eql e10 e11 (t := true) (by rw [hc]; simp)) ?_
      intro u12 e12
      refine HL.still (Runs.pick e8 e12) ?_
      intro u13 e13
      refine HL.nil ?_
      repeat refine HW.seq ?_
      refine HW.yes ?_ ?_
      exact e13
      refine HW.skip ?_
      repeat refine HW.seq ?_
      refine HW.block ?_
      -- region 2
      repeat refine HW.seq ?_
      refine HW.region ?_
      refine HL.still (Runs.move f0) ?_
      intro u14 e14
      refine HL.still (Runs.sliceS Tryd.underlying9 e14 (lo := 1) (hi := t.length) ⟨_, rfl⟩ rfl hl (Nat.le_refl _)) ?_
      intro u15 e15
      refine HL.still (Runs.assign e15) ?_
      intro u0 e0
      refine HL.nil ?_
      rw [List.take_of_length_le (Nat.le_refl _)] at e0
      refine ⟨(t.drop 1).length, by simp; omega, t.drop 1, rfl, by simp; omega, e0, f1, ?_, rfl⟩
      rw [← ht]
      match t, hl, hc with
      | x :: t, _, hc =>
        have : x = c := hc
        subst this
        simp
    · skip
      have hcn : ((t.getD 0 0).toNat : Int) ≠ (c.toNat : Int) := fun e => hc (UInt8.toNat_inj.1 (by omega))
      -- region 1
      repeat refine HW.seq ?_
      refine HW.region ?_
      refine HL.still (Runs.move f0) ?_
      intro u5 e5
      refine HL.still (Runs.lenS rfl Tryd.underlying9 e5) ?_
      intro u6 e6
      refine HL.still (Runs.gtr e6 rfl (t := true) (decide_eq_true (by omega))) ?_
      intro u7 e7
      refine HL.still (Runs.move e7) ?_
      intro u8 e8
      refine HL.stillG rfl rfl e8 (Runs.move f0) ?_
      intro u9 e9
      refine HL.stillG rfl rfl e8 (Runs.ixS Tryd.underlying9 e9 rfl (j := 0) rfl (get_of_lt hl)) ?_
      intro u10 e10
      refine HL.stillG rfl rfl e8 (Runs.move f1) ?_
      intro u11 e11
      refine HL.stillG rfl rfl e8 (Runs.eql e10 e11 (t := false) (by simpa using hcn)) ?_
      intro u12 e12
      refine HL.still (Runs.pick e8 e12) ?_
      intro u13 e13
      refine HL.nil ?_
      repeat refine HW.seq ?_
      refine HW.no ?_ ?_
      exact e13
      refine HW.exitHere ?_
      -- region 3
      repeat refine HW.seq ?_
      refine HW.region ?_
      refine HL.still (Runs.move f0) ?_
      intro u16 e16
      refine HL.still (Runs.assign e16) ?_
      intro u4 e4
      refine HL.nil ?_
      refine HW.ret ?_
      refine RT.one rfl e4 ⟨?_, rfl⟩
      rw [← ht]
      match t, hl, hc with
      | x :: t, _, hc =>
        have : ¬ x = c := hc
        simp [this]
  · skip
    -- region 1
    repeat refine HW.seq ?_
    refine HW.region ?_
    refine HL.still (Runs.move f0) ?_
    intro u5 e5
    refine HL.still (Runs.lenS rfl Tryd.underlying9 e5) ?_
    intro u6 e6
    refine HL.still (Runs.gtr e6 rfl (t := false) (decide_eq_false (by omega))) ?_
    intro u7 e7
    refine HL.still (Runs.move e7) ?_
    intro u8 e8
    refine HL.skipG rfl rfl e8 ?_
    intro u9 e9
    refine HL.skipG rfl rfl e8 ?_
    intro u10 e10
    refine HL.skipG rfl rfl e8 ?_
    intro u11 e11
    refine HL.skipG rfl rfl e8 ?_
    intro u12 e12
    refine HL.still (Runs.pick e8 rfl) ?_
    intro u13 e13
    refine HL.nil ?_
    repeat refine HW.seq ?_
    refine HW.no ?_ ?_
    exact e13
    refine HW.exitHere ?_
    -- region 3
    repeat refine HW.seq ?_
    refine HW.region ?_
    refine HL.still (Runs.move f0) ?_
    intro u16 e16
    refine HL.still (Runs.assign e16) ?_
    intro u4 e4
    refine HL.nil ?_
    refine HW.ret ?_
    refine RT.one rfl e4 ⟨?_, rfl⟩
    rw [← ht]
    have : t = [] := List.length_eq_zero_iff.1 (by omega)
    subst this
    rfl
/-- The set of the bytes of l. -/
def setOf (l : List UInt8) : List Bool := (List.range 256).map fun n => l.contains (UInt8.ofNat n)
theorem has_ch (h : Heap) (b : Nat) (l : List Bool) (hl : l.length = 256) (c : UInt8) (hb : h[b]? = some (.cells (l.map Vb).toArray 66 (0, 0))) : CH Tryd.prog 54 #[.pointer (some ⟨b, 0, none⟩), B8 c] h fun v h' => v = .bool (l.getD c.toNat false) ∧ h' = h := by
  refine CH.of_body Tryd.func54 rfl rfl rfl ?_
  intro f hf
  have p0 : f 0 = .pointer (some ⟨b, 0, none⟩) := by rw [hf]; exact fr0_at rfl
  have p1 : f 1 = B8 c := by rw [hf]; exact fr0_at rfl
  have hc := c.toNat_lt
  -- region 0
  repeat refine HW.seq ?_
  refine HW.region ?_
  refine HL.still (Runs.assign rfl) ?_
  intro u4 e4
  refine HL.nil ?_
  -- region 1
  repeat refine HW.seq ?_
  refine HW.region ?_
  refine HL.still (Runs.move p0) ?_
  intro u5 e5
  refine HL.still (Runs.move p1) ?_
  intro u6 e6
  refine HL.still (Runs.nilc e5) ?_
  intro u7 e7
  refine HL.still (Runs.ixArr (o' := c.toNat) Tryd.underlying66 sz4 e7 e6 (by omega) (by omega) (by omega)) ?_
  intro u8 e8
  refine HL.still (Runs.load Tryd.underlying4 rfl e8 (cellH_map (j := c.toNat) false hb (by omega))) ?_
  intro u9 e9
  refine HL.still (Runs.assign e9) ?_
  intro u4 e4
  refine HL.nil ?_
  refine HW.ret ?_
  exact RT.one rfl e4 ⟨rfl, rfl⟩
end Go.Proofs.YtfogkggkjmkdiaaDoor
