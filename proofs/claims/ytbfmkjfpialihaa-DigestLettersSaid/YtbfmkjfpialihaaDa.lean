/- The small functions of digests: strings.CutPrefix, strings.IndexByte, cmp.Compare, value, digit. -/
import Derived.Test.YtbfmkjfpialihaaDp
namespace Go.Proofs.Ytbfmkjfpialihaa
set_option linter.unnecessarySimpa false
set_option linter.unusedSimpArgs false
set_option linter.unusedVariables false
open Go.RowKit
theorem CH.same {P : Program} {fn : FuncId} {args : Array Value} {h : Heap} {v : Value} (c : CH P fn args h fun x h' => x = v ∧ h' = h) : CH P fn args h fun x h' => x = v ∧ Ext h h' :=
  c.mono fun _ _ q => ⟨q.1, by rw [q.2]; exact Bel.refl _ _⟩
theorem prefix_ch (h : Heap) (s p : List UInt8) : CH Try.prog 42 #[.string (strOf s), .string (strOf p)] h fun v h' => v = .bool (decide (p.length ≤ s.length) && s.take p.length == p) ∧ h' = h := by
  refine CH.of_body Try.func42 rfl rfl rfl ?_
  intro f hf
  have p0 : f 0 = .string (strOf s) := by rw [hf]; exact fr0_at rfl
  have p1 : f 1 = .string (strOf p) := by rw [hf]; exact fr0_at rfl
  -- region 0
  repeat refine HW.seq ?_
  refine HW.region ?_
  refine HL.still (Runs.assign rfl) ?_
  intro u4 e4
  refine HL.nil ?_
  by_cases hl : p.length ≤ s.length
  · skip
    -- region 1
    repeat refine HW.seq ?_
    refine HW.region ?_
    refine HL.still (Runs.move p0) ?_
    intro u5 e5
    refine HL.still (Runs.lenS rfl Try.underlying9 e5) ?_
    intro u6 e6
    refine HL.still (Runs.move p1) ?_
    intro u7 e7
    refine HL.still (Runs.lenS rfl Try.underlying9 e7) ?_
    intro u8 e8
    refine HL.still (Runs.geq e6 e8 (t := true) (decide_eq_true (by omega))) ?_
    intro u9 e9
    refine HL.still (Runs.move e9) ?_
    intro u10 e10
    refine HL.stillG rfl rfl e10 (Runs.move p0) ?_
    intro u11 e11
    refine HL.stillG rfl rfl e10 (Runs.move p1) ?_
    intro u12 e12
    refine HL.stillG rfl rfl e10 (Runs.lenS rfl Try.underlying9 e12) ?_
    intro u13 e13
    refine HL.stillG rfl rfl e10 (Runs.sliceS Try.underlying9 e11 rfl ⟨_, e13⟩ (Nat.zero_le _) hl) ?_
    intro u14 e14
    refine HL.stillG rfl rfl e10 (Runs.move p1) ?_
    intro u15 e15
    refine HL.stillG rfl rfl e10 (Runs.eqS e14 e15 rfl) ?_
    intro u16 e16
    refine HL.still (Runs.pick e10 e16) ?_
    intro u17 e17
    refine HL.still (Runs.assign e17) ?_
    intro u4 e4
    refine HL.nil ?_
    refine HW.ret ?_
    refine RT.one rfl e4 ⟨?_, rfl⟩
    simp [hl]
  · skip
    -- region 1
    repeat refine HW.seq ?_
    refine HW.region ?_
    refine HL.still (Runs.move p0) ?_
    intro u5 e5
    refine HL.still (Runs.lenS rfl Try.underlying9 e5) ?_
    intro u6 e6
    refine HL.still (Runs.move p1) ?_
    intro u7 e7
    refine HL.still (Runs.lenS rfl Try.underlying9 e7) ?_
    intro u8 e8
    refine HL.still (Runs.geq e6 e8 (t := false) (decide_eq_false (by omega))) ?_
    intro u9 e9
    refine HL.still (Runs.move e9) ?_
    intro u10 e10
    refine HL.skipG rfl rfl e10 ?_
    intro u11 e11
    refine HL.skipG rfl rfl e10 ?_
    intro u12 e12
    refine HL.skipG rfl rfl e10 ?_
    intro u13 e13
    refine HL.skipG rfl rfl e10 ?_
    intro u14 e14
    refine HL.skipG rfl rfl e10 ?_
    intro u15 e15
    refine HL.skipG rfl rfl e10 ?_
    intro u16 e16
    refine HL.still (Runs.pick e10 rfl) ?_
    intro u17 e17
    refine HL.still (Runs.assign e17) ?_
    intro u4 e4
    refine HL.nil ?_
    refine HW.ret ?_
    refine RT.one rfl e4 ⟨?_, rfl⟩
    simp [hl]
theorem cut_ch (h : Heap) (s p : List UInt8) : CH Try.prog 39 #[.string (strOf s), .string (strOf p)] h fun v h' => v = (if (decide (p.length ≤ s.length) && s.take p.length == p) = true then .tuple #[.string (strOf (s.drop p.length)), .bool true] else .tuple #[.string (strOf s), .bool false]) ∧ h' = h := by
  refine CH.of_body Try.func39 rfl rfl rfl ?_
  intro f hf
  have p0 : f 0 = .string (strOf s) := by rw [hf]; exact fr0_at rfl
  have p1 : f 1 = .string (strOf p) := by rw [hf]; exact fr0_at rfl
  -- region 0
  repeat refine HW.seq ?_
  refine HW.region ?_
  refine HL.still (Runs.assign rfl) ?_
  intro u4 e4
  refine HL.still (Runs.assign rfl) ?_
  intro u5 e5
  refine HL.nil ?_
  obtain ⟨t, ht⟩ : ∃ t : Bool, t = (decide (p.length ≤ s.length) && s.take p.length == p) := ⟨_, rfl⟩
  have hpx : CH Try.prog 42 #[.string (strOf s), .string (strOf p)] h fun v h' => v = .bool t ∧ h' = h := by rw [ht]; exact prefix_ch h s p
  rw [← ht]
  cases t with
  | false =>
    skip
    -- region 1
    repeat refine HW.seq ?_
    refine HW.region ?_
    refine HL.still (Runs.move p0) ?_
    intro u6 e6
    refine HL.still (Runs.move p1) ?_
    intro u7 e7
    refine HL.one (HO.call Try.func42 bd42 nm42 (args2 e6 e7) rfl ((hpx).mono ?_))
    rintro _ _ ⟨rfl, rfl⟩
    intro u8 e8
    refine HL.still (Runs.notb e8 (t := false) (u := true) rfl) ?_
    intro u9 e9
    refine HL.nil ?_
    repeat refine HW.seq ?_
    refine HW.yes ?_ ?_
    exact e9
    -- region 2
    repeat refine HW.seq ?_
    refine HW.region ?_
    refine HL.still (Runs.move p0) ?_
    intro u10 e10
    refine HL.still (Runs.assign e10) ?_
    intro u4 e4
    refine HL.still (Runs.assign rfl) ?_
    intro u5 e5
    refine HL.nil ?_
    refine HW.ret ?_
    exact RT.two rfl e4 e5 ⟨rfl, rfl⟩
  | true =>
    skip
    have hl : p.length ≤ s.length := by
      have := ht.symm
      simp only [Bool.and_eq_true, decide_eq_true_eq] at this
      exact this.1
    -- region 1
    repeat refine HW.seq ?_
    refine HW.region ?_
    refine HL.still (Runs.move p0) ?_
    intro u6 e6
    refine HL.still (Runs.move p1) ?_
    intro u7 e7
    refine HL.one (HO.call Try.func42 bd42 nm42 (args2 e6 e7) rfl ((hpx).mono ?_))
    rintro _ _ ⟨rfl, rfl⟩
    intro u8 e8
    refine HL.still (Runs.notb e8 (t := true) (u := false) rfl) ?_
    intro u9 e9
    refine HL.nil ?_
    repeat refine HW.seq ?_
    refine HW.no ?_ ?_
    exact e9
    refine HW.skip ?_
    -- region 3
    repeat refine HW.seq ?_
    refine HW.region ?_
    refine HL.still (Runs.move p0) ?_
    intro u11 e11
    refine HL.still (Runs.move p1) ?_
    intro u12 e12
    refine HL.still (Runs.lenS rfl Try.underlying9 e12) ?_
    intro u13 e13
    refine HL.still (Runs.sliceS Try.underlying9 e11 ⟨_, e13⟩ rfl hl (Nat.le_refl _)) ?_
    intro u14 e14
    refine HL.still (Runs.assign e14) ?_
    intro u4 e4
    refine HL.still (Runs.assign rfl) ?_
    intro u5 e5
    refine HL.nil ?_
    refine HW.ret ?_
    refine RT.two rfl e4 e5 ⟨?_, rfl⟩
    rw [List.take_of_length_le (Nat.le_refl _)]
    rfl
theorem cutp_ch (h : Heap) (s p : List UInt8) (x : List UInt8) (t : Bool) (hx : CH Try.prog 39 #[.string (strOf s), .string (strOf p)] h fun v h' => v = .tuple #[.string (strOf x), .bool t] ∧ h' = h) : CH Try.prog 31 #[.string (strOf s), .string (strOf p)] h fun v h' => v = .tuple #[.string (strOf x), .bool t] ∧ h' = h := by
  refine CH.of_body Try.func31 rfl rfl rfl ?_
  intro f hf
  have p0 : f 0 = .string (strOf s) := by rw [hf]; exact fr0_at rfl
  have p1 : f 1 = .string (strOf p) := by rw [hf]; exact fr0_at rfl
  -- region 0
  repeat refine HW.seq ?_
  refine HW.region ?_
  refine HL.still (Runs.assign rfl) ?_
  intro u4 e4
  refine HL.still (Runs.assign rfl) ?_
  intro u5 e5
  refine HL.nil ?_
  -- region 1
  repeat refine HW.seq ?_
  refine HW.region ?_
  refine HL.still (Runs.move p0) ?_
  intro u6 e6
  refine HL.still (Runs.move p1) ?_
  intro u7 e7
  refine HL.one (HO.call Try.func39 bd39 nm39 (args2 e6 e7) rfl ((hx).mono ?_))
  rintro _ _ ⟨rfl, rfl⟩
  intro u8 e8
  refine HL.still (Runs.extr e8 rfl) ?_
  intro u9 e9
  refine HL.still (Runs.extr e8 rfl) ?_
  intro u10 e10
  refine HL.still (Runs.assign e9) ?_
  intro u4 e4
  refine HL.still (Runs.assign e10) ?_
  intro u5 e5
  refine HL.nil ?_
  refine HW.ret ?_
  exact RT.two rfl e4 e5 ⟨rfl, rfl⟩
/-- strings.CutPrefix. -/
theorem cutPrefix_ch (h : Heap) (s p : List UInt8) : CH Try.prog 31 #[.string (strOf s), .string (strOf p)] h fun v h' => v = (if (decide (p.length ≤ s.length) && s.take p.length == p) = true then .tuple #[.string (strOf (s.drop p.length)), .bool true] else .tuple #[.string (strOf s), .bool false]) ∧ h' = h := by
  by_cases hc : (decide (p.length ≤ s.length) && s.take p.length == p) = true
  · rw [if_pos hc]
    exact cutp_ch h s p _ _ ((cut_ch h s p).mono fun v h' q => by rwa [if_pos hc] at q)
  · rw [if_neg hc]
    exact cutp_ch h s p _ _ ((cut_ch h s p).mono fun v h' q => by rwa [if_neg hc] at q)
theorem idx0_ch (h : Heap) (s : List UInt8) (c : UInt8) : CH Try.prog 40 #[.string (strOf s), B8 c] h fun v h' => v = I64 (Go.Lib.indexByte s c) ∧ h' = h := by
  refine CH.of_body Try.func40 rfl rfl rfl ?_
  intro f hf
  have p0 : f 0 = .string (strOf s) := by rw [hf]; exact fr0_at rfl
  have p1 : f 1 = B8 c := by rw [hf]; exact fr0_at rfl
  have hr : ∀ w : World, (Extern.BytealgIndexByte.indexByte #[.string (strOf s), B8 c]).run Try.prog w = .ok (I64 (Go.Lib.indexByte s c)) w := fun w => by
    have := Go.Lib.run_indexByteString (P := Try.prog) (strOf s) (c.toNat : Int) w
    simpa [strOf] using this
  -- region 0
  repeat refine HW.seq ?_
  refine HW.region ?_
  refine HL.still (Runs.assign rfl) ?_
  intro u4 e4
  refine HL.nil ?_
  -- region 1
  repeat refine HW.seq ?_
  refine HW.region ?_
  refine HL.still (Runs.move p0) ?_
  intro u5 e5
  refine HL.still (Runs.move p1) ?_
  intro u6 e6
  refine HL.still (Runs.extern Try.func43 nx43 bx43 ex43 fx43 (args2 e5 e6) rfl hr) ?_
  intro u7 e7
  refine HL.still (Runs.assign e7) ?_
  intro u4 e4
  refine HL.nil ?_
  refine HW.ret ?_
  exact RT.one rfl e4 ⟨rfl, rfl⟩
/-- strings.IndexByte. -/
theorem idx_ch (h : Heap) (s : List UInt8) (c : UInt8) : CH Try.prog 32 #[.string (strOf s), B8 c] h fun v h' => v = I64 (Go.Lib.indexByte s c) ∧ h' = h := by
  refine CH.of_body Try.func32 rfl rfl rfl ?_
  intro f hf
  have p0 : f 0 = .string (strOf s) := by rw [hf]; exact fr0_at rfl
  have p1 : f 1 = B8 c := by rw [hf]; exact fr0_at rfl
  -- region 0
  repeat refine HW.seq ?_
  refine HW.region ?_
  refine HL.still (Runs.assign rfl) ?_
  intro u4 e4
  refine HL.nil ?_
  -- region 1
  repeat refine HW.seq ?_
  refine HW.region ?_
  refine HL.still (Runs.move p0) ?_
  intro u5 e5
  refine HL.still (Runs.move p1) ?_
  intro u6 e6
  refine HL.one (HO.call Try.func40 bd40 nm40 (args2 e5 e6) rfl ((idx0_ch h s c).mono ?_))
  rintro _ _ ⟨rfl, rfl⟩
  intro u7 e7
  refine HL.still (Runs.assign e7) ?_
  intro u4 e4
  refine HL.nil ?_
  refine HW.ret ?_
  exact RT.one rfl e4 ⟨rfl, rfl⟩
theorem nan_ch (h : Heap) (c : UInt8) : CH Try.prog 44 #[B8 c] h fun v h' => v = .bool false ∧ h' = h := by
  refine CH.of_body Try.func44 rfl rfl rfl ?_
  intro f hf
  have p0 : f 0 = B8 c := by rw [hf]; exact fr0_at rfl
  -- region 0
  repeat refine HW.seq ?_
  refine HW.region ?_
  refine HL.still (Runs.assign rfl) ?_
  intro u2 e2
  refine HL.nil ?_
  -- region 1
  repeat refine HW.seq ?_
  refine HW.region ?_
  refine HL.still (Runs.move p0) ?_
  intro u3 e3
  refine HL.still (Runs.move p0) ?_
  intro u4 e4
  refine HL.still (Runs.neq e3 e4 (t := false) (by simp)) ?_
  intro u5 e5
  refine HL.still (Runs.assign e5) ?_
  intro u2 e2
  refine HL.nil ?_
  refine HW.ret ?_
  exact RT.one rfl e2 ⟨rfl, rfl⟩
/-- cmp.Compare of two bytes. -/
theorem cmp_ch (h : Heap) (x y : UInt8) : CH Try.prog 41 #[B8 x, B8 y] h fun v h' => v = I64 (if x = y then 0 else if x.toNat < y.toNat then -1 else 1) ∧ h' = h := by
  refine CH.of_body Try.func41 rfl rfl rfl ?_
  intro f hf
  have p0 : f 0 = B8 x := by rw [hf]; exact fr0_at rfl
  have p1 : f 1 = B8 y := by rw [hf]; exact fr0_at rfl
  have hxy : x = y ↔ x.toNat = y.toNat := ⟨fun e => by rw [e], UInt8.toNat_inj.1⟩
  -- region 0
  repeat refine HW.seq ?_
  refine HW.region ?_
  refine HL.still (Runs.assign rfl) ?_
  intro u4 e4
  refine HL.nil ?_
  -- region 1
  repeat refine HW.seq ?_
  refine HW.region ?_
  refine HL.still (Runs.move p0) ?_
  intro u7 e7
  refine HL.one (HO.call Try.func44 bd44 nm44 (args1 e7) rfl ((nan_ch _ x).mono ?_))
  rintro _ _ ⟨rfl, rfl⟩
  intro u8 e8
  refine HL.still (Runs.assign e8) ?_
  intro u5 e5
  refine HL.nil ?_
  -- region 2
  repeat refine HW.seq ?_
  refine HW.region ?_
  refine HL.still (Runs.move p1) ?_
  intro u9 e9
  refine HL.one (HO.call Try.func44 bd44 nm44 (args1 e9) rfl ((nan_ch _ y).mono ?_))
  rintro _ _ ⟨rfl, rfl⟩
  intro u10 e10
  refine HL.still (Runs.assign e10) ?_
  intro u6 e6
  refine HL.nil ?_
  -- region 3
  repeat refine HW.seq ?_
  refine HW.region ?_
  refine HL.still (Runs.move e5) ?_
  intro u11 e11
  refine HL.nil ?_
  repeat refine HW.seq ?_
  refine HW.no ?_ ?_
  exact e11
  refine HW.skip ?_
  -- region 7
  repeat refine HW.seq ?_
  refine HW.region ?_
  refine HL.still (Runs.move e6) ?_
  intro u13 e13
  refine HL.nil ?_
  repeat refine HW.seq ?_
  refine HW.no ?_ ?_
  exact e13
  refine HW.skip ?_
  by_cases h1 : x.toNat < y.toNat
  · skip
    -- region 9
    repeat refine HW.seq ?_
    refine HW.region ?_
    refine HL.still (Runs.move p0) ?_
    intro u14 e14
    refine HL.still (Runs.move p1) ?_
    intro u15 e15
    refine HL.still (Runs.lss e14 e15 (t := true) (decide_eq_true (by omega))) ?_
    intro u16 e16
    refine HL.nil ?_
    repeat refine HW.seq ?_
    refine HW.yes ?_ ?_
    exact e16
    -- region 10
    repeat refine HW.seq ?_
    refine HW.region ?_
    refine HL.still (Runs.assign rfl) ?_
    intro u4 e4
    refine HL.nil ?_
    refine HW.ret ?_
    refine RT.one rfl e4 ⟨?_, rfl⟩
    rw [if_neg (by rw [hxy]; omega), if_pos h1]
  · skip
    -- region 9
    repeat refine HW.seq ?_
    refine HW.region ?_
    refine HL.still (Runs.move p0) ?_
    intro u14 e14
    refine HL.still (Runs.move p1) ?_
    intro u15 e15
    refine HL.still (Runs.lss e14 e15 (t := false) (decide_eq_false (by omega))) ?_
    intro u16 e16
    refine HL.nil ?_
    repeat refine HW.seq ?_
    refine HW.no ?_ ?_
    exact e16
    refine HW.skip ?_
    by_cases h2 : x.toNat > y.toNat
    · skip
      -- region 11
      repeat refine HW.seq ?_
      refine HW.region ?_
      refine HL.still (Runs.move p0) ?_
      intro u17 e17
      refine HL.still (Runs.move p1) ?_
      intro u18 e18
      refine HL.still (Runs.gtr e17 e18 (t := true) (decide_eq_true (by omega))) ?_
      intro u19 e19
      refine HL.nil ?_
      repeat refine HW.seq ?_
      refine HW.yes ?_ ?_
      exact e19
      -- region 12
      repeat refine HW.seq ?_
      refine HW.region ?_
      refine HL.still (Runs.assign rfl) ?_
      intro u4 e4
      refine HL.nil ?_
      refine HW.ret ?_
      refine RT.one rfl e4 ⟨?_, rfl⟩
      rw [if_neg (by rw [hxy]; omega), if_neg h1]
    · skip
      -- region 11
      repeat refine HW.seq ?_
      refine HW.region ?_
      refine HL.still (Runs.move p0) ?_
      intro u17 e17
      refine HL.still (Runs.move p1) ?_
      intro u18 e18
      refine HL.still (Runs.gtr e17 e18 (t := false) (decide_eq_false (by omega))) ?_
      intro u19 e19
      refine HL.nil ?_
      repeat refine HW.seq ?_
      refine HW.no ?_ ?_
      exact e19
      refine HW.skip ?_
      -- region 13
      repeat refine HW.seq ?_
      refine HW.region ?_
      refine HL.still (Runs.assign rfl) ?_
      intro u4 e4
      refine HL.nil ?_
      refine HW.ret ?_
      refine RT.one rfl e4 ⟨?_, rfl⟩
      rw [if_pos (by rw [hxy]; omega)]
/-- onionskinref02.value. -/
theorem value_ch (h : Heap) (c : UInt8) : CH Try.prog 33 #[B8 c] h fun v h' => v = I64 (val c) ∧ h' = h := by
  refine CH.of_body Try.func33 rfl rfl rfl ?_
  intro f hf
  have p0 : f 0 = B8 c := by rw [hf]; exact fr0_at rfl
  have hc := c.toNat_lt
  -- region 0
  repeat refine HW.seq ?_
  refine HW.region ?_
  refine HL.still (Runs.assign rfl) ?_
  intro u2 e2
  refine HL.nil ?_
  by_cases h1 : 48 ≤ c.toNat
  · by_cases h2 : c.toNat ≤ 57
    · skip
      -- region 1
      repeat refine HW.seq ?_
      refine HW.region ?_
      refine HL.still (Runs.move p0) ?_
      intro u3 e3
      refine HL.still (Runs.geq e3 rfl (t := true) (decide_eq_true (by omega))) ?_
      intro u4 e4
      refine HL.still (Runs.move e4) ?_
      intro u5 e5
      refine HL.stillG rfl rfl e5 (Runs.move p0) ?_
      intro u6 e6
      refine HL.stillG rfl rfl e5 (Runs.leq e6 rfl (t := true) (decide_eq_true (by omega))) ?_
      intro u7 e7
      refine HL.still (Runs.pick e5 e7) ?_
      intro u8 e8
      refine HL.nil ?_
      repeat refine HW.seq ?_
      refine HW.yes ?_ ?_
      exact e8
      -- region 2
      repeat refine HW.seq ?_
      refine HW.region ?_
      refine HL.still (Runs.move p0) ?_
      intro u9 e9
      refine HL.still (Runs.sub e9 rfl (u8w (by omega))) ?_
      intro u10 e10
      refine HL.still (Runs.conv Try.underlying5 Try.underlying3 e10 (i64w (by omega))) ?_
      intro u11 e11
      refine HL.still (Runs.assign e11) ?_
      intro u2 e2
      refine HL.nil ?_
      refine HW.ret ?_
      refine RT.one rfl e2 ⟨?_, rfl⟩
      rw [val, if_pos ⟨h1, h2⟩]
      exact congrArg (Value.int .i64) (by omega)
    · by_cases h3 : 97 ≤ c.toNat
      · by_cases h4 : c.toNat ≤ 102
        · skip
          -- region 1
          repeat refine HW.seq ?_
          refine HW.region ?_
          refine HL.still (Runs.move p0) ?_
          intro u3 e3
          refine HL.still (Runs.geq e3 rfl (t := true) (decide_eq_true (by omega))) ?_
          intro u4 e4
          refine HL.still (Runs.move e4) ?_
          intro u5 e5
          refine HL.stillG rfl rfl e5 (Runs.move p0) ?_
          intro u6 e6
          refine HL.stillG rfl rfl e5 (Runs.leq e6 rfl (t := false) (decide_eq_false (by omega))) ?_
          intro u7 e7
          refine HL.still (Runs.pick e5 e7) ?_
          intro u8 e8
          refine HL.nil ?_
          repeat refine HW.seq ?_
          refine HW.no ?_ ?_
          exact e8
          refine HW.skip ?_
          -- region 3
          repeat refine HW.seq ?_
          refine HW.region ?_
          refine HL.still (Runs.move p0) ?_
          intro u12 e12
          refine HL.still (Runs.geq e12 rfl (t := true) (decide_eq_true (by omega))) ?_
          intro u13 e13
          refine HL.still (Runs.move e13) ?_
          intro u14 e14
          refine HL.stillG rfl rfl e14 (Runs.move p0) ?_
          intro u15 e15
          refine HL.stillG rfl rfl e14 (Runs.leq e15 rfl (t := true) (decide_eq_true (by omega))) ?_
          intro u16 e16
          refine HL.still (Runs.pick e14 e16) ?_
          intro u17 e17
          refine HL.nil ?_
          repeat refine HW.seq ?_
          refine HW.yes ?_ ?_
          exact e17
          -- region 4
          repeat refine HW.seq ?_
          refine HW.region ?_
          refine HL.still (Runs.move p0) ?_
          intro u18 e18
          refine HL.still (Runs.sub e18 rfl (u8w (by omega))) ?_
          intro u19 e19
          refine HL.still (Runs.conv Try.underlying5 Try.underlying3 e19 (i64w (by omega))) ?_
          intro u20 e20
          refine HL.still (Runs.add e20 rfl (i64w (by omega))) ?_
          intro u21 e21
          refine HL.still (Runs.assign e21) ?_
          intro u2 e2
          refine HL.nil ?_
          refine HW.ret ?_
          refine RT.one rfl e2 ⟨?_, rfl⟩
          rw [val, if_neg (by omega), if_pos ⟨h3, h4⟩]
          exact congrArg (Value.int .i64) (by omega)
        · skip
          -- region 1
          repeat refine HW.seq ?_
          refine HW.region ?_
          refine HL.still (Runs.move p0) ?_
          intro u3 e3
          refine HL.still (Runs.geq e3 rfl (t := true) (decide_eq_true (by omega))) ?_
          intro u4 e4
          refine HL.still (Runs.move e4) ?_
          intro u5 e5
          refine HL.stillG rfl rfl e5 (Runs.move p0) ?_
          intro u6 e6
          refine HL.stillG rfl rfl e5 (Runs.leq e6 rfl (t := false) (decide_eq_false (by omega))) ?_
          intro u7 e7
          refine HL.still (Runs.pick e5 e7) ?_
          intro u8 e8
          refine HL.nil ?_
          repeat refine HW.seq ?_
          refine HW.no ?_ ?_
          exact e8
          refine HW.skip ?_
          -- region 3
          repeat refine HW.seq ?_
          refine HW.region ?_
          refine HL.still (Runs.move p0) ?_
          intro u12 e12
          refine HL.still (Runs.geq e12 rfl (t := true) (decide_eq_true (by omega))) ?_
          intro u13 e13
          refine HL.still (Runs.move e13) ?_
          intro u14 e14
          refine HL.stillG rfl rfl e14 (Runs.move p0) ?_
          intro u15 e15
          refine HL.stillG rfl rfl e14 (Runs.leq e15 rfl (t := false) (decide_eq_false (by omega))) ?_
          intro u16 e16
          refine HL.still (Runs.pick e14 e16) ?_
          intro u17 e17
          refine HL.nil ?_
          repeat refine HW.seq ?_
          refine HW.no ?_ ?_
          exact e17
          refine HW.skip ?_
          -- region 5
          repeat refine HW.seq ?_
          refine HW.region ?_
          refine HL.still (Runs.assign rfl) ?_
          intro u2 e2
          refine HL.nil ?_
          refine HW.ret ?_
          refine RT.one rfl e2 ⟨?_, rfl⟩
          rw [val, if_neg (by omega), if_neg (by omega)]
          rfl
      · skip
        -- region 1
        repeat refine HW.seq ?_
        refine HW.region ?_
        refine HL.still (Runs.move p0) ?_
        intro u3 e3
        refine HL.still (Runs.geq e3 rfl (t := true) (decide_eq_true (by omega))) ?_
        intro u4 e4
        refine HL.still (Runs.move e4) ?_
        intro u5 e5
        refine HL.stillG rfl rfl e5 (Runs.move p0) ?_
        intro u6 e6
        refine HL.stillG rfl rfl e5 (Runs.leq e6 rfl (t := false) (decide_eq_false (by omega))) ?_
        intro u7 e7
        refine HL.still (Runs.pick e5 e7) ?_
        intro u8 e8
        refine HL.nil ?_
        repeat refine HW.seq ?_
        refine HW.no ?_ ?_
        exact e8
        refine HW.skip ?_
        -- region 3
        repeat refine HW.seq ?_
        refine HW.region ?_
        refine HL.still (Runs.move p0) ?_
        intro u12 e12
        refine HL.still (Runs.geq e12 rfl (t := false) (decide_eq_false (by omega))) ?_
        intro u13 e13
        refine HL.still (Runs.move e13) ?_
        intro u14 e14
        refine HL.skipG rfl rfl e14 ?_
        intro u15 e15
        refine HL.skipG rfl rfl e14 ?_
        intro u16 e16
        refine HL.still (Runs.pick e14 rfl) ?_
        intro u17 e17
        refine HL.nil ?_
        repeat refine HW.seq ?_
        refine HW.no ?_ ?_
        exact e17
        refine HW.skip ?_
        -- region 5
        repeat refine HW.seq ?_
        refine HW.region ?_
        refine HL.still (Runs.assign rfl) ?_
        intro u2 e2
        refine HL.nil ?_
        refine HW.ret ?_
        refine RT.one rfl e2 ⟨?_, rfl⟩
        rw [val, if_neg (by omega), if_neg (by omega)]
        rfl
  · skip
    -- region 1
    repeat refine HW.seq ?_
    refine HW.region ?_
    refine HL.still (Runs.move p0) ?_
    intro u3 e3
    refine HL.still (Runs.geq e3 rfl (t := false) (decide_eq_false (by omega))) ?_
    intro u4 e4
    refine HL.still (Runs.move e4) ?_
    intro u5 e5
    refine HL.skipG rfl rfl e5 ?_
    intro u6 e6
    refine HL.skipG rfl rfl e5 ?_
    intro u7 e7
    refine HL.still (Runs.pick e5 rfl) ?_
    intro u8 e8
    refine HL.nil ?_
    repeat refine HW.seq ?_
    refine HW.no ?_ ?_
    exact e8
    refine HW.skip ?_
    -- region 3
    repeat refine HW.seq ?_
    refine HW.region ?_
    refine HL.still (Runs.move p0) ?_
    intro u12 e12
    refine HL.still (Runs.geq e12 rfl (t := false) (decide_eq_false (by omega))) ?_
    intro u13 e13
    refine HL.still (Runs.move e13) ?_
    intro u14 e14
    refine HL.skipG rfl rfl e14 ?_
    intro u15 e15
    refine HL.skipG rfl rfl e14 ?_
    intro u16 e16
    refine HL.still (Runs.pick e14 rfl) ?_
    intro u17 e17
    refine HL.nil ?_
    repeat refine HW.seq ?_
    refine HW.no ?_ ?_
    exact e17
    refine HW.skip ?_
    -- region 5
    repeat refine HW.seq ?_
    refine HW.region ?_
    refine HL.still (Runs.assign rfl) ?_
    intro u2 e2
    refine HL.nil ?_
    refine HW.ret ?_
    refine RT.one rfl e2 ⟨?_, rfl⟩
    rw [val, if_neg (by omega), if_neg (by omega)]
    rfl
theorem digit_fin : ∀ n : Fin 16, (hexd.take (n.val + 1)).drop n.val = [hx n.val] := by decide +kernel
/-- onionskinref02.digit. -/
theorem digit_ch (h : Heap) (k : Nat) (hk : k < 16) : CH Try.prog 34 #[I64 (k : Int)] h fun v h' => v = .string (strOf [hx k]) ∧ h' = h := by
  refine CH.of_body Try.func34 rfl rfl rfl ?_
  intro f hf
  have p0 : f 0 = I64 (k : Int) := by rw [hf]; exact fr0_at rfl
  -- region 0
  repeat refine HW.seq ?_
  refine HW.region ?_
  refine HL.still (Runs.assign rfl) ?_
  intro u2 e2
  refine HL.nil ?_
  -- region 1
  repeat refine HW.seq ?_
  refine HW.region ?_
  refine HL.still (Runs.move p0) ?_
  intro u3 e3
  refine HL.still (Runs.move p0) ?_
  intro u4 e4
  refine HL.still (Runs.add e4 rfl (i64w (by omega))) ?_
  intro u5 e5
  refine HL.still (Runs.sliceS (xs := hexd) (lo := k) (hi := k + 1) Try.underlying9 rfl ⟨_, e3⟩ ⟨_, e5⟩ (by omega) (by simp [hexd]; omega)) ?_
  intro u6 e6
  refine HL.still (Runs.assign e6) ?_
  intro u2 e2
  refine HL.nil ?_
  refine HW.ret ?_
  refine RT.one rfl e2 ⟨?_, rfl⟩
  rw [digit_fin ⟨k, hk⟩]
end Go.Proofs.Ytbfmkjfpialihaa
