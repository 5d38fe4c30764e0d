/- Small functions under headers: strings.TrimRight of zeros, IndexByte, HasPrefix; texts of fields; is all of a block 0? -/
import Derived.Test.YtfogkggkjmkdiaaDoorHq
namespace Go.Proofs.YtfogkggkjmkdiaaDoor
set_option linter.unnecessarySimpa false
set_option linter.unusedSimpArgs false
set_option linter.unusedVariables false
open Go.RowKit
theorem trb_ch (h : Heap) (s : List UInt8) (c : UInt8) (hs : s.length < 4611686018427387904) : CH Tryd.prog 44 #[.string (strOf s), B8 c] h fun v h' => v = .string (strOf (cutR (· == c) s)) ∧ h' = h := by
  refine CH.of_body Tryd.func44 rfl rfl rfl ?_
  intro f hf
  have p0 : f 0 = .string (strOf s) := by rw [hf]; exact fr0_at rfl
  have p1 : f 1 = B8 c := by rw [hf]; exact fr0_at rfl
  -- region 0
  repeat refine HW.seq ?_
  refine HW.region ?_
  refine HL.still (Runs.assign rfl) ?_
  intro u4 e4
  refine HL.nil ?_
  repeat refine HW.seq ?_
  refine HW.block ?_
  refine HW.loop (fun m f h' => ∃ t : List UInt8, m = t.length ∧ t.length ≤ s.length ∧ f 0 = .string (strOf t) ∧ f 1 = B8 c ∧ cutR (· == c) t = cutR (· == c) s ∧ h' = h) s.length
    ⟨s, rfl, Nat.le_refl _, p0, p1, rfl, rfl⟩ ?_
  rintro m f h' ⟨t, rfl, htl, f0, f1, ht, hh'⟩
  by_cases hpos : 0 < t.length
  · have hsp := last_split t hpos
    by_cases hc : t.getD (t.length - 1) 0 = c
    · skip
      -- region 1
      repeat refine HW.seq ?_
      refine HW.region ?_
      refine HL.still (Runs.move f0) ?_
      intro u5 e5
      refine HL.still (Runs.lenS rfl Tryd.underlying9 e5) ?_
      intro u6 e6
      refine HL.still (Runs.gtr e6 rfl (t := true) (decide_eq_true (by omega))) ?_
      intro u7 e7
      refine HL.still (Runs.move e7) ?_
      intro u8 e8
      refine HL.stillG rfl rfl e8 (Runs.move f0) ?_
      intro u9 e9
      refine HL.stillG rfl rfl e8 (Runs.move f0) ?_
      intro u10 e10
      refine HL.stillG rfl rfl e8 (Runs.lenS rfl Tryd.underlying9 e10) ?_
      intro u11 e11
      refine HL.stillG rfl rfl e8 (Runs.sub e11 rfl (i64w (by omega))) ?_
      intro u12 e12
      refine HL.stillG rfl rfl e8 (Runs.ixS Tryd.underlying9 e9 e12 (j := t.length - 1) (by omega) (get_of_lt (by omega))) ?_
      intro u13 e13
      refine HL.stillG rfl rfl e8 (Runs.move f1) ?_
      intro u14 e14
      refine HL.stillG rfl rfl e8 (Runs.eql e13 e14 (t := true) (by rw [hc]; simp)) ?_
      intro u15 e15
      refine HL.still (Runs.pick e8 e15) ?_
      intro u16 e16
      refine HL.nil ?_
      repeat refine HW.seq ?_
      refine HW.yes ?_ ?_
      exact e16
      refine HW.skip ?_
      repeat refine HW.seq ?_
      refine HW.block ?_
      -- region 2
      repeat refine HW.seq ?_
      refine HW.region ?_
      refine HL.still (Runs.move f0) ?_
      intro u17 e17
      refine HL.still (Runs.move f0) ?_
      intro u18 e18
      refine HL.still (Runs.lenS rfl Tryd.underlying9 e18) ?_
      intro u19 e19
      refine HL.still (Runs.sub e19 rfl (i64w (by omega))) ?_
      intro u20 e20
      refine HL.still (Runs.sliceS Tryd.underlying9 e17 (lo := 0) (hi := t.length - 1) rfl ⟨_, e20.trans (congrArg (Value.int .i64) (by omega))⟩ (Nat.zero_le _) (by omega)) ?_
      intro u21 e21
      refine HL.still (Runs.assign e21) ?_
      intro u0 e0
      refine HL.nil ?_
      rw [List.drop_zero] at e0
      refine ⟨(t.take (t.length - 1)).length, by simp; omega, _, rfl, by simp; omega, e0, f1, ?_, hh'⟩
      rw [← ht]
      conv => rhs; rw [hsp]
      exact (cutR_yes _ _ _ (by simpa using hc)).symm
    · skip
      have hcn : ((t.getD (t.length - 1) 0).toNat : Int) ≠ (c.toNat : Int) := fun e => hc (UInt8.toNat_inj.1 (by omega))
      -- region 1
      repeat refine HW.seq ?_
      refine HW.region ?_
      refine HL.still (Runs.move f0) ?_
      intro u5 e5
      refine HL.still (Runs.lenS rfl Tryd.underlying9 e5) ?_
      intro u6 e6
      refine HL.still (Runs.gtr e6 rfl (t := true) (decide_eq_true (by omega))) ?_
      intro u7 e7
      refine HL.still (Runs.move e7) ?_
      intro u8 e8
      refine HL.stillG rfl rfl e8 (Runs.move f0) ?_
      intro u9 e9
      refine HL.stillG rfl rfl e8 (Runs.move f0) ?_
      intro u10 e10
      refine HL.stillG rfl rfl e8 (Runs.lenS rfl Tryd.underlying9 e10) ?_
      intro u11 e11
      refine HL.stillG rfl rfl e8 (Runs.sub e11 rfl (i64w (by omega))) ?_
      intro u12 e12
      refine HL.stillG rfl rfl e8 (Runs.ixS Tryd.underlying9 e9 e12 (j := t.length - 1) (by omega) (get_of_lt (by omega))) ?_
      intro u13 e13
      refine HL.stillG rfl rfl e8 (Runs.move f1) ?_
      intro u14 e14
      refine HL.stillG rfl rfl e8 (Runs.eql e13 e14 (t := false) (by simpa using hcn)) ?_
      intro u15 e15
      refine HL.still (Runs.pick e8 e15) ?_
      intro u16 e16
      refine HL.nil ?_
      repeat refine HW.seq ?_
      refine HW.no ?_ ?_
      exact e16
      refine HW.exitHere ?_
      -- region 3
      repeat refine HW.seq ?_
      refine HW.region ?_
      refine HL.still (Runs.move f0) ?_
      intro u22 e22
      refine HL.still (Runs.assign e22) ?_
      intro u4 e4
      refine HL.nil ?_
      refine HW.ret ?_
      refine RT.one rfl e4 ⟨?_, hh'⟩
      rw [← ht, hsp, cutR_no _ _ _ (by simpa using hc)]
  · skip
    -- region 1
    repeat refine HW.seq ?_
    refine HW.region ?_
    refine HL.still (Runs.move f0) ?_
    intro u5 e5
    refine HL.still (Runs.lenS rfl Tryd.underlying9 e5) ?_
    intro u6 e6
    refine HL.still (Runs.gtr e6 rfl (t := false) (decide_eq_false (by omega))) ?_
    intro u7 e7
    refine HL.still (Runs.move e7) ?_
    intro u8 e8
    refine HL.skipG rfl rfl e8 ?_
    intro u9 e9
    refine HL.skipG rfl rfl e8 ?_
    intro u10 e10
    refine HL.skipG rfl rfl e8 ?_
    intro u11 e11
    refine HL.skipG rfl rfl e8 ?_
    intro u12 e12
    refine HL.skipG rfl rfl e8 ?_
    intro u13 e13
    refine HL.skipG rfl rfl e8 ?_
    intro u14 e14
    refine HL.skipG rfl rfl e8 ?_
    intro u15 e15
    refine HL.still (Runs.pick e8 rfl) ?_
    intro u16 e16
    refine HL.nil ?_
    repeat refine HW.seq ?_
    refine HW.no ?_ ?_
    exact e16
    refine HW.exitHere ?_
    -- region 3
    repeat refine HW.seq ?_
    refine HW.region ?_
    refine HL.still (Runs.move f0) ?_
    intro u22 e22
    refine HL.still (Runs.assign e22) ?_
    intro u4 e4
    refine HL.nil ?_
    refine HW.ret ?_
    refine RT.one rfl e4 ⟨?_, hh'⟩
    rw [← ht]
    have : t = [] := List.length_eq_zero_iff.1 (by omega)
    subst this
    rfl
set_option maxRecDepth 10000 in
/-- strings.TrimRight(s, "\\x00"). -/
theorem trimZ_ch (h : Heap) (s : List UInt8) (hs : s.length < 4611686018427387904) : CH Tryd.prog 29 #[.string (strOf s), .string (strOf [0])] h fun v h' => v = .string (strOf (cutR isZ s)) ∧ h' = h := by
  refine CH.of_body Tryd.func29 rfl rfl rfl ?_
  intro f hf
  have p0 : f 0 = .string (strOf s) := by rw [hf]; exact fr0_at rfl
  have p1 : f 1 = .string (strOf [0]) := by rw [hf]; exact fr0_at rfl
  -- region 0
  repeat refine HW.seq ?_
  refine HW.region ?_
  refine HL.still (Runs.assign rfl) ?_
  intro u4 e4
  refine HL.nil ?_
  by_cases hn : s = []
  · subst hn
    -- region 1
    repeat refine HW.seq ?_
    refine HW.region ?_
    refine HL.still (Runs.move p0) ?_
    intro u7 e7
    refine HL.still (Runs.eqS e7 rfl (ys := []) (t := true) rfl) ?_
    intro u8 e8
    refine HL.still (Runs.move e8) ?_
    intro u9 e9
    refine HL.skipG rfl rfl e9 ?_
    intro u10 e10
    refine HL.skipG rfl rfl e9 ?_
    intro u11 e11
    refine HL.still (Runs.pick e9 rfl) ?_
    intro u12 e12
    refine HL.nil ?_
    repeat refine HW.seq ?_
    refine HW.yes ?_ ?_
    exact e12
    -- region 2
    repeat refine HW.seq ?_
    refine HW.region ?_
    refine HL.still (Runs.move p0) ?_
    intro u13 e13
    refine HL.still (Runs.assign e13) ?_
    intro u4 e4
    refine HL.nil ?_
    refine HW.ret ?_
    exact RT.one rfl e4 ⟨rfl, rfl⟩
  · skip
    -- region 1
    repeat refine HW.seq ?_
    refine HW.region ?_
    refine HL.still (Runs.move p0) ?_
    intro u7 e7
    refine HL.still (Runs.eqS e7 rfl (ys := []) (t := false) (by simpa using hn)) ?_
    intro u8 e8
    refine HL.still (Runs.move e8) ?_
    intro u9 e9
    refine HL.stillG rfl rfl e9 (Runs.move p1) ?_
    intro u10 e10
    refine HL.stillG rfl rfl e9 (Runs.eqS e10 rfl (ys := []) (t := false) rfl) ?_
    intro u11 e11
    refine HL.still (Runs.pick e9 e11) ?_
    intro u12 e12
    refine HL.nil ?_
    repeat refine HW.seq ?_
    refine HW.no ?_ ?_
    exact e12
    refine HW.skip ?_
    -- region 3
    repeat refine HW.seq ?_
    refine HW.region ?_
    refine HL.still (Runs.move p1) ?_
    intro u14 e14
    refine HL.still (Runs.lenS rfl Tryd.underlying9 e14) ?_
    intro u15 e15
    refine HL.still (Runs.eql e15 rfl (t := true) rfl) ?_
    intro u16 e16
    refine HL.still (Runs.move e16) ?_
    intro u17 e17
    refine HL.stillG rfl rfl e17 (Runs.move p1) ?_
    intro u18 e18
    refine HL.stillG rfl rfl e17 (Runs.ixS Tryd.underlying9 e18 rfl (j := 0) rfl rfl) ?_
    intro u19 e19
    refine HL.stillG rfl rfl e17 (Runs.lss e19 rfl (t := true) rfl) ?_
    intro u20 e20
    refine HL.still (Runs.pick e17 e20) ?_
    intro u21 e21
    refine HL.nil ?_
    repeat refine HW.seq ?_
    refine HW.yes ?_ ?_
    exact e21
    -- region 4
    repeat refine HW.seq ?_
    refine HW.region ?_
    refine HL.still (Runs.move p0) ?_
    intro u22 e22
    refine HL.still (Runs.move p1) ?_
    intro u23 e23
    refine HL.still (Runs.ixS Tryd.underlying9 e23 rfl (j := 0) rfl rfl) ?_
    intro u24 e24
    refine HL.one (HO.call Tryd.func44 bd44 nm44 (args2 e22 e24) rfl ((trb_ch _ s 0 hs).mono ?_))
    rintro _ hq ⟨rfl, hhq⟩
    intro u25 e25
    refine HL.still (Runs.assign e25) ?_
    intro u4 e4
    refine HL.nil ?_
    refine HW.ret ?_
    exact RT.one rfl e4 ⟨rfl, hhq⟩
theorem idx0_ch (h : Heap) (s : List UInt8) (c : UInt8) : CH Tryd.prog 58 #[.string (strOf s), B8 c] h fun v h' => v = I64 (Go.Lib.indexByte s c) ∧ h' = h := by
  refine CH.of_body Tryd.func58 rfl rfl rfl ?_
  intro f hf
  have p0 : f 0 = .string (strOf s) := by rw [hf]; exact fr0_at rfl
  have p1 : f 1 = B8 c := by rw [hf]; exact fr0_at rfl
  have hr : ∀ w : World, (Extern.BytealgIndexByte.indexByte #[.string (strOf s), B8 c]).run Tryd.prog w = .ok (I64 (Go.Lib.indexByte s c)) w := fun w => by
    have := Go.Lib.run_indexByteString (P := Tryd.prog) (strOf s) (c.toNat : Int) w
    simpa [strOf] using this
  -- region 0
  repeat refine HW.seq ?_
  refine HW.region ?_
  refine HL.still (Runs.assign rfl) ?_
  intro u4 e4
  refine HL.nil ?_
  -- region 1
  repeat refine HW.seq ?_
  refine HW.region ?_
  refine HL.still (Runs.move p0) ?_
  intro u5 e5
  refine HL.still (Runs.move p1) ?_
  intro u6 e6
  refine HL.still (Runs.extern Tryd.func62 nx62 bx62 ex62 fx62 (args2 e5 e6) rfl hr) ?_
  intro u7 e7
  refine HL.still (Runs.assign e7) ?_
  intro u4 e4
  refine HL.nil ?_
  refine HW.ret ?_
  exact RT.one rfl e4 ⟨rfl, rfl⟩
/-- strings.IndexByte. -/
theorem idx_ch (h : Heap) (s : List UInt8) (c : UInt8) : CH Tryd.prog 52 #[.string (strOf s), B8 c] h fun v h' => v = I64 (Go.Lib.indexByte s c) ∧ h' = h := by
  refine CH.of_body Tryd.func52 rfl rfl rfl ?_
  intro f hf
  have p0 : f 0 = .string (strOf s) := by rw [hf]; exact fr0_at rfl
  have p1 : f 1 = B8 c := by rw [hf]; exact fr0_at rfl
  -- region 0
  repeat refine HW.seq ?_
  refine HW.region ?_
  refine HL.still (Runs.assign rfl) ?_
  intro u4 e4
  refine HL.nil ?_
  -- region 1
  repeat refine HW.seq ?_
  refine HW.region ?_
  refine HL.still (Runs.move p0) ?_
  intro u5 e5
  refine HL.still (Runs.move p1) ?_
  intro u6 e6
  refine HL.one (HO.call Tryd.func58 bd58 nm58 (args2 e5 e6) rfl ((idx0_ch h s c).mono ?_))
  rintro _ _ ⟨rfl, rfl⟩
  intro u7 e7
  refine HL.still (Runs.assign e7) ?_
  intro u4 e4
  refine HL.nil ?_
  refine HW.ret ?_
  exact RT.one rfl e4 ⟨rfl, rfl⟩
theorem prefix0_ch (h : Heap) (s p : List UInt8) : CH Tryd.prog 51 #[.string (strOf s), .string (strOf p)] h fun v h' => v = .bool (decide (p.length ≤ s.length) && s.take p.length == p) ∧ h' = h := by
  refine CH.of_body Tryd.func51 rfl rfl rfl ?_
  intro f hf
  have p0 : f 0 = .string (strOf s) := by rw [hf]; exact fr0_at rfl
  have p1 : f 1 = .string (strOf p) := by rw [hf]; exact fr0_at rfl
  -- region 0
  repeat refine HW.seq ?_
  refine HW.region ?_
  refine HL.still (Runs.assign rfl) ?_
  intro u4 e4
  refine HL.nil ?_
  by_cases hl : p.length ≤ s.length
  · skip
    -- region 1
    repeat refine HW.seq ?_
    refine HW.region ?_
    refine HL.still (Runs.move p0) ?_
    intro u5 e5
    refine HL.still (Runs.lenS rfl Tryd.underlying9 e5) ?_
    intro u6 e6
    refine HL.still (Runs.move p1) ?_
    intro u7 e7
    refine HL.still (Runs.lenS rfl Tryd.underlying9 e7) ?_
    intro u8 e8
    refine HL.still (Runs.geq e6 e8 (t := true) (decide_eq_true (by omega))) ?_
    intro u9 e9
    refine HL.still (Runs.move e9) ?_
    intro u10 e10
    refine HL.stillG rfl rfl e10 (Runs.move p0) ?_
    intro u11 e11
    refine HL.stillG rfl rfl e10 (Runs.move p1) ?_
    intro u12 e12
    refine HL.stillG rfl rfl e10 (Runs.lenS rfl Tryd.underlying9 e12) ?_
    intro u13 e13
    refine HL.stillG rfl rfl e10 (Runs.sliceS Tryd.underlying9 e11 rfl ⟨_, e13⟩ (Nat.zero_le _) hl) ?_
    intro u14 e14
    refine HL.stillG rfl rfl e10 (Runs.move p1) ?_
    intro u15 e15
    refine HL.stillG rfl rfl e10 (Runs.eqS e14 e15 rfl) ?_
    intro u16 e16
    refine HL.still (Runs.pick e10 e16) ?_
    intro u17 e17
    refine HL.still (Runs.assign e17) ?_
    intro u4 e4
    refine HL.nil ?_
    refine HW.ret ?_
    refine RT.one rfl e4 ⟨?_, rfl⟩
    simp [hl]
  · skip
    -- region 1
    repeat refine HW.seq ?_
    refine HW.region ?_
    refine HL.still (Runs.move p0) ?_
    intro u5 e5
    refine HL.still (Runs.lenS rfl Tryd.underlying9 e5) ?_
    intro u6 e6
    refine HL.still (Runs.move p1) ?_
    intro u7 e7
    refine HL.still (Runs.lenS rfl Tryd.underlying9 e7) ?_
    intro u8 e8
    refine HL.still (Runs.geq e6 e8 (t := false) (decide_eq_false (by omega))) ?_
    intro u9 e9
    refine HL.still (Runs.move e9) ?_
    intro u10 e10
    refine HL.skipG rfl rfl e10 ?_
    intro u11 e11
    refine HL.skipG rfl rfl e10 ?_
    intro u12 e12
    refine HL.skipG rfl rfl e10 ?_
    intro u13 e13
    refine HL.skipG rfl rfl e10 ?_
    intro u14 e14
    refine HL.skipG rfl rfl e10 ?_
    intro u15 e15
    refine HL.skipG rfl rfl e10 ?_
    intro u16 e16
    refine HL.still (Runs.pick e10 rfl) ?_
    intro u17 e17
    refine HL.still (Runs.assign e17) ?_
    intro u4 e4
    refine HL.nil ?_
    refine HW.ret ?_
    refine RT.one rfl e4 ⟨?_, rfl⟩
    simp [hl]
theorem prefix_ch (h : Heap) (s p : List UInt8) : CH Tryd.prog 35 #[.string (strOf s), .string (strOf p)] h fun v h' => v = .bool (decide (p.length ≤ s.length) && s.take p.length == p) ∧ h' = h := by
  refine CH.of_body Tryd.func35 rfl rfl rfl ?_
  intro f hf
  have p0 : f 0 = .string (strOf s) := by rw [hf]; exact fr0_at rfl
  have p1 : f 1 = .string (strOf p) := by rw [hf]; exact fr0_at rfl
  -- region 0
  repeat refine HW.seq ?_
  refine HW.region ?_
  refine HL.still (Runs.assign rfl) ?_
  intro u4 e4
  refine HL.nil ?_
  -- region 1
  repeat refine HW.seq ?_
  refine HW.region ?_
  refine HL.still (Runs.move p0) ?_
  intro u5 e5
  refine HL.still (Runs.move p1) ?_
  intro u6 e6
  refine HL.one (HO.call Tryd.func51 bd51 nm51 (args2 e5 e6) rfl ((prefix0_ch h s p).mono ?_))
  rintro _ _ ⟨rfl, rfl⟩
  intro u7 e7
  refine HL.still (Runs.assign e7) ?_
  intro u4 e4
  refine HL.nil ?_
  refine HW.ret ?_
  exact RT.one rfl e4 ⟨rfl, rfl⟩
theorem idx_not (s : List UInt8) (c : UInt8) : decide (Go.Lib.indexByte s c < 0) = !s.contains c := by
  rw [Go.Lib.contains_iff_indexByte, ← decide_not]
  apply decide_eq_decide.2
  omega
theorem idx_yes (s : List UInt8) (c : UInt8) : decide (Go.Lib.indexByte s c ≥ 0) = s.contains c := by
  rw [Go.Lib.contains_iff_indexByte]
theorem text_ch (h : Heap) (xs : List UInt8) (a : Option Addr) (cap : Nat) (hsrc : Byt h a xs) (hlen : xs.length < 4611686018427387904) : CH Tryd.prog 36 #[.slice a xs.length cap] h fun v h' => v = .tuple #[.string (strOf (textO xs).1), .bool (textO xs).2] ∧ h' = h := by
  refine CH.of_body Tryd.func36 rfl rfl rfl ?_
  intro f hf
  have p0 : f 0 = .slice a xs.length cap := by rw [hf]; exact fr0_at rfl
  -- region 0
  repeat refine HW.seq ?_
  refine HW.region ?_
  refine HL.still (Runs.assign rfl) ?_
  intro u2 e2
  refine HL.still (Runs.assign rfl) ?_
  intro u3 e3
  refine HL.nil ?_
  -- region 1
  repeat refine HW.seq ?_
  refine HW.region ?_
  refine HL.still (Runs.move p0) ?_
  intro u5 e5
  refine HL.still (Runs.toStrB Tryd.underlying22 Tryd.underlying5 Tryd.underlying9 e5 rfl hsrc) ?_
  intro u6 e6
  refine HL.one (HO.call Tryd.func29 bd29 nm29 (args2 e6 rfl) rfl ((trimZ_ch h xs hlen).mono ?_))
  rintro _ h1 ⟨rfl, hh1⟩
  intro u7 e7
  refine HL.still (Runs.assign e7) ?_
  intro u4 e4
  refine HL.nil ?_
  -- region 2
  repeat refine HW.seq ?_
  refine HW.region ?_
  refine HL.still (Runs.move e4) ?_
  intro u8 e8
  refine HL.still (Runs.move e4) ?_
  intro u9 e9
  refine HL.one (HO.call Tryd.func52 bd52 nm52 (args2 e9 rfl) rfl ((idx_ch h1 (cutR isZ xs) 0).mono ?_))
  rintro _ h2 ⟨rfl, hh2⟩
  intro u10 e10
  refine HL.still (Runs.lss e10 rfl rfl) ?_
  intro u11 e11
  refine HL.still (Runs.assign e8) ?_
  intro u2 e2
  refine HL.still (Runs.assign e11) ?_
  intro u3 e3
  refine HL.nil ?_
  refine HW.ret ?_
  exact RT.two rfl e2 (e3.trans (congrArg Value.bool (idx_not _ _))) ⟨rfl, by rw [hh2, hh1]⟩
theorem long_ch (h : Heap) (s : List UInt8) (hs : s.length ≤ maxLen) : CH Tryd.prog 41 #[.string (strOf s)] h fun v h' => v = .bool (longO s) ∧ h' = h := by
  refine CH.of_body Tryd.func41 rfl rfl rfl ?_
  intro f hf
  have p0 : f 0 = .string (strOf s) := by rw [hf]; exact fr0_at rfl
  -- region 0
  repeat refine HW.seq ?_
  refine HW.region ?_
  refine HL.still (Runs.assign rfl) ?_
  intro u2 e2
  refine HL.nil ?_
  by_cases hl : s.length > 100
  · skip
    -- region 1
    repeat refine HW.seq ?_
    refine HW.region ?_
    refine HL.still (Runs.move p0) ?_
    intro u3 e3
    refine HL.still (Runs.lenS rfl Tryd.underlying9 e3) ?_
    intro u4 e4
    refine HL.still (Runs.gtr e4 rfl (t := true) (decide_eq_true (by omega))) ?_
    intro u5 e5
    refine HL.still (Runs.move e5) ?_
    intro u6 e6
    refine HL.skipG rfl rfl e6 ?_
    intro u7 e7
    refine HL.skipG rfl rfl e6 ?_
    intro u8 e8
    refine HL.skipG rfl rfl e6 ?_
    intro u9 e9
    refine HL.still (Runs.pick e6 rfl) ?_
    intro u10 e10
    refine HL.still (Runs.assign e10) ?_
    intro u2 e2
    refine HL.nil ?_
    refine HW.ret ?_
    refine RT.one rfl e2 ⟨?_, rfl⟩
    simp [longO, hl]
  · skip
    -- region 1
    repeat refine HW.seq ?_
    refine HW.region ?_
    refine HL.still (Runs.move p0) ?_
    intro u3 e3
    refine HL.still (Runs.lenS rfl Tryd.underlying9 e3) ?_
    intro u4 e4
    refine HL.still (Runs.gtr e4 rfl (t := false) (decide_eq_false (by omega))) ?_
    intro u5 e5
    refine HL.still (Runs.move e5) ?_
    intro u6 e6
    refine HL.stillG rfl rfl e6 (Runs.move p0) ?_
    intro u7 e7
    refine HL.oneG rfl rfl e6 (HO.call Tryd.func52 bd52 nm52 (args2 e7 rfl) rfl ((idx_ch h s 0).mono ?_))
    rintro _ _ ⟨rfl, rfl⟩
    intro u8 e8
    refine HL.stillG rfl rfl e6 (Runs.geq e8 rfl (idx_yes _ _)) ?_
    intro u9 e9
    refine HL.still (Runs.pick e6 e9) ?_
    intro u10 e10
    refine HL.still (Runs.assign e10) ?_
    intro u2 e2
    refine HL.nil ?_
    refine HW.ret ?_
    refine RT.one rfl e2 ⟨?_, rfl⟩
    unfold longO
    rw [decide_eq_false hl, Bool.false_or]
/-- onionskinref06.has. -/
theorem has0_ch (h : Heap) (s : List UInt8) (hs : s.length ≤ maxLen) : CH Tryd.prog 42 #[.string (strOf s)] h fun v h' => v = .bool (s.contains 0) ∧ h' = h := by
  have hs2 : s.length ≤ 9223372036854775807 := hs
  refine CH.of_body Tryd.func42 rfl rfl rfl ?_
  intro f hf
  have p0 : f 0 = .string (strOf s) := by rw [hf]; exact fr0_at rfl
  -- region 0
  repeat refine HW.seq ?_
  refine HW.region ?_
  refine HL.still (Runs.assign rfl) ?_
  intro u2 e2
  refine HL.nil ?_
  -- region 1
  repeat refine HW.seq ?_
  refine HW.region ?_
  refine HL.still (Runs.assign rfl) ?_
  intro u3 e3
  refine HL.nil ?_
  repeat refine HW.seq ?_
  refine HW.block ?_
  refine HW.loop (fun m f h' => ∃ k : Nat, k ≤ s.length ∧ m = s.length - k ∧ f 3 = I64 k ∧ f 0 = .string (strOf s) ∧ s.contains 0 = (s.drop k).contains 0 ∧ h' = h) s.length
    ⟨0, Nat.zero_le _, rfl, e3, p0, rfl, rfl⟩ ?_
  clear e2 e3
  rintro m f h' ⟨k, hk, hm, f3, f0, hs', rfl⟩
  by_cases hlt : k < s.length
  · skip
    -- region 2
    repeat refine HW.seq ?_
    refine HW.region ?_
    refine HL.still (Runs.move f3) ?_
    intro u4 e4
    refine HL.still (Runs.move f0) ?_
    intro u5 e5
    refine HL.still (Runs.lenS rfl Tryd.underlying9 e5) ?_
    intro u6 e6
    refine HL.still (Runs.lss e4 e6 rfl) ?_
    intro u7 e7
    refine HL.nil ?_
    repeat refine HW.seq ?_
    refine HW.yes ?_ ?_
    exact e7.trans (congrArg Value.bool (decide_eq_true (by omega)))
    refine HW.skip ?_
    repeat refine HW.seq ?_
    refine HW.block ?_
    rw [drop_at hlt, List.contains_cons] at hs'
    by_cases hc : s.getD k 0 = 0
    · skip
      -- region 4
      repeat refine HW.seq ?_
      refine HW.region ?_
      refine HL.still (Runs.move f0) ?_
      intro u10 e10
      refine HL.still (Runs.move f3) ?_
      intro u11 e11
      refine HL.still (Runs.ixS Tryd.underlying9 e10 e11 (j := k) rfl (get_of_lt hlt)) ?_
      intro u12 e12
      refine HL.still (Runs.eql e12 rfl (t := true) (by rw [hc]; rfl)) ?_
      intro u13 e13
      refine HL.nil ?_
      repeat refine HW.seq ?_
      refine HW.yes ?_ ?_
      exact e13
      -- region 5
      repeat refine HW.seq ?_
      refine HW.region ?_
      refine HL.still (Runs.assign rfl) ?_
      intro u2 e2
      refine HL.nil ?_
      refine HW.ret ?_
      refine RT.one rfl e2 ⟨?_, rfl⟩
      rw [hs', hc]
      rfl
    · have hcn : ((s.getD k 0).toNat : Int) ≠ 0 := by
        have := u8_ne hc
        exact this
      -- region 4
      repeat refine HW.seq ?_
      refine HW.region ?_
      refine HL.still (Runs.move f0) ?_
      intro u10 e10
      refine HL.still (Runs.move f3) ?_
      intro u11 e11
      refine HL.still (Runs.ixS Tryd.underlying9 e10 e11 (j := k) rfl (get_of_lt hlt)) ?_
      intro u12 e12
      refine HL.still (Runs.eql e12 rfl (t := false) (by simpa using hcn)) ?_
      intro u13 e13
      refine HL.nil ?_
      repeat refine HW.seq ?_
      refine HW.no ?_ ?_
      exact e13
      refine HW.skip ?_
      -- region 3
      repeat refine HW.seq ?_
      refine HW.region ?_
      refine HL.still (Runs.move f3) ?_
      intro u8 e8
      refine HL.still (Runs.add e8 rfl (i64w (by omega))) ?_
      intro u9 e9
      refine HL.still (Runs.assign e9) ?_
      intro u3 e3
      refine HL.nil ?_
      refine ⟨s.length - (k + 1), by omega, k + 1, by omega, rfl, e3, f0, ?_, rfl⟩
      rw [hs', show ((0 : UInt8) == s.getD k 0) = false by rw [beq_eq_false_iff_ne]; exact fun e => hc e.symm, Bool.false_or]
  · have : s.drop k = [] := List.drop_of_length_le (by omega)
    rw [this] at hs'
    -- region 2
    repeat refine HW.seq ?_
    refine HW.region ?_
    refine HL.still (Runs.move f3) ?_
    intro u4 e4
    refine HL.still (Runs.move f0) ?_
    intro u5 e5
    refine HL.still (Runs.lenS rfl Tryd.underlying9 e5) ?_
    intro u6 e6
    refine HL.still (Runs.lss e4 e6 rfl) ?_
    intro u7 e7
    refine HL.nil ?_
    repeat refine HW.seq ?_
    refine HW.no ?_ ?_
    exact e7.trans (congrArg Value.bool (decide_eq_false (by omega)))
    refine HW.exitHere ?_
    -- region 6
    repeat refine HW.seq ?_
    refine HW.region ?_
    refine HL.still (Runs.assign rfl) ?_
    intro u2 e2
    refine HL.nil ?_
    refine HW.ret ?_
    refine RT.one rfl e2 ⟨?_, rfl⟩
    rw [hs']
    rfl
end Go.Proofs.YtfogkggkjmkdiaaDoor
