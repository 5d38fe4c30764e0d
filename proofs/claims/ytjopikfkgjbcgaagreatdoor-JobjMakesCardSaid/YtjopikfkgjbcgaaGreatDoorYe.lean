/- Four hexadecimal digits, and what stands behind a backslash: onionskinref10.hex, escape. -/
import Derived.Test.YtjopikfkgjbcgaaGreatDoorYb
import Derived.Test.YtjopikfkgjbcgaaGreatDoorOr
namespace Go.Proofs.YtjopikfkgjbcgaaGreatDoor
set_option linter.unnecessarySimpa false
set_option linter.unusedSimpArgs false
set_option linter.unusedVariables false
open Go.RowKit
theorem hexd_val : ∀ d, d < 16 → (hexd d).toNat = if d < 10 then 48 + d else 87 + d := by decide
def hv (ds : List Nat) : Nat → Nat
  | 0 => 0
  | i + 1 => 16 * hv ds i + ds.getD i 0
set_option maxRecDepth 10000 in
set_option maxHeartbeats 1000000 in
theorem hex_ch (h : Heap) (s : List UInt8) (ds : List Nat) (hl : 4 ≤ s.length) (hs : s.length ≤ 100000) (hd : ∀ i, i < 4 → ds.getD i 0 < 16 ∧ s[i]? = some (hexd (ds.getD i 0))) : CH Tryz.prog 72 #[.string (strOf s)] h fun v h' => v = I64 (hv ds 4 : Nat) ∧ h = h' := by
  refine CH.of_body Tryz.func72 rfl rfl rfl ?_
  intro f hf
  have p0 : f 0 = .string (strOf s) := by rw [hf]; exact fr0_at rfl
  -- region 0
  repeat refine HW.seq ?_
  refine HW.region ?_
  refine HL.still (Runs.assign rfl) ?_
  intro u2 e2
  refine HL.nil ?_
  -- region 1
  repeat refine HW.seq ?_
  refine HW.region ?_
  refine HL.still (Runs.move p0) ?_
  intro u6 e6
  refine HL.still (Runs.lenS rfl Tryz.underlying9 e6) ?_
  intro u7 e7
  refine HL.still (Runs.lss e7 rfl (t := false) (decide_eq_false (by omega))) ?_
  intro u8 e8
  refine HL.nil ?_
  refine HW.no e8 ?_
  refine HW.skip ?_
  -- region 3
  repeat refine HW.seq ?_
  refine HW.region ?_
  refine HL.still (Runs.assign rfl) ?_
  intro u3 e3
  refine HL.nil ?_
  -- region 4
  repeat refine HW.seq ?_
  refine HW.region ?_
  refine HL.still (Runs.assign rfl) ?_
  intro u4 e4
  refine HL.nil ?_
  repeat refine HW.seq ?_
  refine HW.block ?_
  refine HW.loop (fun m f u => ∃ i : Nat, i ≤ 4 ∧ m = 4 - i ∧ f 4 = I64 i ∧ f 3 = I64 (hv ds i : Nat) ∧ hv ds i < 16 ^ i ∧ f 0 = .string (strOf s) ∧ h = u) 4
    ⟨0, Nat.zero_le _, rfl, e4, e3, (show 0 < 16 ^ 0 by decide), p0, rfl⟩ ?_
  clear e2 e3 e4 p0 e8
  rintro m f u ⟨i, hi, hm, f4, f3, hlt16, f0, rfl⟩
  by_cases hlt : i < 4
  · obtain ⟨hd16, hget⟩ := hd i hlt
    obtain ⟨d, hdE⟩ : ∃ d, d = ds.getD i 0 := ⟨_, rfl⟩
    rw [← hdE] at hd16 hget
    have hval := hexd_val d hd16
    have hn : hv ds i < 65536 := by
      have : (16 : Nat) ^ i ≤ 16 ^ 4 := Nat.pow_le_pow_right (by decide) (by omega)
      omega
    have hsucc : hv ds (i + 1) = 16 * hv ds i + d := by rw [hdE]; rfl
    have hpw : hv ds (i + 1) < 16 ^ (i + 1) := by rw [hsucc, Nat.pow_succ]; omega
    -- region 5
    repeat refine HW.seq ?_
    refine HW.region ?_
    refine HL.still (Runs.move f4) ?_
    intro u9 e9
    refine HL.still (Runs.lss e9 rfl rfl) ?_
    intro u10 e10
    refine HL.nil ?_
    repeat refine HW.seq ?_
    refine HW.yes ?_ ?_
    exact e10.trans (congrArg Value.bool (decide_eq_true (by omega)))
    refine HW.skip ?_
    repeat refine HW.seq ?_
    refine HW.block ?_
    -- region 7
    repeat refine HW.seq ?_
    refine HW.region ?_
    refine HL.still (Runs.move f0) ?_
    intro u13 e13
    refine HL.still (Runs.move f4) ?_
    intro u14 e14
    refine HL.still (Runs.ixS Tryz.underlying9 e13 e14 (j := i) rfl hget) ?_
    intro u15 e15
    refine HL.still (Runs.assign e15) ?_
    intro u5 e5
    refine HL.nil ?_
    have g5 := e5
    repeat refine HW.seq ?_
    refine HW.block ?_
    by_cases h10 : d < 10
    · rw [if_pos h10] at hval
      -- region 9
      repeat refine HW.seq ?_
      refine HW.region ?_
      refine HL.still (Runs.move g5) ?_
      intro u17 e17
      refine HL.still (Runs.geq e17 rfl (t := true) (decide_eq_true (by omega))) ?_
      intro u18 e18
      refine HL.still (Runs.move e18) ?_
      intro u19 e19
      refine HL.stillG rfl rfl e19 (Runs.move g5) ?_
      intro u20 e20
      refine HL.stillG rfl rfl e19 (Runs.leq e20 rfl (t := true) (decide_eq_true (by omega))) ?_
      intro u21 e21
      refine HL.still (Runs.pick e19 e21) ?_
      intro u22 e22
      refine HL.still (Runs.assign e22) ?_
      intro u16 e16
      refine HL.nil ?_
      refine HW.yes e16 ?_
      -- region 10
      repeat refine HW.seq ?_
      refine HW.region ?_
      refine HL.still (Runs.move f3) ?_
      intro u23 e23
      refine HL.still (Runs.mul rfl e23 (i64w (by omega))) ?_
      intro u24 e24
      refine HL.still (Runs.move g5) ?_
      intro u25 e25
      refine HL.still (Runs.sub e25 rfl (u8w (by omega))) ?_
      intro u26 e26
      refine HL.still (Runs.conv Tryz.underlying5 Tryz.underlying3 e26 (i64w (by omega))) ?_
      intro u27 e27
      refine HL.still (Runs.add e24 e27 (i64w (by omega))) ?_
      intro u28 e28
      refine HL.still (Runs.assign e28) ?_
      intro u3 e3
      refine HL.nil ?_
      have g3 : u3 = I64 (hv ds (i + 1) : Nat) := e3.trans (congrArg (Value.int .i64) (by omega))
      -- region 6
      repeat refine HW.seq ?_
      refine HW.region ?_
      refine HL.still (Runs.move f4) ?_
      intro u11 e11
      refine HL.still (Runs.add e11 rfl (i64w (by omega))) ?_
      intro u12 e12
      refine HL.still (Runs.assign e12) ?_
      intro u4 e4
      refine HL.nil ?_
      exact ⟨4 - (i + 1), by omega, i + 1, by omega, rfl, e4, g3, hpw, f0, rfl⟩
    · rw [if_neg h10] at hval
      -- region 9
      repeat refine HW.seq ?_
      refine HW.region ?_
      refine HL.still (Runs.move g5) ?_
      intro u17 e17
      refine HL.still (Runs.geq e17 rfl (t := true) (decide_eq_true (by omega))) ?_
      intro u18 e18
      refine HL.still (Runs.move e18) ?_
      intro u19 e19
      refine HL.stillG rfl rfl e19 (Runs.move g5) ?_
      intro u20 e20
      refine HL.stillG rfl rfl e19 (Runs.leq e20 rfl (t := false) (decide_eq_false (by omega))) ?_
      intro u21 e21
      refine HL.still (Runs.pick e19 e21) ?_
      intro u22 e22
      refine HL.still (Runs.assign e22) ?_
      intro u16 e16
      refine HL.nil ?_
      refine HW.no e16 ?_
      repeat refine HW.seq ?_
      -- region 11
      repeat refine HW.seq ?_
      refine HW.region ?_
      refine HL.still (Runs.move g5) ?_
      intro u30 e30
      refine HL.still (Runs.geq e30 rfl (t := true) (decide_eq_true (by omega))) ?_
      intro u31 e31
      refine HL.still (Runs.move e31) ?_
      intro u32 e32
      refine HL.stillG rfl rfl e32 (Runs.move g5) ?_
      intro u33 e33
      refine HL.stillG rfl rfl e32 (Runs.leq e33 rfl (t := true) (decide_eq_true (by omega))) ?_
      intro u34 e34
      refine HL.still (Runs.pick e32 e34) ?_
      intro u35 e35
      refine HL.still (Runs.assign e35) ?_
      intro u29 e29
      refine HL.nil ?_
      refine HW.yes e29 ?_
      -- region 12
      repeat refine HW.seq ?_
      refine HW.region ?_
      refine HL.still (Runs.move f3) ?_
      intro u36 e36
      refine HL.still (Runs.mul rfl e36 (i64w (by omega))) ?_
      intro u37 e37
      refine HL.still (Runs.move g5) ?_
      intro u38 e38
      refine HL.still (Runs.sub e38 rfl (u8w (by omega))) ?_
      intro u39 e39
      refine HL.still (Runs.conv Tryz.underlying5 Tryz.underlying3 e39 (i64w (by omega))) ?_
      intro u40 e40
      refine HL.still (Runs.add e37 e40 (i64w (by omega))) ?_
      intro u41 e41
      refine HL.still (Runs.add e41 rfl (i64w (by omega))) ?_
      intro u42 e42
      refine HL.still (Runs.assign e42) ?_
      intro u3 e3
      refine HL.nil ?_
      have g3 : u3 = I64 (hv ds (i + 1) : Nat) := e3.trans (congrArg (Value.int .i64) (by omega))
      -- region 6
      repeat refine HW.seq ?_
      refine HW.region ?_
      refine HL.still (Runs.move f4) ?_
      intro u11 e11
      refine HL.still (Runs.add e11 rfl (i64w (by omega))) ?_
      intro u12 e12
      refine HL.still (Runs.assign e12) ?_
      intro u4 e4
      refine HL.nil ?_
      exact ⟨4 - (i + 1), by omega, i + 1, by omega, rfl, e4, g3, hpw, f0, rfl⟩
  · have hi4 : i = 4 := by omega
    subst hi4
    -- region 5
    repeat refine HW.seq ?_
    refine HW.region ?_
    refine HL.still (Runs.move f4) ?_
    intro u9 e9
    refine HL.still (Runs.lss e9 rfl rfl) ?_
    intro u10 e10
    refine HL.nil ?_
    repeat refine HW.seq ?_
    refine HW.no ?_ ?_
    exact e10.trans (congrArg Value.bool (decide_eq_false (by omega)))
    refine HW.exitHere ?_
    -- region 15
    repeat refine HW.seq ?_
    refine HW.region ?_
    refine HL.still (Runs.move f3) ?_
    intro u57 e57
    refine HL.still (Runs.assign e57) ?_
    intro u2 e2
    refine HL.nil ?_
    refine HW.ret ?_
    exact RT.one rfl e2 ⟨rfl, rfl⟩
def sg8 : List UInt8 := [98, 116, 110, 102, 114, 34, 47, 92]
def m8 : List UInt8 := [8, 9, 10, 12, 13, 34, 47, 92]
theorem sg8_inj : ∀ i, i < 8 → ∀ j, j < 8 → sg8.getD i 0 = sg8.getD j 0 → i = j := by decide
theorem sg8_u : ∀ i, i < 8 → sg8.getD i 0 ≠ 117 := by decide
theorem m8_lt : ∀ i, i < 8 → (m8.getD i 0).toNat < 128 := by decide
/-- What stands behind a backslash: a sign, or a number below 80. -/
def EscR (x : List UInt8) (res : List UInt8) (k : Nat) : Prop :=
  (∃ i, i < 8 ∧ x[0]? = some (sg8.getD i 0) ∧ res = [m8.getD i 0] ∧ k = 1) ∨
  (∃ (ds : List Nat) (r : List UInt8), (∀ i, i < 4 → ds.getD i 0 < 16) ∧ hv ds 4 < 128 ∧ x = 117 :: ((List.range 4).map (fun i => hexd (ds.getD i 0)) ++ r) ∧ res = [UInt8.ofNat (hv ds 4)] ∧ k = 5)
def I8 (c : UInt8) : Value := I64 (c.toNat : Nat)
theorem sz100 : (Tryz.prog.info? 100).map (·.size) = some 8 := by kernel_rfl
theorem zr100 : (Tryz.prog.info? 100).map (·.zero) = some (some (.agg ((List.replicate 8 (0 : UInt8)).map I8).toArray)) := by kernel_rfl
set_option maxRecDepth 10000 in
set_option maxHeartbeats 1000000 in
theorem escape_ch (h : Heap) (x res : List UInt8) (k : Nat) (hl : x.length ≤ 100000) (hE : EscR x res k) : CH Tryz.prog 60 #[.string (strOf x)] h fun v h' => v = .tuple #[.string (strOf res), I64 k] ∧ Ext h h' := by
  refine CH.of_body Tryz.func60 rfl rfl rfl ?_
  intro f hf
  have p0 : f 0 = .string (strOf x) := by rw [hf]; exact fr0_at rfl
  obtain ⟨b, hb⟩ : ∃ b, x[0]? = some b := by
    rcases hE with ⟨i, _, q, _⟩ | ⟨ds, r, _, _, q, _⟩
    · exact ⟨_, q⟩
    · exact ⟨117, by rw [q]; rfl⟩
  have hx0 : 0 < x.length := (List.getElem?_eq_some_iff.1 hb).1
  have hxn : x ≠ [] := List.length_pos_iff.1 hx0
  -- region 0
  repeat refine HW.seq ?_
  refine HW.region ?_
  refine HL.still (Runs.assign rfl) ?_
  intro u2 e2
  refine HL.still (Runs.assign rfl) ?_
  intro u3 e3
  refine HL.nil ?_
  -- region 1
  repeat refine HW.seq ?_
  refine HW.region ?_
  refine HL.still (Runs.move p0) ?_
  intro u9 e9
  refine HL.still (Runs.eqS e9 rfl (t := false) (by cases x with | nil => exact absurd rfl hxn | cons _ _ => rfl)) ?_
  intro u10 e10
  refine HL.nil ?_
  refine HW.no e10 ?_
  refine HW.skip ?_
  -- region 3
  repeat refine HW.seq ?_
  refine HW.region ?_
  refine HL.one (HO.bytes1 92 rfl ?_)
  intro h2 w2
  intro u11 e11
  refine HL.still (Runs.toStrB Tryz.underlying54 Tryz.underlying5 Tryz.underlying9 e11 rfl (byt_block (xs := [92]) w2.new)) ?_
  intro u12 e12
  refine HL.still (Runs.addS rfl e12 (xs := [98, 116, 110, 102, 114, 34, 47]) (ys := [92]) (by decide)) ?_
  intro u13 e13
  refine HL.still (Runs.assign e13) ?_
  intro u4 e4
  refine HL.nil ?_
  have g4 : u4 = .string (strOf sg8) := e4
  -- region 4
  repeat refine HW.seq ?_
  refine HW.region ?_
  refine HL.still (Runs.build (v := .agg (m8.map I8).toArray) (fun w => by kernel_rfl)) ?_
  intro u14 e14
  refine HL.one (HO.alloc zr100 ?_)
  intro h5 w5
  intro u5 e5
  refine HL.zero (HO.storeAll sz100 e5 e14 (one_map I8 (fun _ => rfl) _) w5.new rfl rfl ?_)
  intro h4 w4
  refine HL.nil ?_
  have X4 : Ext h h4 := (w2.ext.ext w5.ext (Nat.le_refl _)).wr w4 w2.ext.size
  have hb4 : h4[h2.size]? = some (.cells (m8.map I8).toArray 100 (0, 0)) := w4.new
  have g5 : u5 = .pointer (some ⟨h2.size, 0, none⟩) := e5
  clear w4 w5 w2
  -- region 5
  repeat refine HW.seq ?_
  refine HW.region ?_
  refine HL.still (Runs.assign rfl) ?_
  intro u6 e6
  refine HL.nil ?_
  refine HW.mono (N := fun f v => f 0 = .string (strOf x) ∧ (∀ j, j < 8 → sg8.getD j 0 ≠ b) ∧ Ext h v) ?_ ?_ (fun _ _ _ q => q) (fun _ _ q => q)
  · refine HW.block ?_
    refine HW.loop (fun m f u => ∃ i : Nat, i ≤ 8 ∧ m = 8 - i ∧ f 6 = I64 i ∧ f 0 = .string (strOf x) ∧ f 5 = .pointer (some ⟨h2.size, 0, none⟩) ∧ f 4 = .string (strOf sg8) ∧ (∀ j, j < i → sg8.getD j 0 ≠ b) ∧ h4 = u) 8
      ⟨0, Nat.zero_le _, rfl, e6, p0, g5, g4, (fun j hj => by cases hj), rfl⟩ ?_
    clear e2 e3 g4 e4 e5 g5 p0 e6 e10 e14 e13 e12 e11
    rintro m f u ⟨i, hi, hm, f6, f0, f5, f4, hno, rfl⟩
    by_cases hlt : i < 8
    · have hcell : cellH h4 h2.size i = some (I8 (m8.getD i 0)) := cellH_map (f := I8) 0 hb4 (j := i) (show i < m8.length from hlt)
      have hsg : sg8[i]? = some (sg8.getD i 0) := at8_get (show i < sg8.length from hlt)
      -- region 6
      repeat refine HW.seq ?_
      refine HW.region ?_
      refine HL.still (Runs.move f6) ?_
      intro u15 e15
      refine HL.still (Runs.lss e15 rfl rfl) ?_
      intro u16 e16
      refine HL.nil ?_
      repeat refine HW.seq ?_
      refine HW.yes ?_ ?_
      exact e16.trans (congrArg Value.bool (decide_eq_true (by omega)))
      refine HW.skip ?_
      repeat refine HW.seq ?_
      refine HW.block ?_
      by_cases heq : sg8.getD i 0 = b
      · skip
        -- region 8
        repeat refine HW.seq ?_
        refine HW.draw mixed (by kernel_rfl) ?_
        refine HS.still (Runs.move f0) ?_
        intro u19 e19
        refine HS.still (Runs.ixS Tryz.underlying9 e19 rfl (j := 0) rfl hb) ?_
        intro u20 e20
        refine HS.still (Runs.move f4) ?_
        intro u21 e21
        refine HS.still (Runs.move f6) ?_
        intro u22 e22
        refine HS.still (Runs.ixS Tryz.underlying9 e21 e22 (j := i) rfl hsg) ?_
        intro u23 e23
        refine HS.still (Runs.eql e20 e23 (t := true) (decide_eq_true (by rw [heq]))) ?_
        intro u24 e24
        refine HS.nil ?_
        refine HW.yes e24 ?_
        -- region 9
        repeat refine HW.seq ?_
        refine HW.region ?_
        refine HL.still (Runs.move f6) ?_
        intro u25 e25
        refine HL.still (Runs.ixArr (o' := i) Tryz.underlying100 sz3 f5 e25 (by omega) (by omega) (by omega)) ?_
        intro u26 e26
        refine HL.still (Runs.load Tryz.underlying3 rfl e26 hcell) ?_
        intro u27 e27
        refine HL.one (HO.call Tryz.func62 bd62 nm62 (args1 e27) rfl ((bytes1_ch h4 (m8.getD i 0) (m8_lt i hlt)).mono ?_))
        rintro _ h5 ⟨rfl, X5⟩
        intro u28 e28
        refine HL.still (Runs.assign e28) ?_
        intro u2 e2
        refine HL.still (Runs.assign rfl) ?_
        intro u3 e3
        refine HL.nil ?_
        refine HW.ret ?_
        refine RT.two rfl e2 e3 ⟨?_, X4.ext X5 (Nat.le_refl _)⟩
        rcases hE with ⟨i', hi', q, q2, q3⟩ | ⟨ds, r, _, _, q, _⟩
        · rw [hb] at q
          have := sg8_inj i hlt i' hi' (heq.trans (Option.some.inj q))
          subst this
          rw [q2, q3]
          rfl
        · rw [q] at hb
          have hb : (117 : UInt8) = b := Option.some.inj hb
          exact absurd (heq.trans hb.symm) (sg8_u i hlt)
      · skip
        -- region 8
        repeat refine HW.seq ?_
        refine HW.draw mixed (by kernel_rfl) ?_
        refine HS.still (Runs.move f0) ?_
        intro u19 e19
        refine HS.still (Runs.ixS Tryz.underlying9 e19 rfl (j := 0) rfl hb) ?_
        intro u20 e20
        refine HS.still (Runs.move f4) ?_
        intro u21 e21
        refine HS.still (Runs.move f6) ?_
        intro u22 e22
        refine HS.still (Runs.ixS Tryz.underlying9 e21 e22 (j := i) rfl hsg) ?_
        intro u23 e23
        refine HS.still (Runs.eql e20 e23 (t := false) (decide_eq_false (fun q => heq (UInt8.toNat_inj.1 (by omega))))) ?_
        intro u24 e24
        refine HS.nil ?_
        refine HW.no e24 ?_
        refine HW.skip ?_
        -- region 7
        repeat refine HW.seq ?_
        refine HW.region ?_
        refine HL.still (Runs.move f6) ?_
        intro u17 e17
        refine HL.still (Runs.add e17 rfl (i64w (by omega))) ?_
        intro u18 e18
        refine HL.still (Runs.assign e18) ?_
        intro u6 e6
        refine HL.nil ?_
        exact ⟨8 - (i + 1), by omega, i + 1, by omega, rfl, e6, f0, f5, f4, (fun j hj => by
          by_cases hji : j < i
          · exact hno j hji
          · obtain rfl : j = i := by omega
            exact heq), rfl⟩
    · have hi8 : i = 8 := by omega
      subst hi8
      -- region 6
      repeat refine HW.seq ?_
      refine HW.region ?_
      refine HL.still (Runs.move f6) ?_
      intro u15 e15
      refine HL.still (Runs.lss e15 rfl rfl) ?_
      intro u16 e16
      refine HL.nil ?_
      repeat refine HW.seq ?_
      refine HW.no ?_ ?_
      exact e16.trans (congrArg Value.bool (decide_eq_false (by omega)))
      refine HW.exitHere ?_
      exact ⟨f0, hno, X4⟩
  clear e2 e3 g4 e4 e5 g5 p0 e6 e10 e14 e13 e12 e11 X4 hb4
  rintro f v ⟨p0, hno, X4⟩
  rcases hE with ⟨i, hi, q, _⟩ | ⟨ds, r, hds, hv7, hxE, hres, hk⟩
  · rw [hb] at q
    exact absurd (Option.some.inj q).symm (hno i hi)
  have hb117 : b = 117 := by
    rw [hxE] at hb
    exact (Option.some.inj hb).symm
  subst hb117
  have hxd : (x.take x.length).drop 1 = (List.range 4).map (fun i => hexd (ds.getD i 0)) ++ r := by rw [List.take_length, hxE]; rfl
  have hxl : x.length = 5 + r.length := by rw [hxE]; simp; omega
  have hH := hex_ch v ((x.take x.length).drop 1) ds (by rw [hxd]; simp) (by simp; omega) (fun i hi => ⟨hds i hi, by
    rw [hxd, List.getElem?_append_left (by simpa using hi)]
    simp [hi]⟩)
  have hcn : (UInt8.ofNat (hv ds 4)).toNat = hv ds 4 := by rw [UInt8.toNat_ofNat']; omega
  -- region 10
  repeat refine HW.seq ?_
  refine HW.region ?_
  refine HL.still (Runs.move p0) ?_
  intro u29 e29
  refine HL.still (Runs.sliceS Tryz.underlying9 e29 (lo := 1) (hi := x.length) ⟨_, rfl⟩ rfl (by omega) (Nat.le_refl _)) ?_
  intro u30 e30
  refine HL.one (HO.call Tryz.func72 bd72 nm72 (args1 e30) rfl ((hH).mono ?_))
  rintro _ h5 ⟨rfl, rfl⟩
  intro u31 e31
  refine HL.still (Runs.assign e31) ?_
  intro u7 e7
  refine HL.nil ?_
  have g7 : u7 = I64 ((UInt8.ofNat (hv ds 4)).toNat : Nat) := e7.trans (by rw [hcn])
  -- region 11
  repeat refine HW.seq ?_
  refine HW.region ?_
  refine HL.still (Runs.move p0) ?_
  intro u32 e32
  refine HL.still (Runs.ixS Tryz.underlying9 e32 rfl (j := 0) rfl hb) ?_
  intro u33 e33
  refine HL.still (Runs.neq e33 rfl (t := false) rfl) ?_
  intro u34 e34
  refine HL.still (Runs.move e34) ?_
  intro u35 e35
  refine HL.stillG rfl rfl e35 (Runs.move g7) ?_
  intro u36 e36
  refine HL.stillG rfl rfl e35 (Runs.lss e36 rfl (t := false) (decide_eq_false (by omega))) ?_
  intro u37 e37
  refine HL.still (Runs.pick e35 e37) ?_
  intro u38 e38
  refine HL.nil ?_
  refine HW.no e38 ?_
  refine HW.skip ?_
  -- region 13
  repeat refine HW.seq ?_
  refine HW.region ?_
  refine HL.still (Runs.move g7) ?_
  intro u39 e39
  refine HL.still (Runs.lss e39 rfl (t := true) (decide_eq_true (by omega))) ?_
  intro u40 e40
  refine HL.still (Runs.move e40) ?_
  intro u41 e41
  refine HL.skipG rfl rfl e41 ?_
  intro u42 e42
  refine HL.skipG rfl rfl e41 ?_
  intro u43 e43
  refine HL.still (Runs.pick e41 rfl) ?_
  intro u44 e44
  refine HL.nil ?_
  refine HW.yes e44 ?_
  -- region 14
  repeat refine HW.seq ?_
  refine HW.region ?_
  refine HL.still (Runs.move g7) ?_
  intro u45 e45
  refine HL.one (HO.call Tryz.func62 bd62 nm62 (args1 e45) rfl ((bytes1_ch v (UInt8.ofNat (hv ds 4)) (by omega)).mono ?_))
  rintro _ h6 ⟨rfl, X6⟩
  intro u46 e46
  refine HL.still (Runs.assign e46) ?_
  intro u2 e2
  refine HL.still (Runs.assign rfl) ?_
  intro u3 e3
  refine HL.nil ?_
  refine HW.ret ?_
  exact RT.two rfl e2 e3 ⟨by rw [hres, hk]; rfl, X4.ext X6 (Nat.le_refl _)⟩
end Go.Proofs.YtjopikfkgjbcgaaGreatDoor
/-! What is quoted, unquoted again: onionskinref10.Unquote. -/
namespace Go.Proofs.YtjopikfkgjbcgaaGreatDoor
set_option linter.unnecessarySimpa false
set_option linter.unusedSimpArgs false
set_option linter.unusedVariables false
open Go.RowKit
/-- A piece as it stands, or one behind a backslash. -/
def PieceR (p o : List UInt8) : Prop :=
  (p = o ∧ 1 ≤ p.length ∧ p.length ≤ 4 ∧ (∀ D, sizeO (p ++ D) = p.length) ∧ p.getD 0 0 ≠ 34 ∧ p.getD 0 0 ≠ 92 ∧ (p.length = 1 → 32 ≤ (p.getD 0 0).toNat)) ∨
  (∃ x : List UInt8, p = 92 :: x ∧ 1 ≤ x.length ∧ x.length ≤ 5 ∧ ∀ D, EscR (x ++ D) o x.length)
theorem piece_esc {p : List UInt8} {c : UInt8} (i : Nat) (hi : i < 8) (hp : p = [92, sg8.getD i 0]) (hc : c = m8.getD i 0) : PieceR p [c] :=
  .inr ⟨[sg8.getD i 0], hp, by simp, by simp, fun D => .inl ⟨i, hi, rfl, by rw [hc], rfl⟩⟩
theorem piece_ascii (c : UInt8) (hc : c.toNat < 128) : PieceR (oneQ c.toNat) [c] := by
  by_cases h8 : c.toNat = 8
  · exact piece_esc 0 (by decide) (by rw [h8]; rfl) (UInt8.toNat_inj.1 h8)
  by_cases h9 : c.toNat = 9
  · exact piece_esc 1 (by decide) (by rw [h9]; rfl) (UInt8.toNat_inj.1 h9)
  by_cases h10 : c.toNat = 10
  · exact piece_esc 2 (by decide) (by rw [h10]; rfl) (UInt8.toNat_inj.1 h10)
  by_cases h12 : c.toNat = 12
  · exact piece_esc 3 (by decide) (by rw [h12]; rfl) (UInt8.toNat_inj.1 h12)
  by_cases h13 : c.toNat = 13
  · exact piece_esc 4 (by decide) (by rw [h13]; rfl) (UInt8.toNat_inj.1 h13)
  by_cases h34 : c.toNat = 34
  · exact piece_esc 5 (by decide) (by rw [h34]; rfl) (UInt8.toNat_inj.1 h34)
  by_cases h92 : c.toNat = 92
  · exact piece_esc 7 (by decide) (by rw [h92]; rfl) (UInt8.toNat_inj.1 h92)
  have e : oneQ c.toNat = if c.toNat < 32 then [92, 117, 48, 48, hexd (c.toNat / 16), hexd (c.toNat % 16)] else [UInt8.ofNat c.toNat] := by
    unfold oneQ
    rw [if_neg h8, if_neg h9, if_neg h10, if_neg h12, if_neg h13, if_neg h34, if_neg h92]
  rw [e]
  by_cases h32 : c.toNat < 32
  · rw [if_pos h32]
    have hh : hv [0, 0, c.toNat / 16, c.toNat % 16] 4 = c.toNat := by
      show 16 * (16 * (16 * (16 * 0 + 0) + 0) + c.toNat / 16) + c.toNat % 16 = c.toNat
      omega
    refine .inr ⟨[117, 48, 48, hexd (c.toNat / 16), hexd (c.toNat % 16)], rfl, by simp, by simp, fun D => .inr ⟨[0, 0, c.toNat / 16, c.toNat % 16], D, fun i hi => ?_, by rw [hh]; omega, rfl, by rw [hh]; simp, rfl⟩⟩
    obtain rfl | rfl | rfl | rfl : i = 0 ∨ i = 1 ∨ i = 2 ∨ i = 3 := by omega
    · show 0 < 16; decide
    · show 0 < 16; decide
    · show c.toNat / 16 < 16; omega
    · show c.toNat % 16 < 16; omega
  · rw [if_neg h32]
    have hce : UInt8.ofNat c.toNat = c := by simp
    rw [hce]
    refine .inl ⟨rfl, by simp, by simp, fun D => size_one.2 ?_, ?_, ?_, fun _ => ?_⟩
    · show ((c.toNat : Nat) : Int) < 128
      omega
    · intro q
      have : c = 34 := q
      rw [this] at h34
      exact h34 rfl
    · intro q
      have : c = 92 := q
      rw [this] at h92
      exact h92 rfl
    · show 32 ≤ c.toNat
      omega
theorem piece_multi {t : List UInt8} (h : 2 ≤ sizeO t) (hpos : 0 < t.length) : PieceR (t.take (sizeO t)) (t.take (sizeO t)) := by
  have hl := sizeO_len hpos
  have h4 := sizeO_le t
  have hlen : (t.take (sizeO t)).length = sizeO t := by rw [List.length_take]; omega
  have hg : (t.take (sizeO t)).getD 0 0 = t.getD 0 0 := by
    rw [List.getD_eq_getElem?_getD, List.getD_eq_getElem?_getD, List.getElem?_take_of_lt (by omega)]
  have h128 : ¬ at8 t 0 < 128 := fun q => by have := size_one.2 q; omega
  have hge : ¬ (t.getD 0 0).toNat < 128 := fun q => h128 (by unfold at8; omega)
  refine .inl ⟨rfl, by omega, by omega, fun D => by rw [size_take h hl, hlen], ?_, ?_, fun q => by omega⟩
  · rw [hg]
    intro q
    rw [q] at hge
    exact hge (by decide)
  · rw [hg]
    intro q
    rw [q] at hge
    exact hge (by decide)
theorem piece_bad : PieceR bad3 bad3 := .inl ⟨rfl, by decide, by decide, fun D => size_bad D, by decide, by decide, fun q => by cases q⟩
theorem quoN_s (n : Nat) (s : List UInt8) : quoN (n + 1) s = if s = [] then [] else if sizeO s = 0 then bad3 ++ quoN n (s.drop 1) else (if sizeO s = 1 then oneQ (at8 s 0).toNat else s.take (sizeO s)) ++ quoN n (s.drop (sizeO s)) := rfl
theorem menN_s (n : Nat) (s : List UInt8) : menN (n + 1) s = if s = [] then [] else if sizeO s = 0 then bad3 ++ menN n (s.drop 1) else s.take (sizeO s) ++ menN n (s.drop (sizeO s)) := rfl
/-- One character more. -/
theorem quo_step (m : Nat) {t : List UInt8} (ht : t ≠ []) : ∃ p o t', quoN (m + 1) t = p ++ quoN m t' ∧ menN (m + 1) t = o ++ menN m t' ∧ PieceR p o ∧ t'.length < t.length := by
  have hpos := List.length_pos_iff.2 ht
  have hl := sizeO_len hpos
  rw [quoN_s, menN_s, if_neg ht, if_neg ht]
  by_cases h0 : sizeO t = 0
  · rw [if_pos h0, if_pos h0]
    exact ⟨bad3, bad3, t.drop 1, rfl, rfl, piece_bad, by rw [List.length_drop]; omega⟩
  · rw [if_neg h0, if_neg h0]
    by_cases h1 : sizeO t = 1
    · rw [if_pos h1]
      have hc : (t.getD 0 0).toNat < 128 := by
        have := size_one.1 h1
        unfold at8 at this
        omega
      refine ⟨oneQ (t.getD 0 0).toNat, [t.getD 0 0], t.drop (sizeO t), rfl, ?_, piece_ascii _ hc, by rw [List.length_drop]; omega⟩
      rw [h1, Lib.takeA t hpos]
    · rw [if_neg h1]
      exact ⟨t.take (sizeO t), t.take (sizeO t), t.drop (sizeO t), rfl, rfl, piece_multi (by omega) hpos, by rw [List.length_drop]; omega⟩
set_option maxRecDepth 10000 in
set_option maxHeartbeats 1000000 in
theorem unquote_ch (h : Heap) (s : List UInt8) (hs : s.length ≤ 1000) : CH Tryz.prog 45 #[.string (strOf (34 :: (quoI s ++ [34])))] h fun v h' => (∃ k : Int, v = .tuple #[.string (strOf (mendO s)), I64 k, .bool true]) ∧ Ext h h' := by
  refine CH.of_body Tryz.func45 rfl rfl rfl ?_
  intro f hf
  obtain ⟨W, hWE⟩ : ∃ W, W = 34 :: (quoI s ++ [34]) := ⟨_, rfl⟩
  have hq : (quoI s).length ≤ 6 * s.length := quoN_len s.length s
  have hWl : W.length = (quoI s).length + 2 := by rw [hWE]; simp
  have p0 : f 0 = .string (strOf W) := by rw [hf, hWE]; exact fr0_at rfl
  have hW0 : W[0]? = some 34 := by rw [hWE]; rfl
  have hWn : (W == []) = false := by rw [hWE]; rfl
  have hme : menN s.length s = mendO s := men_map s.length s (Nat.le_refl _)
  have hml := menN_len s.length s
  -- region 0
  repeat refine HW.seq ?_
  refine HW.region ?_
  refine HL.still (Runs.assign rfl) ?_
  intro u2 e2
  refine HL.still (Runs.assign rfl) ?_
  intro u3 e3
  refine HL.still (Runs.assign rfl) ?_
  intro u4 e4
  refine HL.nil ?_
  -- region 1
  repeat refine HW.seq ?_
  refine HW.region ?_
  refine HL.still (Runs.move p0) ?_
  intro u11 e11
  refine HL.still (Runs.eqS e11 rfl (t := false) hWn) ?_
  intro u12 e12
  refine HL.still (Runs.move e12) ?_
  intro u13 e13
  refine HL.stillG rfl rfl e13 (Runs.move p0) ?_
  intro u14 e14
  refine HL.stillG rfl rfl e13 (Runs.ixS Tryz.underlying9 e14 rfl (j := 0) rfl hW0) ?_
  intro u15 e15
  refine HL.stillG rfl rfl e13 (Runs.neq e15 rfl (t := false) rfl) ?_
  intro u16 e16
  refine HL.still (Runs.pick e13 e16) ?_
  intro u17 e17
  refine HL.nil ?_
  refine HW.no e17 ?_
  refine HW.skip ?_
  -- region 3
  repeat refine HW.seq ?_
  refine HW.region ?_
  refine HL.still (Runs.assign rfl) ?_
  intro u5 e5
  refine HL.nil ?_
  -- region 4
  repeat refine HW.seq ?_
  refine HW.region ?_
  refine HL.still (Runs.assign rfl) ?_
  intro u6 e6
  refine HL.nil ?_
  repeat refine HW.seq ?_
  refine HW.block ?_
  refine HW.loop (fun m f u => ∃ t acc o : List UInt8, t.length ≤ m ∧ f 0 = .string (strOf W) ∧ f 5 = .string (strOf o) ∧ f 6 = I64 ((1 + acc.length : Nat) : Int) ∧ (34 :: acc) ++ (quoN m t ++ [34]) = W ∧ o ++ menN m t = mendO s ∧ Ext h u) s.length
    ⟨s, [], [], Nat.le_refl _, p0, e5, e6, hWE.symm, hme, Bel.refl _ _⟩ ?_
  clear e2 e3 e4 e5 e6 e17 p0 hWE
  rintro m f u ⟨t, acc, o, htm, f0, f5, f6, hacc, ho, hX⟩
  have hal := congrArg List.length hacc
  rw [List.length_append] at hal
  have hol : o.length ≤ 4000 := by
    have := congrArg List.length ho
    rw [List.length_append, ← hme] at this
    omega
  rw [List.length_cons, List.length_append, List.length_cons, List.length_nil] at hal
  have hat : ∀ j, W[1 + acc.length + j]? = (quoN m t ++ [34])[j]? := fun j => by
    rw [← hacc, List.getElem?_append_right (by rw [List.length_cons]; omega)]
    congr 1
    rw [List.length_cons]
    omega
  have hdr : W.drop (1 + acc.length) = quoN m t ++ [34] := by
    rw [← hacc]
    exact List.drop_left' (by rw [List.length_cons]; omega)
  by_cases hne : t = []
  · subst hne
    rw [quoN_nil] at hat
    rw [menN_nil, List.append_nil] at ho
    have h34 : W[1 + acc.length]? = some 34 := hat 0
    -- region 5
    repeat refine HW.seq ?_
    refine HW.region ?_
    refine HL.still (Runs.move f6) ?_
    intro u18 e18
    refine HL.still (Runs.move f0) ?_
    intro u19 e19
    refine HL.still (Runs.lenS rfl Tryz.underlying9 e19) ?_
    intro u20 e20
    refine HL.still (Runs.lss e18 e20 rfl) ?_
    intro u21 e21
    refine HL.nil ?_
    repeat refine HW.seq ?_
    refine HW.yes ?_ ?_
    exact e21.trans (congrArg Value.bool (decide_eq_true (by omega)))
    refine HW.skip ?_
    repeat refine HW.seq ?_
    refine HW.block ?_
    -- region 6
    repeat refine HW.seq ?_
    refine HW.region ?_
    refine HL.still (Runs.move f0) ?_
    intro u22 e22
    refine HL.still (Runs.move f6) ?_
    intro u23 e23
    refine HL.still (Runs.ixS Tryz.underlying9 e22 e23 (j := 1 + acc.length) rfl h34) ?_
    intro u24 e24
    refine HL.still (Runs.eql e24 rfl (t := true) rfl) ?_
    intro u25 e25
    refine HL.nil ?_
    refine HW.yes e25 ?_
    -- region 7
    repeat refine HW.seq ?_
    refine HW.region ?_
    refine HL.still (Runs.move f5) ?_
    intro u26 e26
    refine HL.still (Runs.move f6) ?_
    intro u27 e27
    refine HL.still (Runs.add e27 rfl (i64w (by omega))) ?_
    intro u28 e28
    refine HL.still (Runs.assign e26) ?_
    intro u2 e2
    refine HL.still (Runs.assign e28) ?_
    intro u3 e3
    refine HL.still (Runs.assign rfl) ?_
    intro u4 e4
    refine HL.nil ?_
    refine HW.ret ?_
    exact RT.three rfl e2 e3 e4 ⟨⟨_, by rw [ho]⟩, hX⟩
  · have hpos : 0 < t.length := List.length_pos_iff.2 hne
    obtain ⟨m, rfl⟩ : ∃ m', m = m' + 1 := ⟨m - 1, by omega⟩
    obtain ⟨p, o', t', hq1, hq2, hP, htl⟩ := quo_step m hne
    rw [hq1, List.append_assoc] at hacc hat hdr
    rw [hq1, List.length_append] at hal
    rw [hq2, ← List.append_assoc] at ho
    have hacc' : (34 :: (acc ++ p)) ++ (quoN m t' ++ [34]) = W := by rw [← hacc]; simp
    have hol' : o.length + o'.length ≤ 4000 := by
      have := congrArg List.length ho
      rw [List.length_append, List.length_append, ← hme] at this
      omega
    rcases hP with ⟨rfl, hp1, hp4, hsz, hn34, hn92, h32⟩ | ⟨x, rfl, hx1, hx5, hE⟩
    · have hget : W[1 + acc.length]? = some (p.getD 0 0) := by
        have := hat 0
        rw [List.getElem?_append_left (by omega)] at this
        exact this.trans (at8_get (by omega))
      have hsz := hsz (quoN m t' ++ [34])
      have n34 : ¬ ((p.getD 0 0).toNat : Int) = 34 := fun q => hn34 (UInt8.toNat_inj.1 (by show (p.getD 0 0).toNat = 34; omega))
      have n92 : ¬ ((p.getD 0 0).toNat : Int) = 92 := fun q => hn92 (UInt8.toNat_inj.1 (by show (p.getD 0 0).toNat = 92; omega))
      have hsub : (W.take W.length).drop (1 + acc.length) = p ++ (quoN m t' ++ [34]) := by rw [List.take_length]; exact hdr
      have hCV : CH Tryz.prog 61 #[.string (strOf ((W.take W.length).drop (1 + acc.length)))] u fun v h' => (∃ r : Int, v = .tuple #[I64 r, I64 (p.length : Nat)] ∧ CharR (p ++ (quoN m t' ++ [34])) r) ∧ h' = u := by
        have := charV_ch u (p ++ (quoN m t' ++ [34])) (by rw [List.length_append, List.length_append, List.length_cons, List.length_nil]; omega) (by rw [List.length_append]; omega)
        rw [hsz] at this
        rw [hsub]
        exact this
      -- region 5
      repeat refine HW.seq ?_
      refine HW.region ?_
      refine HL.still (Runs.move f6) ?_
      intro u18 e18
      refine HL.still (Runs.move f0) ?_
      intro u19 e19
      refine HL.still (Runs.lenS rfl Tryz.underlying9 e19) ?_
      intro u20 e20
      refine HL.still (Runs.lss e18 e20 rfl) ?_
      intro u21 e21
      refine HL.nil ?_
      repeat refine HW.seq ?_
      refine HW.yes ?_ ?_
      exact e21.trans (congrArg Value.bool (decide_eq_true (by omega)))
      refine HW.skip ?_
      repeat refine HW.seq ?_
      refine HW.block ?_
      -- region 6
      repeat refine HW.seq ?_
      refine HW.region ?_
      refine HL.still (Runs.move f0) ?_
      intro u22 e22
      refine HL.still (Runs.move f6) ?_
      intro u23 e23
      refine HL.still (Runs.ixS Tryz.underlying9 e22 e23 (j := 1 + acc.length) rfl hget) ?_
      intro u24 e24
      refine HL.still (Runs.eql e24 rfl (t := false) (decide_eq_false n34)) ?_
      intro u25 e25
      refine HL.nil ?_
      refine HW.no e25 ?_
      refine HW.skip ?_
      -- region 8
      repeat refine HW.seq ?_
      refine HW.region ?_
      refine HL.still (Runs.move f0) ?_
      intro u29 e29
      refine HL.still (Runs.move f6) ?_
      intro u30 e30
      refine HL.still (Runs.ixS Tryz.underlying9 e29 e30 (j := 1 + acc.length) rfl hget) ?_
      intro u31 e31
      refine HL.still (Runs.eql e31 rfl (t := false) (decide_eq_false n92)) ?_
      intro u32 e32
      refine HL.nil ?_
      refine HW.no e32 ?_
      refine HW.skip ?_
      -- region 14
      repeat refine HW.seq ?_
      refine HW.region ?_
      refine HL.still (Runs.move f0) ?_
      intro u51 e51
      refine HL.still (Runs.move f6) ?_
      intro u52 e52
      refine HL.still (Runs.sliceS Tryz.underlying9 e51 (lo := 1 + acc.length) (hi := W.length) ⟨_, e52⟩ rfl (by omega) (Nat.le_refl _)) ?_
      intro u53 e53
      refine HL.one (HO.call Tryz.func61 bd61 nm61 (args1 e53) rfl ((hCV).mono ?_))
      rintro _ h9 ⟨⟨r, rfl, hr⟩, rfl⟩
      intro u54 e54
      refine HL.still (Runs.move e54) ?_
      intro u50 e50
      refine HL.still (Runs.extr e50 rfl) ?_
      intro u55 e55
      refine HL.still (Runs.extr e50 rfl) ?_
      intro u56 e56
      refine HL.still (Runs.assign e55) ?_
      intro u9 e9
      refine HL.still (Runs.assign e56) ?_
      intro u10 e10
      refine HL.nil ?_
      have g9 : u9 = I64 r := e9
      have g10 : u10 = I64 (p.length : Int) := e10
      have hr32 : ¬ r < 32 := by
        by_cases h1 : p.length = 1
        · have := hr.1 (by rw [hsz]; exact h1)
          have h3 := h32 h1
          have e : at8 (p ++ (quoN m t' ++ [34])) 0 = ((p.getD 0 0).toNat : Int) := by
            unfold at8
            rw [List.getD_eq_getElem?_getD, List.getD_eq_getElem?_getD, List.getElem?_append_left (by omega)]
          omega
        · have := hr.2 (by rw [hsz]; omega)
          omega
      -- region 15
      repeat refine HW.seq ?_
      refine HW.region ?_
      refine HL.still (Runs.move g10) ?_
      intro u57 e57
      refine HL.still (Runs.eql e57 rfl (t := false) (decide_eq_false (by omega))) ?_
      intro u58 e58
      refine HL.still (Runs.move e58) ?_
      intro u59 e59
      refine HL.stillG rfl rfl e59 (Runs.move g9) ?_
      intro u60 e60
      refine HL.stillG rfl rfl e59 (Runs.lss e60 rfl (t := false) (decide_eq_false hr32)) ?_
      intro u61 e61
      refine HL.still (Runs.pick e59 e61) ?_
      intro u62 e62
      refine HL.nil ?_
      refine HW.no e62 ?_
      refine HW.skip ?_
      have hp : (W.take (1 + acc.length + p.length)).drop (1 + acc.length) = p := by
        rw [List.drop_take, hdr, Nat.add_sub_cancel_left, List.take_left']
        rfl
      -- region 17
      repeat refine HW.seq ?_
      refine HW.region ?_
      refine HL.still (Runs.move f5) ?_
      intro u63 e63
      refine HL.still (Runs.move f0) ?_
      intro u64 e64
      refine HL.still (Runs.move f6) ?_
      intro u65 e65
      refine HL.still (Runs.move f6) ?_
      intro u66 e66
      refine HL.still (Runs.move g10) ?_
      intro u67 e67
      refine HL.still (Runs.add e66 e67 (i64w (by omega))) ?_
      intro u68 e68
      refine HL.still (Runs.sliceS Tryz.underlying9 e64 (lo := 1 + acc.length) (hi := 1 + acc.length + p.length) ⟨_, e65⟩ ⟨_, e68⟩ (by omega) (by omega)) ?_
      intro u69 e69
      refine HL.still (Runs.addS e63 e69 (ys := (W.take (1 + acc.length + p.length)).drop (1 + acc.length)) (by rw [hp]; omega)) ?_
      intro u70 e70
      refine HL.still (Runs.assign e70) ?_
      intro u5 e5
      refine HL.nil ?_
      have g5 := e5
      rw [hp] at g5
      -- region 18
      repeat refine HW.seq ?_
      refine HW.region ?_
      refine HL.still (Runs.move f6) ?_
      intro u71 e71
      refine HL.still (Runs.move g10) ?_
      intro u72 e72
      refine HL.still (Runs.add e71 e72 (i64w (by omega))) ?_
      intro u73 e73
      refine HL.still (Runs.assign e73) ?_
      intro u6 e6
      refine HL.nil ?_
      exact ⟨m, by omega, t', acc ++ p, o ++ p, by omega, f0, g5, e6.trans (congrArg (Value.int .i64) (by rw [List.length_append]; omega)), hacc', ho, hX⟩
    · have hget : W[1 + acc.length]? = some 92 := hat 0
      have hdr2 : W.drop (2 + acc.length) = x ++ (quoN m t' ++ [34]) := by
        have := congrArg (List.drop 1) hdr
        rw [List.drop_drop] at this
        rw [show 2 + acc.length = 1 + acc.length + 1 by omega, this]
        rfl
      have hsub : (W.take W.length).drop (2 + acc.length) = x ++ (quoN m t' ++ [34]) := by rw [List.take_length]; exact hdr2
      have hEC := escape_ch u ((W.take W.length).drop (2 + acc.length)) o' x.length (by rw [List.length_drop, List.length_take]; omega) (by rw [hsub]; exact hE _)
      rw [List.length_cons] at hal
      -- region 5
      repeat refine HW.seq ?_
      refine HW.region ?_
      refine HL.still (Runs.move f6) ?_
      intro u18 e18
      refine HL.still (Runs.move f0) ?_
      intro u19 e19
      refine HL.still (Runs.lenS rfl Tryz.underlying9 e19) ?_
      intro u20 e20
      refine HL.still (Runs.lss e18 e20 rfl) ?_
      intro u21 e21
      refine HL.nil ?_
      repeat refine HW.seq ?_
      refine HW.yes ?_ ?_
      exact e21.trans (congrArg Value.bool (decide_eq_true (by omega)))
      refine HW.skip ?_
      repeat refine HW.seq ?_
      refine HW.block ?_
      -- region 6
      repeat refine HW.seq ?_
      refine HW.region ?_
      refine HL.still (Runs.move f0) ?_
      intro u22 e22
      refine HL.still (Runs.move f6) ?_
      intro u23 e23
      refine HL.still (Runs.ixS Tryz.underlying9 e22 e23 (j := 1 + acc.length) rfl hget) ?_
      intro u24 e24
      refine HL.still (Runs.eql e24 rfl (t := false) rfl) ?_
      intro u25 e25
      refine HL.nil ?_
      refine HW.no e25 ?_
      refine HW.skip ?_
      -- region 8
      repeat refine HW.seq ?_
      refine HW.region ?_
      refine HL.still (Runs.move f0) ?_
      intro u29 e29
      refine HL.still (Runs.move f6) ?_
      intro u30 e30
      refine HL.still (Runs.ixS Tryz.underlying9 e29 e30 (j := 1 + acc.length) rfl hget) ?_
      intro u31 e31
      refine HL.still (Runs.eql e31 rfl (t := true) rfl) ?_
      intro u32 e32
      refine HL.nil ?_
      refine HW.yes e32 ?_
      repeat refine HW.seq ?_
      -- region 9
      repeat refine HW.seq ?_
      refine HW.region ?_
      refine HL.still (Runs.move f0) ?_
      intro u34 e34
      refine HL.still (Runs.move f6) ?_
      intro u35 e35
      refine HL.still (Runs.add e35 rfl (c := ((2 + acc.length : Nat) : Int)) (by rw [i64w (by omega)]; omega)) ?_
      intro u36 e36
      refine HL.still (Runs.sliceS Tryz.underlying9 e34 (lo := 2 + acc.length) (hi := W.length) ⟨_, e36⟩ rfl (by omega) (Nat.le_refl _)) ?_
      intro u37 e37
      refine HL.one (HO.call Tryz.func60 bd60 nm60 (args1 e37) rfl ((hEC).mono ?_))
      rintro _ h9 ⟨rfl, X9⟩
      intro u38 e38
      refine HL.still (Runs.move e38) ?_
      intro u33 e33
      refine HL.still (Runs.extr e33 rfl) ?_
      intro u39 e39
      refine HL.still (Runs.extr e33 rfl) ?_
      intro u40 e40
      refine HL.still (Runs.assign e39) ?_
      intro u7 e7
      refine HL.still (Runs.assign e40) ?_
      intro u8 e8
      refine HL.nil ?_
      have g7 : u7 = .string (strOf o') := e7
      have g8 : u8 = I64 (x.length : Int) := e8
      -- region 10
      repeat refine HW.seq ?_
      refine HW.region ?_
      refine HL.still (Runs.move g8) ?_
      intro u41 e41
      refine HL.still (Runs.eql e41 rfl (t := false) (decide_eq_false (by omega))) ?_
      intro u42 e42
      refine HL.nil ?_
      refine HW.no e42 ?_
      refine HW.skip ?_
      -- region 12
      repeat refine HW.seq ?_
      refine HW.region ?_
      refine HL.still (Runs.move f5) ?_
      intro u43 e43
      refine HL.still (Runs.move g7) ?_
      intro u44 e44
      refine HL.still (Runs.addS e43 e44 (by omega)) ?_
      intro u45 e45
      refine HL.still (Runs.assign e45) ?_
      intro u5 e5
      refine HL.nil ?_
      have g5 := e5
      -- region 13
      repeat refine HW.seq ?_
      refine HW.region ?_
      refine HL.still (Runs.move f6) ?_
      intro u46 e46
      refine HL.still (Runs.add e46 rfl (i64w (by omega))) ?_
      intro u47 e47
      refine HL.still (Runs.move g8) ?_
      intro u48 e48
      refine HL.still (Runs.add e47 e48 (i64w (by omega))) ?_
      intro u49 e49
      refine HL.still (Runs.assign e49) ?_
      intro u6 e6
      refine HL.nil ?_
      refine HW.exitHere ?_
      exact ⟨m, by omega, t', acc ++ 92 :: x, o ++ o', by omega, f0, g5, e6.trans (congrArg (Value.int .i64) (by rw [List.length_append, List.length_cons]; omega)), hacc', ho, hX.ext X9 (Nat.le_refl _)⟩
end Go.Proofs.YtjopikfkgjbcgaaGreatDoor
