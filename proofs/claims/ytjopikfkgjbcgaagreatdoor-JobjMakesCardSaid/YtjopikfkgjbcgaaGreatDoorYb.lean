/- A character's bytes: onionskinref10.Bytes, where it is below 80, and of fffd. -/
import Derived.Test.YtjopikfkgjbcgaaGreatDoorKc
import Derived.Test.YtjopikfkgjbcgaaGreatDoorOh
import Derived.Test.YtjopikfkgjbcgaaGreatDoorOi
namespace Go.Proofs.YtjopikfkgjbcgaaGreatDoor
set_option linter.unnecessarySimpa false
set_option linter.unusedSimpArgs false
set_option linter.unusedVariables false
open Go.RowKit
section
variable {ρ : Operand → Value} {h : Heap} {d : Option Tmp} {ty : TypeId} {pos : String} {af : Array Edge} {gd : Option (Nat × Bool)} {K : Value → Heap → Prop} {o0 o1 o2 : Operand}
theorem run_bytes1 (x : UInt8) (w : World) : (Instr.buildSlice 54 1 #[(0, B8 x)]).run Tryz.prog w = .ok (.slice (some ⟨w.heap.size, 0, none⟩) 1 1) (w.alloc (.cells ([x].map B8).toArray 5)) := by kernel_rfl
theorem run_bytes2 (x y : UInt8) (w : World) : (Instr.buildSlice 54 2 #[(0, B8 x), (1, B8 y)]).run Tryz.prog w = .ok (.slice (some ⟨w.heap.size, 0, none⟩) 2 2) (w.alloc (.cells ([x, y].map B8).toArray 5)) := by kernel_rfl
theorem run_bytes3 (x y z : UInt8) (w : World) : (Instr.buildSlice 54 3 #[(0, B8 x), (1, B8 y), (2, B8 z)]).run Tryz.prog w = .ok (.slice (some ⟨w.heap.size, 0, none⟩) 3 3) (w.alloc (.cells ([x, y, z].map B8).toArray 5)) := by kernel_rfl
set_option maxRecDepth 10000 in
theorem HO.bytes1 (x : UInt8) (h0 : ρ o0 = B8 x)
    (k : ∀ h', Nw h h' (.cells ([x].map B8).toArray 5 (0, 0)) → K (.slice (some ⟨h.size, 0, none⟩) 1 1) h') : HO Tryz.prog ⟨d, .buildSlice 54 1 #[(0, o0)], ty, pos, af, gd⟩ ρ h K :=
  HO.buildSlice (fun w => by
    have e : (#[(0, o0)] : Array (Nat × Operand)).map (fun (i, x) => (i, ρ x)) = #[(0, B8 x)] := by simp [h0]
    rw [e]
    exact run_bytes1 x w) k
set_option maxRecDepth 10000 in
theorem HO.bytes2 (x y : UInt8) (h0 : ρ o0 = B8 x) (h1 : ρ o1 = B8 y)
    (k : ∀ h', Nw h h' (.cells ([x, y].map B8).toArray 5 (0, 0)) → K (.slice (some ⟨h.size, 0, none⟩) 2 2) h') : HO Tryz.prog ⟨d, .buildSlice 54 2 #[(0, o0), (1, o1)], ty, pos, af, gd⟩ ρ h K :=
  HO.buildSlice (fun w => by
    have e : (#[(0, o0), (1, o1)] : Array (Nat × Operand)).map (fun (i, x) => (i, ρ x)) = #[(0, B8 x), (1, B8 y)] := by simp [h0, h1]
    rw [e]
    exact run_bytes2 x y w) k
set_option maxRecDepth 10000 in
theorem HO.bytes3 (x y z : UInt8) (h0 : ρ o0 = B8 x) (h1 : ρ o1 = B8 y) (h2 : ρ o2 = B8 z)
    (k : ∀ h', Nw h h' (.cells ([x, y, z].map B8).toArray 5 (0, 0)) → K (.slice (some ⟨h.size, 0, none⟩) 3 3) h') : HO Tryz.prog ⟨d, .buildSlice 54 3 #[(0, o0), (1, o1), (2, o2)], ty, pos, af, gd⟩ ρ h K :=
  HO.buildSlice (fun w => by
    have e : (#[(0, o0), (1, o1), (2, o2)] : Array (Nat × Operand)).map (fun (i, x) => (i, ρ x)) = #[(0, B8 x), (1, B8 y), (2, B8 z)] := by simp [h0, h1, h2]
    rw [e]
    exact run_bytes3 x y z w) k
end
set_option maxRecDepth 10000 in
theorem bytes1_ch (h : Heap) (c : UInt8) (hc : c.toNat < 128) : CH Tryz.prog 62 #[I64 (c.toNat : Nat)] h fun v h' => v = .string (strOf [c]) ∧ Ext h h' := by
  refine CH.of_body Tryz.func62 rfl rfl rfl ?_
  intro f hf
  have p0 : f 0 = I64 (c.toNat : Nat) := by rw [hf]; exact fr0_at rfl
  -- region 0
  repeat refine HW.seq ?_
  refine HW.region ?_
  refine HL.still (Runs.assign rfl) ?_
  intro u2 e2
  refine HL.nil ?_
  repeat refine HW.seq ?_
  refine HW.block ?_
  -- region 1
  repeat refine HW.seq ?_
  refine HW.region ?_
  refine HL.still (Runs.move p0) ?_
  intro u4 e4
  refine HL.still (Runs.lss e4 rfl (t := true) (decide_eq_true (by omega))) ?_
  intro u5 e5
  refine HL.still (Runs.assign e5) ?_
  intro u3 e3
  refine HL.nil ?_
  refine HW.yes e3 ?_
  -- region 2
  repeat refine HW.seq ?_
  refine HW.region ?_
  refine HL.still (Runs.move p0) ?_
  intro u6 e6
  refine HL.still (Runs.conv Tryz.underlying3 Tryz.underlying5 e6 (u8w (by omega))) ?_
  intro u7 e7
  refine HL.one (HO.bytes1 c e7 ?_)
  intro h2 w2
  intro u8 e8
  refine HL.still (Runs.toStrB Tryz.underlying54 Tryz.underlying5 Tryz.underlying9 e8 rfl (byt_block (xs := [c]) w2.new)) ?_
  intro u9 e9
  refine HL.still (Runs.assign e9) ?_
  intro u2 e2
  refine HL.nil ?_
  refine HW.ret ?_
  exact RT.one rfl e2 ⟨rfl, w2.ext⟩
set_option maxRecDepth 10000 in
theorem bytesB_ch (h : Heap) : CH Tryz.prog 62 #[I64 65533] h fun v h' => v = .string (strOf bad3) ∧ Ext h h' := by
  refine CH.of_body Tryz.func62 rfl rfl rfl ?_
  intro f hf
  have p0 : f 0 = I64 65533 := by rw [hf]; exact fr0_at rfl
  -- region 0
  repeat refine HW.seq ?_
  refine HW.region ?_
  refine HL.still (Runs.assign rfl) ?_
  intro u2 e2
  refine HL.nil ?_
  repeat refine HW.seq ?_
  refine HW.block ?_
  -- region 1
  repeat refine HW.seq ?_
  refine HW.region ?_
  refine HL.still (Runs.move p0) ?_
  intro u4 e4
  refine HL.still (Runs.lss e4 rfl (t := false) (decide_eq_false (by omega))) ?_
  intro u5 e5
  refine HL.still (Runs.assign e5) ?_
  intro u3 e3
  refine HL.nil ?_
  refine HW.no e3 ?_
  repeat refine HW.seq ?_
  -- region 3
  repeat refine HW.seq ?_
  refine HW.region ?_
  refine HL.still (Runs.move p0) ?_
  intro u11 e11
  refine HL.still (Runs.lss e11 rfl (t := false) (decide_eq_false (by omega))) ?_
  intro u12 e12
  refine HL.still (Runs.assign e12) ?_
  intro u10 e10
  refine HL.nil ?_
  refine HW.no e10 ?_
  repeat refine HW.seq ?_
  -- region 5
  repeat refine HW.seq ?_
  refine HW.region ?_
  refine HL.still (Runs.move p0) ?_
  intro u24 e24
  refine HL.still (Runs.lss e24 rfl (t := true) (decide_eq_true (by omega))) ?_
  intro u25 e25
  refine HL.still (Runs.assign e25) ?_
  intro u23 e23
  refine HL.nil ?_
  refine HW.yes e23 ?_
  -- region 6
  repeat refine HW.seq ?_
  refine HW.region ?_
  refine HL.still (Runs.move p0) ?_
  intro u26 e26
  refine HL.still (Runs.quo e26 rfl (c := 15) (by decide) (quo64 (by omega) (by decide))) ?_
  intro u27 e27
  refine HL.still (Runs.add rfl e27 (c := 239) (i64w (by omega))) ?_
  intro u28 e28
  refine HL.still (Runs.conv Tryz.underlying3 Tryz.underlying5 e28 (c := 239) (u8w (by omega))) ?_
  intro u29 e29
  refine HL.still (Runs.move p0) ?_
  intro u30 e30
  refine HL.still (Runs.quo e30 rfl (c := 1023) (by decide) (quo64 (by omega) (by decide))) ?_
  intro u31 e31
  refine HL.still (Runs.rem e31 rfl (c := 63) (by decide) (rem64 (by omega) (by decide))) ?_
  intro u32 e32
  refine HL.still (Runs.add rfl e32 (c := 191) (i64w (by omega))) ?_
  intro u33 e33
  refine HL.still (Runs.conv Tryz.underlying3 Tryz.underlying5 e33 (c := 191) (u8w (by omega))) ?_
  intro u34 e34
  refine HL.still (Runs.move p0) ?_
  intro u35 e35
  refine HL.still (Runs.rem e35 rfl (c := 61) (by decide) (rem64 (by omega) (by decide))) ?_
  intro u36 e36
  refine HL.still (Runs.add rfl e36 (c := 189) (i64w (by omega))) ?_
  intro u37 e37
  refine HL.still (Runs.conv Tryz.underlying3 Tryz.underlying5 e37 (c := 189) (u8w (by omega))) ?_
  intro u38 e38
  refine HL.one (HO.bytes3 239 191 189 e29 e34 e38 ?_)
  intro h2 w2
  intro u39 e39
  refine HL.still (Runs.toStrB Tryz.underlying54 Tryz.underlying5 Tryz.underlying9 e39 rfl (byt_block (xs := bad3) w2.new)) ?_
  intro u40 e40
  refine HL.still (Runs.assign e40) ?_
  intro u2 e2
  refine HL.nil ?_
  refine HW.ret ?_
  exact RT.one rfl e2 ⟨rfl, w2.ext⟩
end Go.Proofs.YtjopikfkgjbcgaaGreatDoor
/-! How a character below 80 is quoted: onionskinref10.one. -/
namespace Go.Proofs.YtjopikfkgjbcgaaGreatDoor
set_option linter.unnecessarySimpa false
set_option linter.unusedSimpArgs false
set_option linter.unusedVariables false
open Go.RowKit
def sh6 : List Int := [8, 9, 10, 12, 13, 34]
def sg6 : List UInt8 := [98, 116, 110, 102, 114, 34]
theorem one_hit : ∀ i, i < 6 → oneQ (sh6.getD i 0).toNat = [92, sg6.getD i 0] := by decide
theorem hexd_at : ∀ d : Nat, d < 16 → (([48, 49, 50, 51, 52, 53, 54, 55, 56, 57, 97, 98, 99, 100, 101, 102] : List UInt8).take (d + 1)).drop d = [hexd d] := by decide
theorem one_bs : oneQ 92 = [92, 92] := by decide
theorem one_low {c : Nat} (h : ∀ j, j < 6 → sh6.getD j 0 ≠ (c : Int)) (h9 : c ≠ 92) (h3 : c < 32) : oneQ c = [92] ++ [117, 48, 48] ++ [hexd (c / 16)] ++ [hexd (c % 16)] := by
  have q0 : (8 : Int) ≠ c := h 0 (by decide)
  have q1 : (9 : Int) ≠ c := h 1 (by decide)
  have q2 : (10 : Int) ≠ c := h 2 (by decide)
  have q3 : (12 : Int) ≠ c := h 3 (by decide)
  have q4 : (13 : Int) ≠ c := h 4 (by decide)
  have q5 : (34 : Int) ≠ c := h 5 (by decide)
  unfold oneQ
  rw [if_neg (by omega), if_neg (by omega), if_neg (by omega), if_neg (by omega), if_neg (by omega), if_neg (by omega), if_neg h9, if_pos h3]
  rfl
theorem one_plain {c : Nat} (h : ∀ j, j < 6 → sh6.getD j 0 ≠ (c : Int)) (h9 : c ≠ 92) (h3 : ¬ c < 32) : oneQ c = [UInt8.ofNat c] := by
  have q0 : (8 : Int) ≠ c := h 0 (by decide)
  have q1 : (9 : Int) ≠ c := h 1 (by decide)
  have q2 : (10 : Int) ≠ c := h 2 (by decide)
  have q3 : (12 : Int) ≠ c := h 3 (by decide)
  have q4 : (13 : Int) ≠ c := h 4 (by decide)
  have q5 : (34 : Int) ≠ c := h 5 (by decide)
  unfold oneQ
  rw [if_neg (by omega), if_neg (by omega), if_neg (by omega), if_neg (by omega), if_neg (by omega), if_neg (by omega), if_neg h9, if_neg h3]
theorem sz102 : (Tryz.prog.info? 102).map (·.size) = some 6 := by kernel_rfl
theorem zr102 : (Tryz.prog.info? 102).map (·.zero) = some (some (.agg ((List.replicate 6 (0 : Int)).map gI).toArray)) := by kernel_rfl
set_option maxRecDepth 10000 in
set_option maxHeartbeats 1000000 in
theorem one_ch (h : Heap) (c : UInt8) (hc : c.toNat < 128) : CH Tryz.prog 63 #[I64 (c.toNat : Nat)] h fun v h' => v = .string (strOf (oneQ c.toNat)) ∧ Ext h h' := by
  refine CH.of_body Tryz.func63 rfl rfl rfl ?_
  intro f hf
  have p0 : f 0 = I64 (c.toNat : Nat) := by rw [hf]; exact fr0_at rfl
  -- region 0
  repeat refine HW.seq ?_
  refine HW.region ?_
  refine HL.still (Runs.assign rfl) ?_
  intro u2 e2
  refine HL.nil ?_
  -- region 1
  repeat refine HW.seq ?_
  refine HW.region ?_
  refine HL.still (Runs.build (v := .agg (sh6.map gI).toArray) (fun w => by kernel_rfl)) ?_
  intro u6 e6
  refine HL.one (HO.alloc zr102 ?_)
  intro h3 w3
  intro u3 e3
  refine HL.zero (HO.storeAll sz102 e3 e6 (one_map gI (fun _ => rfl) _) w3.new rfl rfl ?_)
  intro h4 w4
  refine HL.nil ?_
  have X4 : Ext h h4 := w3.ext.wr w4 (Nat.le_refl _)
  have hb4 : h4[h.size]? = some (.cells (sh6.map gI).toArray 102 (0, 0)) := w4.new
  have g3 : u3 = .pointer (some ⟨h.size, 0, none⟩) := e3
  clear w3 w4
  -- region 2
  repeat refine HW.seq ?_
  refine HW.region ?_
  refine HL.still (Runs.assign rfl) ?_
  intro u4 e4
  refine HL.nil ?_
  -- region 3
  repeat refine HW.seq ?_
  refine HW.region ?_
  refine HL.still (Runs.assign rfl) ?_
  intro u5 e5
  refine HL.nil ?_
  refine HW.mono (N := fun f v => f 0 = I64 (c.toNat : Nat) ∧ (∀ j, j < 6 → sh6.getD j 0 ≠ (c.toNat : Int)) ∧ Ext h v) ?_ ?_ (fun _ _ _ q => q) (fun _ _ q => q)
  · refine HW.block ?_
    refine HW.loop (fun m f u => ∃ i : Nat, i ≤ 6 ∧ m = 6 - i ∧ f 5 = I64 i ∧ f 0 = I64 (c.toNat : Nat) ∧ f 3 = .pointer (some ⟨h.size, 0, none⟩) ∧ f 4 = .string (strOf sg6) ∧ (∀ j, j < i → sh6.getD j 0 ≠ (c.toNat : Int)) ∧ h4 = u) 6
      ⟨0, Nat.zero_le _, rfl, e5, p0, g3, e4, (fun j hj => by cases hj), rfl⟩ ?_
    clear e2 e3 g3 e4 e5 p0 e6
    rintro m f u ⟨i, hi, hm, f5, f0, f3, f4, hno, rfl⟩
    by_cases hlt : i < 6
    · have hcell : cellH h4 h.size i = some (I64 (sh6.getD i 0)) := by
        have := cellH_map (f := gI) 0 hb4 (j := i) (show i < sh6.length from hlt)
        exact this
      have hsg : sg6[i]? = some (sg6.getD i 0) := at8_get (show i < sg6.length from hlt)
      -- region 4
      repeat refine HW.seq ?_
      refine HW.region ?_
      refine HL.still (Runs.move f5) ?_
      intro u7 e7
      refine HL.still (Runs.lss e7 rfl rfl) ?_
      intro u8 e8
      refine HL.nil ?_
      repeat refine HW.seq ?_
      refine HW.yes ?_ ?_
      exact e8.trans (congrArg Value.bool (decide_eq_true (by omega)))
      refine HW.skip ?_
      repeat refine HW.seq ?_
      refine HW.block ?_
      by_cases heq : sh6.getD i 0 = (c.toNat : Int)
      · skip
        -- region 6
        repeat refine HW.seq ?_
        refine HW.region ?_
        refine HL.still (Runs.move f5) ?_
        intro u11 e11
        refine HL.still (Runs.ixArr (o' := i) Tryz.underlying102 sz3 f3 e11 (by omega) (by omega) (by omega)) ?_
        intro u12 e12
        refine HL.still (Runs.load Tryz.underlying3 rfl e12 hcell) ?_
        intro u13 e13
        refine HL.still (Runs.move f0) ?_
        intro u14 e14
        refine HL.still (Runs.eql e13 e14 (t := true) (decide_eq_true heq)) ?_
        intro u15 e15
        refine HL.nil ?_
        refine HW.yes e15 ?_
        -- region 7
        repeat refine HW.seq ?_
        refine HW.region ?_
        refine HL.still (Runs.move f4) ?_
        intro u16 e16
        refine HL.still (Runs.move f5) ?_
        intro u17 e17
        refine HL.still (Runs.ixS Tryz.underlying9 e16 e17 (j := i) rfl hsg) ?_
        intro u18 e18
        refine HL.one (HO.bytes2 92 (sg6.getD i 0) rfl e18 ?_)
        intro h5 w5
        intro u19 e19
        refine HL.still (Runs.toStrB Tryz.underlying54 Tryz.underlying5 Tryz.underlying9 e19 rfl (byt_block (xs := [92, sg6.getD i 0]) w5.new)) ?_
        intro u20 e20
        refine HL.still (Runs.assign e20) ?_
        intro u2 e2
        refine HL.nil ?_
        refine HW.ret ?_
        have := one_hit i hlt
        rw [heq, Int.toNat_natCast] at this
        exact RT.one rfl e2 ⟨by rw [this], X4.ext w5.ext (Nat.le_refl _)⟩
      · skip
        -- region 6
        repeat refine HW.seq ?_
        refine HW.region ?_
        refine HL.still (Runs.move f5) ?_
        intro u11 e11
        refine HL.still (Runs.ixArr (o' := i) Tryz.underlying102 sz3 f3 e11 (by omega) (by omega) (by omega)) ?_
        intro u12 e12
        refine HL.still (Runs.load Tryz.underlying3 rfl e12 hcell) ?_
        intro u13 e13
        refine HL.still (Runs.move f0) ?_
        intro u14 e14
        refine HL.still (Runs.eql e13 e14 (t := false) (decide_eq_false heq)) ?_
        intro u15 e15
        refine HL.nil ?_
        refine HW.no e15 ?_
        refine HW.skip ?_
        -- region 5
        repeat refine HW.seq ?_
        refine HW.region ?_
        refine HL.still (Runs.move f5) ?_
        intro u9 e9
        refine HL.still (Runs.add e9 rfl (i64w (by omega))) ?_
        intro u10 e10
        refine HL.still (Runs.assign e10) ?_
        intro u5 e5
        refine HL.nil ?_
        exact ⟨6 - (i + 1), by omega, i + 1, by omega, rfl, e5, f0, f3, f4, (fun j hj => by
          by_cases hji : j < i
          · exact hno j hji
          · obtain rfl : j = i := by omega
            exact heq), rfl⟩
    · have hi6 : i = 6 := by omega
      subst hi6
      -- region 4
      repeat refine HW.seq ?_
      refine HW.region ?_
      refine HL.still (Runs.move f5) ?_
      intro u7 e7
      refine HL.still (Runs.lss e7 rfl rfl) ?_
      intro u8 e8
      refine HL.nil ?_
      repeat refine HW.seq ?_
      refine HW.no ?_ ?_
      exact e8.trans (congrArg Value.bool (decide_eq_false (by omega)))
      refine HW.exitHere ?_
      exact ⟨f0, hno, X4⟩
  clear e2 e3 g3 e4 e5 p0 e6 X4 hb4
  rintro f v ⟨p0, hno, X4⟩
  by_cases h9 : c.toNat = 92
  · skip
    -- region 8
    repeat refine HW.seq ?_
    refine HW.region ?_
    refine HL.still (Runs.move p0) ?_
    intro u21 e21
    refine HL.still (Runs.eql e21 rfl (t := true) (decide_eq_true (by omega))) ?_
    intro u22 e22
    refine HL.nil ?_
    refine HW.yes e22 ?_
    -- region 9
    repeat refine HW.seq ?_
    refine HW.region ?_
    refine HL.one (HO.bytes2 92 92 rfl rfl ?_)
    intro h5 w5
    intro u23 e23
    refine HL.still (Runs.toStrB Tryz.underlying54 Tryz.underlying5 Tryz.underlying9 e23 rfl (byt_block (xs := [92, 92]) w5.new)) ?_
    intro u24 e24
    refine HL.still (Runs.assign e24) ?_
    intro u2 e2
    refine HL.nil ?_
    refine HW.ret ?_
    exact RT.one rfl e2 ⟨by rw [h9, one_bs], X4.ext w5.ext (Nat.le_refl _)⟩
  · skip
    -- region 8
    repeat refine HW.seq ?_
    refine HW.region ?_
    refine HL.still (Runs.move p0) ?_
    intro u21 e21
    refine HL.still (Runs.eql e21 rfl (t := false) (decide_eq_false (by omega))) ?_
    intro u22 e22
    refine HL.nil ?_
    refine HW.no e22 ?_
    refine HW.skip ?_
    by_cases h3 : c.toNat < 32
    · skip
      -- region 10
      repeat refine HW.seq ?_
      refine HW.region ?_
      refine HL.still (Runs.move p0) ?_
      intro u25 e25
      refine HL.still (Runs.lss e25 rfl (t := true) (decide_eq_true (by omega))) ?_
      intro u26 e26
      refine HL.nil ?_
      refine HW.yes e26 ?_
      -- region 11
      repeat refine HW.seq ?_
      refine HW.grow #[0, 1, 3, 0, 8, 0, 32, 96, 248, 511, 0, 1024, 0, 4096, 12288, 31744, 65535, 131071] (fun a b => Ext a b) mixed (by kernel_rfl) (fun _ => Bel.refl _ _) (fun _ _ _ x y => Bel.ext x y (Nat.le_refl _)) ?_
      refine HM.one (fun v hh => ∃ b, v = Value.slice (some ⟨b, 0, none⟩) 1 1 ∧ Byt hh (some ⟨b, 0, none⟩) [92]) (fun v u u' X ⟨b, q1, q2⟩ => ⟨b, q1, q2.ext X⟩) (fun f h K => HO.bytes1 92 rfl fun h' w => ⟨w.ext, _, rfl, byt_block (xs := [92]) w.new⟩) ?_
      refine HM.one (fun x _ => x = .string (strOf [92])) (fun _ _ _ _ e => e) (fun f h K => by obtain ⟨b, q1, q2⟩ := K.at 0 27 rfl rfl; exact HO.of_runs (Runs.toStrB Tryz.underlying54 Tryz.underlying5 Tryz.underlying9 q1 rfl q2) ⟨Bel.refl _ _, rfl⟩) ?_
      refine HM.still (fun _ => Bel.refl _ _) (fun f h K => Runs.addS (K.at 1 28 rfl rfl) rfl (ys := [117, 48, 48]) (by decide)) ?_
      refine HM.still (fun _ => Bel.refl _ _) (fun f h K => Runs.move ((K.keep (by kernel_rfl)).trans p0)) ?_
      refine HM.still (fun _ => Bel.refl _ _) (fun f h K => Runs.quo (K.at 3 30 rfl rfl) rfl (c := ((c.toNat / 16 : Nat) : Int)) (by decide) (by rw [quo64 (by omega) (by decide)]; omega)) ?_
      refine HM.still (fun _ => Bel.refl _ _) (fun f h K => Runs.move ((K.keep (by kernel_rfl)).trans p0)) ?_
      refine HM.still (fun _ => Bel.refl _ _) (fun f h K => Runs.quo (K.at 5 32 rfl rfl) rfl (c := ((c.toNat / 16 : Nat) : Int)) (by decide) (by rw [quo64 (by omega) (by decide)]; omega)) ?_
      refine HM.still (fun _ => Bel.refl _ _) (fun f h K => Runs.add (K.at 6 33 rfl rfl) rfl (c := ((c.toNat / 16 + 1 : Nat) : Int)) (by rw [i64w (by omega)]; omega)) ?_
      refine HM.still (fun _ => Bel.refl _ _) (fun f h K => Runs.sliceS Tryz.underlying9 rfl (xs := [48, 49, 50, 51, 52, 53, 54, 55, 56, 57, 97, 98, 99, 100, 101, 102]) (lo := c.toNat / 16) (hi := c.toNat / 16 + 1) ⟨_, K.at 4 31 rfl rfl⟩ ⟨_, K.at 7 34 rfl rfl⟩ (by omega) (show c.toNat / 16 + 1 ≤ 16 by omega)) ?_
      refine HM.still (fun _ => Bel.refl _ _) (fun f h K => Runs.addS (K.at 2 29 rfl rfl) (K.at 8 35 rfl rfl) (by simp only [List.length_append, List.length_drop, List.length_take, List.length_cons, List.length_nil]; omega)) ?_
      refine HM.still (fun _ => Bel.refl _ _) (fun f h K => Runs.move ((K.keep (by kernel_rfl)).trans p0)) ?_
      refine HM.still (fun _ => Bel.refl _ _) (fun f h K => Runs.rem (K.at 10 37 rfl rfl) rfl (c := ((c.toNat % 16 : Nat) : Int)) (by decide) (by rw [rem64 (by omega) (by decide)]; omega)) ?_
      refine HM.still (fun _ => Bel.refl _ _) (fun f h K => Runs.move ((K.keep (by kernel_rfl)).trans p0)) ?_
      refine HM.still (fun _ => Bel.refl _ _) (fun f h K => Runs.rem (K.at 12 39 rfl rfl) rfl (c := ((c.toNat % 16 : Nat) : Int)) (by decide) (by rw [rem64 (by omega) (by decide)]; omega)) ?_
      refine HM.still (fun _ => Bel.refl _ _) (fun f h K => Runs.add (K.at 13 40 rfl rfl) rfl (c := ((c.toNat % 16 + 1 : Nat) : Int)) (by rw [i64w (by omega)]; omega)) ?_
      refine HM.still (fun _ => Bel.refl _ _) (fun f h K => Runs.sliceS Tryz.underlying9 rfl (xs := [48, 49, 50, 51, 52, 53, 54, 55, 56, 57, 97, 98, 99, 100, 101, 102]) (lo := c.toNat % 16) (hi := c.toNat % 16 + 1) ⟨_, K.at 11 38 rfl rfl⟩ ⟨_, K.at 14 41 rfl rfl⟩ (by omega) (show c.toNat % 16 + 1 ≤ 16 by omega)) ?_
      refine HM.still (fun _ => Bel.refl _ _) (fun f h K => Runs.addS (K.at 9 36 rfl rfl) (K.at 15 42 rfl rfl) (by simp only [List.length_append, List.length_drop, List.length_take, List.length_cons, List.length_nil]; omega)) ?_
      refine HM.still (fun _ => Bel.refl _ _) (fun f h K => Runs.assign (K.at 16 43 rfl rfl)) ?_
      intro f' h5 hR V O
      have g2 := last_at V 17 2 rfl
      refine HW.ret ?_
      exact RT.one rfl g2 ⟨by rw [one_low hno h9 h3, hexd_at _ (by omega), hexd_at _ (by omega)], X4.ext hR (Nat.le_refl _)⟩
    · skip
      -- region 10
      repeat refine HW.seq ?_
      refine HW.region ?_
      refine HL.still (Runs.move p0) ?_
      intro u25 e25
      refine HL.still (Runs.lss e25 rfl (t := false) (decide_eq_false (by omega))) ?_
      intro u26 e26
      refine HL.nil ?_
      refine HW.no e26 ?_
      refine HW.skip ?_
      -- region 12
      repeat refine HW.seq ?_
      refine HW.region ?_
      refine HL.still (Runs.move p0) ?_
      intro u44 e44
      refine HL.one (HO.call Tryz.func62 bd62 nm62 (args1 e44) rfl ((bytes1_ch v c hc).mono ?_))
      rintro _ h5 ⟨rfl, X5⟩
      intro u45 e45
      refine HL.still (Runs.assign e45) ?_
      intro u2 e2
      refine HL.nil ?_
      refine HW.ret ?_
      exact RT.one rfl e2 ⟨by rw [one_plain hno h9 h3]; simp, X4.ext X5 (Nat.le_refl _)⟩
end Go.Proofs.YtjopikfkgjbcgaaGreatDoor
/-! A text in quotes: onionskinref10.Quote. -/
namespace Go.Proofs.YtjopikfkgjbcgaaGreatDoor
set_option linter.unnecessarySimpa false
set_option linter.unusedSimpArgs false
set_option linter.unusedVariables false
open Go.RowKit
set_option maxRecDepth 10000 in
set_option maxHeartbeats 1000000 in
theorem quote_ch (h : Heap) (s : List UInt8) (hs : s.length ≤ 1000) : CH Tryz.prog 46 #[.string (strOf s)] h fun v h' => v = .string (strOf (34 :: (quoI s ++ [34]))) ∧ Ext h h' := by
  refine CH.of_body Tryz.func46 rfl rfl rfl ?_
  intro f hf
  have p0 : f 0 = .string (strOf s) := by rw [hf]; exact fr0_at rfl
  have hq := quoN_len s.length s
  -- region 0
  repeat refine HW.seq ?_
  refine HW.region ?_
  refine HL.still (Runs.assign rfl) ?_
  intro u2 e2
  refine HL.nil ?_
  -- region 1
  repeat refine HW.seq ?_
  refine HW.region ?_
  refine HL.still (Runs.assign rfl) ?_
  intro u3 e3
  refine HL.nil ?_
  repeat refine HW.seq ?_
  refine HW.block ?_
  refine HW.loop (fun m f u => ∃ t acc : List UInt8, t.length ≤ m ∧ t.length ≤ s.length ∧ f 0 = .string (strOf t) ∧ f 3 = .string (strOf (34 :: acc)) ∧ acc ++ quoN m t = quoI s ∧ Ext h u) s.length
    ⟨s, [], Nat.le_refl _, Nat.le_refl _, p0, e3, rfl, Bel.refl _ _⟩ ?_
  clear e2 e3 p0
  rintro m f u ⟨t, acc, htm, hts, f0, f3, hacc, hX⟩
  have hal : acc.length ≤ 6000 := by
    have := congrArg List.length hacc
    rw [List.length_append] at this
    unfold quoI at this
    omega
  by_cases hne : t = []
  · subst hne
    rw [quoN_nil, List.append_nil] at hacc
    -- region 2
    repeat refine HW.seq ?_
    refine HW.region ?_
    refine HL.still (Runs.move f0) ?_
    intro u6 e6
    refine HL.still (Runs.neqS e6 rfl (t := false) rfl) ?_
    intro u7 e7
    refine HL.nil ?_
    refine HW.no e7 ?_
    refine HW.exitHere ?_
    -- region 11
    repeat refine HW.seq ?_
    refine HW.region ?_
    refine HL.still (Runs.move f3) ?_
    intro u34 e34
    refine HL.still (Runs.addS e34 rfl (xs := 34 :: acc) (ys := [34]) (by simp only [List.length_cons, List.length_nil]; omega)) ?_
    intro u35 e35
    refine HL.still (Runs.assign e35) ?_
    intro u2 e2
    refine HL.nil ?_
    refine HW.ret ?_
    exact RT.one rfl e2 ⟨by rw [hacc]; rfl, hX⟩
  · have hpos : 0 < t.length := List.length_pos_iff.2 hne
    obtain ⟨m, rfl⟩ : ∃ m', m = m' + 1 := ⟨m - 1, by omega⟩
    rw [quoN, if_neg hne] at hacc
    have hle := sizeO_le t
    -- region 2
    repeat refine HW.seq ?_
    refine HW.region ?_
    refine HL.still (Runs.move f0) ?_
    intro u6 e6
    refine HL.still (Runs.neqS e6 rfl (t := true) (by cases t with | nil => exact absurd rfl hne | cons _ _ => rfl)) ?_
    intro u7 e7
    refine HL.nil ?_
    refine HW.yes e7 ?_
    refine HW.skip ?_
    repeat refine HW.seq ?_
    refine HW.block ?_
    -- region 3
    repeat refine HW.seq ?_
    refine HW.region ?_
    refine HL.still (Runs.move f0) ?_
    intro u9 e9
    refine HL.one (HO.call Tryz.func61 bd61 nm61 (args1 e9) rfl ((charV_ch u t (by omega) hpos).mono ?_))
    rintro _ h9 ⟨⟨r, rfl, hr⟩, rfl⟩
    intro u10 e10
    refine HL.still (Runs.move e10) ?_
    intro u8 e8
    refine HL.still (Runs.extr e8 rfl) ?_
    intro u11 e11
    refine HL.still (Runs.extr e8 rfl) ?_
    intro u12 e12
    refine HL.still (Runs.assign e11) ?_
    intro u4 e4
    refine HL.still (Runs.assign e12) ?_
    intro u5 e5
    refine HL.nil ?_
    have g4 : u4 = I64 r := e4
    have g5 : u5 = I64 (sizeO t : Int) := e5
    by_cases hz : sizeO t = 0
    · rw [if_pos hz] at hacc
      -- region 4
      repeat refine HW.seq ?_
      refine HW.region ?_
      refine HL.still (Runs.move g5) ?_
      intro u13 e13
      refine HL.still (Runs.eql e13 rfl (t := true) (by simp [hz])) ?_
      intro u14 e14
      refine HL.nil ?_
      refine HW.yes e14 ?_
      repeat refine HW.seq ?_
      -- region 5
      repeat refine HW.seq ?_
      refine HW.region ?_
      refine HL.still (Runs.move f3) ?_
      intro u15 e15
      refine HL.one (HO.call Tryz.func62 bd62 nm62 (args1 rfl) rfl ((bytesB_ch h9).mono ?_))
      rintro _ h3 ⟨rfl, X3⟩
      intro u16 e16
      refine HL.still (Runs.addS e15 e16 (xs := 34 :: acc) (ys := bad3) (by simp only [List.length_cons]; unfold bad3; simp only [List.length_cons, List.length_nil]; omega)) ?_
      intro u17 e17
      refine HL.still (Runs.assign e17) ?_
      intro u3 e3
      refine HL.nil ?_
      have g3 := e3
      -- region 6
      repeat refine HW.seq ?_
      refine HW.region ?_
      refine HL.still (Runs.move f0) ?_
      intro u18 e18
      refine HL.still (Runs.sliceS Tryz.underlying9 e18 (lo := 1) (hi := t.length) ⟨_, rfl⟩ rfl (by omega) (Nat.le_refl _)) ?_
      intro u19 e19
      refine HL.still (Runs.assign e19) ?_
      intro u0 e0
      refine HL.nil ?_
      refine HW.exitHere ?_
      exact ⟨m, by omega, t.drop 1, acc ++ bad3, by rw [List.length_drop]; omega, by rw [List.length_drop]; omega, by rw [e0]; simp, g3, by rw [List.append_assoc]; exact hacc, hX.ext X3 (Nat.le_refl _)⟩
    · rw [if_neg hz] at hacc
      have hzl : sizeO t ≤ t.length := sizeO_len hpos
      -- region 4
      repeat refine HW.seq ?_
      refine HW.region ?_
      refine HL.still (Runs.move g5) ?_
      intro u13 e13
      refine HL.still (Runs.eql e13 rfl (t := false) (by simp [hz])) ?_
      intro u14 e14
      refine HL.nil ?_
      refine HW.no e14 ?_
      refine HW.skip ?_
      by_cases h1 : sizeO t = 1
      · rw [if_pos h1] at hacc
        have hc : (t.getD 0 0).toNat < 128 := by
          have := size_one.1 h1
          unfold at8 at this
          omega
        have g4' : u4 = I64 ((t.getD 0 0).toNat : Nat) := g4.trans (by rw [hr.1 h1]; rfl)
        have hol := oneQ_len (t.getD 0 0).toNat
        have hre : (at8 t 0).toNat = (t.getD 0 0).toNat := rfl
        rw [hre] at hacc
        -- region 7
        repeat refine HW.seq ?_
        refine HW.region ?_
        refine HL.still (Runs.move g4') ?_
        intro u20 e20
        refine HL.still (Runs.lss e20 rfl (t := true) (decide_eq_true (by omega))) ?_
        intro u21 e21
        refine HL.nil ?_
        refine HW.yes e21 ?_
        -- region 8
        repeat refine HW.seq ?_
        refine HW.region ?_
        refine HL.still (Runs.move f3) ?_
        intro u22 e22
        refine HL.still (Runs.move g4') ?_
        intro u23 e23
        refine HL.one (HO.call Tryz.func63 bd63 nm63 (args1 e23) rfl ((one_ch h9 (t.getD 0 0) hc).mono ?_))
        rintro _ h3 ⟨rfl, X3⟩
        intro u24 e24
        refine HL.still (Runs.addS e22 e24 (xs := 34 :: acc) (by simp only [List.length_cons]; omega)) ?_
        intro u25 e25
        refine HL.still (Runs.assign e25) ?_
        intro u3 e3
        refine HL.nil ?_
        have g3 := e3
        -- region 10
        repeat refine HW.seq ?_
        refine HW.region ?_
        refine HL.still (Runs.move f0) ?_
        intro u31 e31
        refine HL.still (Runs.move g5) ?_
        intro u32 e32
        refine HL.still (Runs.sliceS Tryz.underlying9 e31 (lo := sizeO t) (hi := t.length) ⟨_, e32⟩ rfl hzl (Nat.le_refl _)) ?_
        intro u33 e33
        refine HL.still (Runs.assign e33) ?_
        intro u0 e0
        refine HL.nil ?_
        exact ⟨m, by omega, t.drop (sizeO t), acc ++ oneQ (t.getD 0 0).toNat, by rw [List.length_drop]; omega, by rw [List.length_drop]; omega, by rw [e0]; simp, g3, by rw [List.append_assoc]; exact hacc, hX.ext X3 (Nat.le_refl _)⟩
      · rw [if_neg h1] at hacc
        have h128 := hr.2 (by omega)
        -- region 7
        repeat refine HW.seq ?_
        refine HW.region ?_
        refine HL.still (Runs.move g4) ?_
        intro u20 e20
        refine HL.still (Runs.lss e20 rfl (t := false) (decide_eq_false (by omega))) ?_
        intro u21 e21
        refine HL.nil ?_
        refine HW.no e21 ?_
        -- region 9
        repeat refine HW.seq ?_
        refine HW.region ?_
        refine HL.still (Runs.move f3) ?_
        intro u26 e26
        refine HL.still (Runs.move f0) ?_
        intro u27 e27
        refine HL.still (Runs.move g5) ?_
        intro u28 e28
        refine HL.still (Runs.sliceS Tryz.underlying9 e27 (lo := 0) (hi := sizeO t) rfl ⟨_, e28⟩ (Nat.zero_le _) hzl) ?_
        intro u29 e29
        refine HL.still (Runs.addS e26 e29 (xs := 34 :: acc) (ys := (t.take (sizeO t)).drop 0) (by simp only [List.length_cons, List.length_drop, List.length_take]; omega)) ?_
        intro u30 e30
        refine HL.still (Runs.assign e30) ?_
        intro u3 e3
        refine HL.nil ?_
        have g3 := e3
        -- region 10
        repeat refine HW.seq ?_
        refine HW.region ?_
        refine HL.still (Runs.move f0) ?_
        intro u31 e31
        refine HL.still (Runs.move g5) ?_
        intro u32 e32
        refine HL.still (Runs.sliceS Tryz.underlying9 e31 (lo := sizeO t) (hi := t.length) ⟨_, e32⟩ rfl hzl (Nat.le_refl _)) ?_
        intro u33 e33
        refine HL.still (Runs.assign e33) ?_
        intro u0 e0
        refine HL.nil ?_
        exact ⟨m, by omega, t.drop (sizeO t), acc ++ t.take (sizeO t), by rw [List.length_drop]; omega, by rw [List.length_drop]; omega, by rw [e0]; simp, g3, by rw [List.append_assoc]; exact hacc, hX⟩
end Go.Proofs.YtjopikfkgjbcgaaGreatDoor
