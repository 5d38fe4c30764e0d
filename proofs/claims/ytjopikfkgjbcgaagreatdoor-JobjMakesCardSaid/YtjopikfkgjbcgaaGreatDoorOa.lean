/- strings.TrimLeft of a set of ascii; how many digits a text begins with: jtext.digits. -/
import Derived.Test.YtjopikfkgjbcgaaGreatDoorNa
namespace Go.Proofs.YtjopikfkgjbcgaaGreatDoor
set_option linter.unnecessarySimpa false
set_option linter.unusedSimpArgs false
set_option linter.unusedVariables false
open Go.RowKit
theorem sz123 : (Tryz.prog.info? 123).map (·.size) = some 256 := by kernel_rfl
abbrev Vb (t : Bool) : Value := .bool t
theorem zr123 : (Tryz.prog.info? 123).map (·.zero) = some (some (.agg ((List.replicate 256 false).map Vb).toArray)) := by kernel_rfl
theorem has_ch (h : Heap) (b : Nat) (l : List Bool) (hl : l.length = 256) (c : UInt8) (hb : h[b]? = some (.cells (l.map Vb).toArray 123 (0, 0))) : CH Tryz.prog 99 #[.pointer (some ⟨b, 0, none⟩), B8 c] h fun v h' => v = .bool (l.getD c.toNat false) ∧ h' = h := by
  refine CH.of_body Tryz.func99 rfl rfl rfl ?_
  intro f hf
  have p0 : f 0 = .pointer (some ⟨b, 0, none⟩) := by rw [hf]; exact fr0_at rfl
  have p1 : f 1 = B8 c := by rw [hf]; exact fr0_at rfl
  have hc := c.toNat_lt
  -- region 0
  repeat refine HW.seq ?_
  refine HW.region ?_
  refine HL.still (Runs.assign rfl) ?_
  intro u4 e4
  refine HL.nil ?_
  -- region 1
  repeat refine HW.seq ?_
  refine HW.region ?_
  refine HL.still (Runs.move p0) ?_
  intro u5 e5
  refine HL.still (Runs.move p1) ?_
  intro u6 e6
  refine HL.still (Runs.nilc e5) ?_
  intro u7 e7
  refine HL.still (Runs.ixArr (o' := c.toNat) Tryz.underlying123 sz4 e7 e6 (by omega) (by omega) (by omega)) ?_
  intro u8 e8
  refine HL.still (Runs.load Tryz.underlying4 rfl e8 (cellH_map (j := c.toNat) false hb (by omega))) ?_
  intro u9 e9
  refine HL.still (Runs.assign e9) ?_
  intro u4 e4
  refine HL.nil ?_
  refine HW.ret ?_
  exact RT.one rfl e4 ⟨rfl, rfl⟩
def mkSet (s : List UInt8) : List Bool := s.foldl (fun l c => l.set c.toNat true) (List.replicate 256 false)
theorem foldl_set_len (s : List UInt8) (l : List Bool) : (s.foldl (fun l c => l.set c.toNat true) l).length = l.length := by
  induction s generalizing l with
  | nil => rfl
  | cons c s ih => simp [ih]
theorem mkSet_len (s : List UInt8) : (mkSet s).length = 256 := by
  unfold mkSet
  rw [foldl_set_len, List.length_replicate]
theorem mkSet_succ (s : List UInt8) (k : Nat) (h : k < s.length) : mkSet (s.take (k + 1)) = (mkSet (s.take k)).set (s.getD k 0).toNat true := by
  unfold mkSet
  rw [List.take_add_one, List.getElem?_eq_getElem h, List.foldl_append, show s.getD k 0 = s[k] by simp [h]]
  rfl
set_option maxRecDepth 10000 in
theorem mkset_ch (h : Heap) (s : List UInt8) (hs : s.length < 4611686018427387904) (ha : ∀ k, k < s.length → (s.getD k 0).toNat < 128) : CH Tryz.prog 96 #[.string (strOf s)] h fun v h' => v = .tuple #[.agg ((mkSet s).map Vb).toArray, .bool true] ∧ Ext h h' := by
  refine CH.of_body Tryz.func96 rfl rfl rfl ?_
  intro f hf
  have p0 : f 0 = .string (strOf s) := by rw [hf]; exact fr0_at rfl
  -- region 0
  repeat refine HW.seq ?_
  refine HW.region ?_
  refine HL.one (HO.alloc zr123 ?_)
  intro h1 w1
  intro u2 e2
  refine HL.still (Runs.assign rfl) ?_
  intro u3 e3
  refine HL.nil ?_
  have z1 := w1.size
  -- region 1
  repeat refine HW.seq ?_
  refine HW.region ?_
  refine HL.still (Runs.assign rfl) ?_
  intro u4 e4
  refine HL.nil ?_
  repeat refine HW.seq ?_
  refine HW.block ?_
  refine HW.loop (fun m f g => ∃ k : Nat, k ≤ s.length ∧ m = s.length - k ∧ f 4 = I64 k ∧ f 0 = .string (strOf s) ∧ f 2 = .pointer (some ⟨h.size, 0, none⟩) ∧ g[h.size]? = some (.cells ((mkSet (s.take k)).map Vb).toArray 123 (0, 0)) ∧ Ext h g) s.length
    ⟨0, Nat.zero_le _, rfl, e4, p0, e2, w1.new, w1.ext⟩ ?_
  rintro m f g ⟨k, hk, hm, f4, f0, f2, hb, hX⟩
  have hl := mkSet_len (s.take k)
  by_cases hlt : k < s.length
  · have hc := ha k hlt
    -- region 2
    repeat refine HW.seq ?_
    refine HW.region ?_
    refine HL.still (Runs.move f4) ?_
    intro u6 e6
    refine HL.still (Runs.move f0) ?_
    intro u7 e7
    refine HL.still (Runs.lenS rfl Tryz.underlying9 e7) ?_
    intro u8 e8
    refine HL.still (Runs.lss e6 e8 rfl) ?_
    intro u9 e9
    refine HL.nil ?_
    repeat refine HW.seq ?_
    refine HW.yes ?_ ?_
    exact e9.trans (congrArg Value.bool (decide_eq_true (by omega)))
    refine HW.skip ?_
    repeat refine HW.seq ?_
    refine HW.block ?_
    -- region 4
    repeat refine HW.seq ?_
    refine HW.region ?_
    refine HL.still (Runs.move f0) ?_
    intro u12 e12
    refine HL.still (Runs.move f4) ?_
    intro u13 e13
    refine HL.still (Runs.ixS Tryz.underlying9 e12 e13 (j := k) rfl (at8_get hlt)) ?_
    intro u14 e14
    refine HL.still (Runs.assign e14) ?_
    intro u5 e5
    refine HL.nil ?_
    -- region 5
    repeat refine HW.seq ?_
    refine HW.region ?_
    refine HL.still (Runs.move e5) ?_
    intro u15 e15
    refine HL.still (Runs.geq e15 rfl rfl) ?_
    intro u16 e16
    refine HL.nil ?_
    repeat refine HW.seq ?_
    refine HW.no ?_ ?_
    exact e16.trans (congrArg Value.bool (decide_eq_false (by omega)))
    refine HW.skip ?_
    -- region 7
    repeat refine HW.seq ?_
    refine HW.region ?_
    refine HL.still (Runs.move e5) ?_
    intro u18 e18
    refine HL.still (Runs.ixArr (o' := (s.getD k 0).toNat) Tryz.underlying123 sz4 f2 e18 (by omega) (by omega) (by omega)) ?_
    intro u19 e19
    refine HL.zero (HO.store (s := 1) sz4 e19 rfl rfl hb (by rw [List.length_map]; omega) rfl ?_)
    intro h3 w3
    refine HL.nil ?_
    have hb3 := w3.new
    rw [← List.map_set, ← mkSet_succ s k hlt] at hb3
    -- region 3
    repeat refine HW.seq ?_
    refine HW.region ?_
    refine HL.still (Runs.move f4) ?_
    intro u10 e10
    refine HL.still (Runs.add e10 rfl (i64w (by omega))) ?_
    intro u11 e11
    refine HL.still (Runs.assign e11) ?_
    intro u4 e4
    refine HL.nil ?_
    exact ⟨s.length - (k + 1), by omega, k + 1, by omega, rfl, e4, f0, f2, hb3, hX.wr w3 (Nat.le_refl _)⟩
  · have hkl : k = s.length := by omega
    subst hkl
    rw [List.take_of_length_le (Nat.le_refl _)] at hb hl
    -- region 2
    repeat refine HW.seq ?_
    refine HW.region ?_
    refine HL.still (Runs.move f4) ?_
    intro u6 e6
    refine HL.still (Runs.move f0) ?_
    intro u7 e7
    refine HL.still (Runs.lenS rfl Tryz.underlying9 e7) ?_
    intro u8 e8
    refine HL.still (Runs.lss e6 e8 rfl) ?_
    intro u9 e9
    refine HL.nil ?_
    repeat refine HW.seq ?_
    refine HW.no ?_ ?_
    exact e9.trans (congrArg Value.bool (decide_eq_false (by omega)))
    refine HW.exitHere ?_
    -- region 8
    repeat refine HW.seq ?_
    refine HW.region ?_
    refine HL.still (Runs.loadAgg Tryz.underlying123 rfl sz123 f2 (by rw [List.length_map]; exact hl) (load_blk hb)) ?_
    intro u20 e20
    refine HL.zero (HO.storeAll sz123 f2 e20 (one_map Vb (fun _ => rfl) _) hb (by rw [List.length_map]; exact hl) (by rw [List.length_map]; exact hl) ?_)
    intro h3 w3
    refine HL.still (Runs.assign rfl) ?_
    intro u3 e3
    refine HL.nil ?_
    refine HW.ret ?_
    exact RT.cellTmp rfl f2 e3 w3.new Tryz.underlying123 rfl sz123 (by rw [List.length_map]; exact hl) ⟨rfl, hX.wr w3 (Nat.le_refl _)⟩
set_option maxRecDepth 10000 in
theorem tla_ch (h : Heap) (s : List UInt8) (b : Nat) (l : List Bool) (hl : l.length = 256) (hb : h[b]? = some (.cells (l.map Vb).toArray 123 (0, 0))) (hs : s.length < 4611686018427387904) : CH Tryz.prog 97 #[.string (strOf s), .pointer (some ⟨b, 0, none⟩)] h fun v h' => v = .string (strOf (s.dropWhile (fun c => l.getD c.toNat false))) ∧ h' = h := by
  refine CH.of_body Tryz.func97 rfl rfl rfl ?_
  intro f hf
  have p0 : f 0 = .string (strOf s) := by rw [hf]; exact fr0_at rfl
  have p1 : f 1 = .pointer (some ⟨b, 0, none⟩) := by rw [hf]; exact fr0_at rfl
  -- region 0
  repeat refine HW.seq ?_
  refine HW.region ?_
  refine HL.still (Runs.assign rfl) ?_
  intro u4 e4
  refine HL.nil ?_
  repeat refine HW.seq ?_
  refine HW.block ?_
  refine HW.loop (fun m f h' => ∃ t : List UInt8, m = t.length ∧ t.length ≤ s.length ∧ f 0 = .string (strOf t) ∧ f 1 = .pointer (some ⟨b, 0, none⟩) ∧ t.dropWhile (fun c => l.getD c.toNat false) = s.dropWhile (fun c => l.getD c.toNat false) ∧ h' = h) s.length
    ⟨s, rfl, Nat.le_refl _, p0, p1, rfl, rfl⟩ ?_
  rintro m f h' ⟨t, rfl, htl, f0, f1, ht, hh'⟩
  cases t with
  | cons c t =>
    have hln : (c :: t).length = t.length + 1 := rfl
    -- region 1
    repeat refine HW.seq ?_
    refine HW.region ?_
    refine HL.still (Runs.move f0) ?_
    intro u5 e5
    refine HL.still (Runs.lenS rfl Tryz.underlying9 e5) ?_
    intro u6 e6
    refine HL.still (Runs.gtr e6 rfl rfl) ?_
    intro u7 e7
    refine HL.nil ?_
    repeat refine HW.seq ?_
    refine HW.yes ?_ ?_
    exact e7.trans (congrArg Value.bool (decide_eq_true (by omega)))
    refine HW.skip ?_
    repeat refine HW.seq ?_
    refine HW.block ?_
    -- region 2
    repeat refine HW.seq ?_
    refine HW.region ?_
    refine HL.still (Runs.move f1) ?_
    intro u8 e8
    refine HL.still (Runs.move f0) ?_
    intro u9 e9
    refine HL.still (Runs.ixS Tryz.underlying9 e9 rfl (j := 0) rfl rfl) ?_
    intro u10 e10
    refine HL.one (HO.call Tryz.func99 bd99 nm99 (args2 e8 e10) rfl ((has_ch _ b l hl c (by rw [hh']; exact hb)).mono ?_))
    rintro _ hq ⟨rfl, hhq⟩
    intro u11 e11
    refine HL.still (Runs.notb e11 (u := !(l.getD c.toNat false)) rfl) ?_
    intro u12 e12
    refine HL.nil ?_
    rw [List.dropWhile_cons] at ht
    cases hy : l.getD c.toNat false with
    | true =>
      rw [hy] at e12 ht
      rw [if_pos rfl] at ht
      repeat refine HW.seq ?_
      refine HW.no ?_ ?_
      exact e12
      refine HW.skip ?_
      -- region 3
      repeat refine HW.seq ?_
      refine HW.region ?_
      refine HL.still (Runs.move f0) ?_
      intro u13 e13
      refine HL.still (Runs.sliceS Tryz.underlying9 e13 (lo := 1) (hi := (c :: t).length) ⟨_, rfl⟩ rfl (by simp) (Nat.le_refl _)) ?_
      intro u14 e14
      refine HL.still (Runs.assign e14) ?_
      intro u0 e0
      refine HL.nil ?_
      rw [List.take_of_length_le (Nat.le_refl _)] at e0
      exact ⟨t.length, by simp, t, rfl, by simp at htl; omega, e0, f1, ht, by rw [hhq, hh']⟩
    | false =>
      rw [hy] at e12 ht
      repeat refine HW.seq ?_
      refine HW.yes ?_ ?_
      exact e12
      refine HW.exitOut ?_
      -- region 4
      repeat refine HW.seq ?_
      refine HW.region ?_
      refine HL.still (Runs.move f0) ?_
      intro u15 e15
      refine HL.still (Runs.assign e15) ?_
      intro u4 e4
      refine HL.nil ?_
      refine HW.ret ?_
      refine RT.one rfl e4 ⟨?_, by rw [hhq, hh']⟩
      rw [← ht]
      rfl
  | nil =>
    -- region 1
    repeat refine HW.seq ?_
    refine HW.region ?_
    refine HL.still (Runs.move f0) ?_
    intro u5 e5
    refine HL.still (Runs.lenS rfl Tryz.underlying9 e5) ?_
    intro u6 e6
    refine HL.still (Runs.gtr e6 rfl (t := false) rfl) ?_
    intro u7 e7
    refine HL.nil ?_
    refine HW.no e7 ?_
    refine HW.exitHere ?_
    -- region 4
    repeat refine HW.seq ?_
    refine HW.region ?_
    refine HL.still (Runs.move f0) ?_
    intro u15 e15
    refine HL.still (Runs.assign e15) ?_
    intro u4 e4
    refine HL.nil ?_
    refine HW.ret ?_
    refine RT.one rfl e4 ⟨?_, hh'⟩
    rw [← ht]
    rfl
def dgS : List UInt8 := [48, 49, 50, 51, 52, 53, 54, 55, 56, 57]
theorem dg_asc : ∀ k, k < dgS.length → (dgS.getD k 0).toNat < 128 := fun k hk => by
  have h1 : ∀ j : Fin 10, (dgS.getD j.val 0).toNat < 128 := by decide
  exact h1 ⟨k, hk⟩
theorem dg_fin : ∀ n : Fin 256, (mkSet dgS).getD n.val false = isDg (UInt8.ofNat n.val) := by decide +kernel
theorem dg_set : (fun c : UInt8 => (mkSet dgS).getD c.toNat false) = isDg := by
  funext c
  have := dg_fin ⟨c.toNat, c.toNat_lt⟩
  simpa using this
set_option maxRecDepth 10000 in
/-- strings.TrimLeft(s, "0123456789"). -/
theorem trimL_ch (h : Heap) (s : List UInt8) (hs : s.length < 4611686018427387904) : CH Tryz.prog 89 #[.string (strOf s), .string (strOf dgS)] h fun v h' => v = .string (strOf (s.dropWhile isDg)) ∧ Ext h h' := by
  refine CH.of_body Tryz.func89 rfl rfl rfl ?_
  intro f hf
  have p0 : f 0 = .string (strOf s) := by rw [hf]; exact fr0_at rfl
  have p1 : f 1 = .string (strOf dgS) := by rw [hf]; exact fr0_at rfl
  -- region 0
  repeat refine HW.seq ?_
  refine HW.region ?_
  refine HL.still (Runs.assign rfl) ?_
  intro u4 e4
  refine HL.nil ?_
  by_cases hn : s = []
  · subst hn
    -- region 1
    repeat refine HW.seq ?_
    refine HW.region ?_
    refine HL.still (Runs.move p0) ?_
    intro u7 e7
    refine HL.still (Runs.eqS e7 rfl (ys := []) (t := true) rfl) ?_
    intro u8 e8
    refine HL.still (Runs.move e8) ?_
    intro u9 e9
    refine HL.skipG rfl rfl e9 ?_
    intro u10 e10
    refine HL.skipG rfl rfl e9 ?_
    intro u11 e11
    refine HL.still (Runs.pick e9 rfl) ?_
    intro u12 e12
    refine HL.nil ?_
    repeat refine HW.seq ?_
    refine HW.yes ?_ ?_
    exact e12
    -- region 2
    repeat refine HW.seq ?_
    refine HW.region ?_
    refine HL.still (Runs.move p0) ?_
    intro u13 e13
    refine HL.still (Runs.assign e13) ?_
    intro u4 e4
    refine HL.nil ?_
    refine HW.ret ?_
    exact RT.one rfl e4 ⟨rfl, Bel.refl _ _⟩
  · skip
    -- region 1
    repeat refine HW.seq ?_
    refine HW.region ?_
    refine HL.still (Runs.move p0) ?_
    intro u7 e7
    refine HL.still (Runs.eqS e7 rfl (ys := []) (t := false) (by simpa using hn)) ?_
    intro u8 e8
    refine HL.still (Runs.move e8) ?_
    intro u9 e9
    refine HL.stillG rfl rfl e9 (Runs.move p1) ?_
    intro u10 e10
    refine HL.stillG rfl rfl e9 (Runs.eqS e10 rfl (ys := []) (t := false) rfl) ?_
    intro u11 e11
    refine HL.still (Runs.pick e9 e11) ?_
    intro u12 e12
    refine HL.nil ?_
    repeat refine HW.seq ?_
    refine HW.no ?_ ?_
    exact e12
    refine HW.skip ?_
    -- region 3
    repeat refine HW.seq ?_
    refine HW.region ?_
    refine HL.still (Runs.move p1) ?_
    intro u14 e14
    refine HL.still (Runs.lenS rfl Tryz.underlying9 e14) ?_
    intro u15 e15
    refine HL.still (Runs.eql e15 rfl (t := false) rfl) ?_
    intro u16 e16
    refine HL.still (Runs.move e16) ?_
    intro u17 e17
    refine HL.skipG rfl rfl e17 ?_
    intro u18 e18
    refine HL.skipG rfl rfl e17 ?_
    intro u19 e19
    refine HL.skipG rfl rfl e17 ?_
    intro u20 e20
    refine HL.still (Runs.pick e17 rfl) ?_
    intro u21 e21
    refine HL.nil ?_
    repeat refine HW.seq ?_
    refine HW.no ?_ ?_
    exact e21
    refine HW.skip ?_
    -- region 5
    repeat refine HW.seq ?_
    refine HW.region ?_
    refine HL.still (Runs.move p1) ?_
    intro u27 e27
    refine HL.one (HO.call Tryz.func96 bd96 nm96 (args1 e27) rfl ((mkset_ch h dgS (by decide) dg_asc).mono ?_))
    rintro _ h1 ⟨rfl, E1⟩
    intro u28 e28
    refine HL.still (Runs.move e28) ?_
    intro u26 e26
    refine HL.still (Runs.extr e26 rfl) ?_
    intro u29 e29
    refine HL.still (Runs.extr e26 rfl) ?_
    intro u30 e30
    refine HL.one (HO.alloc zr123 ?_)
    intro h2 w2
    intro u5 e5
    refine HL.zero (HO.storeAll sz123 e5 e29 (one_map Vb (fun _ => rfl) _) w2.new (by rw [List.length_map, mkSet_len]) rfl ?_)
    intro h3 w3
    refine HL.still (Runs.assign e30) ?_
    intro u6 e6
    refine HL.nil ?_
    have z1 := E1.size
    -- region 6
    repeat refine HW.seq ?_
    refine HW.region ?_
    refine HL.still (Runs.move e6) ?_
    intro u31 e31
    refine HL.nil ?_
    repeat refine HW.seq ?_
    refine HW.yes ?_ ?_
    exact e31
    -- region 7
    repeat refine HW.seq ?_
    refine HW.region ?_
    refine HL.still (Runs.move p0) ?_
    intro u32 e32
    refine HL.one (HO.call Tryz.func97 bd97 nm97 (args2 e32 e5) rfl ((tla_ch h3 s h1.size (mkSet dgS) (mkSet_len _) w3.new hs).mono ?_))
    rintro _ h4 ⟨rfl, hh4⟩
    intro u33 e33
    refine HL.still (Runs.assign e33) ?_
    intro u4 e4
    refine HL.nil ?_
    refine HW.ret ?_
    refine RT.one rfl e4 ⟨by rw [dg_set], ?_⟩
    rw [hh4]
    exact (E1.ext w2.ext (Nat.le_refl _)).wr w3 (by omega)
theorem digs_drop (s : List UInt8) : s.length - (s.dropWhile isDg).length = digs s ∧ (s.dropWhile isDg).length ≤ s.length := by
  unfold digs
  have h1 := congrArg List.length (List.takeWhile_append_dropWhile (p := isDg) (l := s))
  rw [List.length_append] at h1
  omega
set_option maxRecDepth 10000 in
theorem digits_ch (h : Heap) (s : List UInt8) (hs : s.length < 4611686018427387904) : CH Tryz.prog 79 #[.string (strOf s)] h fun v h' => v = I64 (digs s) ∧ Ext h h' := by
  refine CH.of_body Tryz.func79 rfl rfl rfl ?_
  intro f hf
  have p0 : f 0 = .string (strOf s) := by rw [hf]; exact fr0_at rfl
  have hd := digs_drop s
  -- region 0
  repeat refine HW.seq ?_
  refine HW.region ?_
  refine HL.still (Runs.assign rfl) ?_
  intro u2 e2
  refine HL.nil ?_
  -- region 1
  repeat refine HW.seq ?_
  refine HW.region ?_
  refine HL.still (Runs.move p0) ?_
  intro u3 e3
  refine HL.still (Runs.lenS rfl Tryz.underlying9 e3) ?_
  intro u4 e4
  refine HL.still (Runs.move p0) ?_
  intro u5 e5
  refine HL.one (HO.call Tryz.func89 bd89 nm89 (args2 e5 rfl) rfl ((trimL_ch h s hs).mono ?_))
  rintro _ h1 ⟨rfl, E1⟩
  intro u6 e6
  refine HL.still (Runs.lenS rfl Tryz.underlying9 e6) ?_
  intro u7 e7
  refine HL.still (Runs.sub e4 e7 (i64w (by omega))) ?_
  intro u8 e8
  refine HL.still (Runs.assign e8) ?_
  intro u2 e2
  refine HL.nil ?_
  refine HW.ret ?_
  exact RT.one rfl e2 ⟨congrArg (Value.int .i64) (by omega), E1⟩
end Go.Proofs.YtjopikfkgjbcgaaGreatDoor
