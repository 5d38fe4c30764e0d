/- strings.TrimLeft and strings.TrimRight as octal.Read calls them. -/
import Derived.Test.YtfogkggkjmkdiaaDoorWa
namespace Go.Proofs.YtfogkggkjmkdiaaDoor
set_option linter.unnecessarySimpa false
set_option linter.unusedSimpArgs false
set_option linter.unusedVariables false
open Go.RowKit
def mkSet (s : List UInt8) : List Bool := s.foldl (fun l c => l.set c.toNat true) (List.replicate 256 false)
theorem foldl_set_len (s : List UInt8) (l : List Bool) : (s.foldl (fun l c => l.set c.toNat true) l).length = l.length := by
  induction s generalizing l with
  | nil => rfl
  | cons c s ih => simp [ih]
theorem mkSet_len (s : List UInt8) : (mkSet s).length = 256 := by
  unfold mkSet
  rw [foldl_set_len, List.length_replicate]
theorem mkSet_succ (s : List UInt8) (k : Nat) (h : k < s.length) : mkSet (s.take (k + 1)) = (mkSet (s.take k)).set (s.getD k 0).toNat true := by
  unfold mkSet
  rw [List.take_add_one, List.getElem?_eq_getElem h, List.foldl_append, show s.getD k 0 = s[k] by simp [h]]
  rfl
set_option maxRecDepth 10000 in
theorem mkset_ch (h : Heap) (s : List UInt8) (hs : s.length < 4611686018427387904) (ha : ∀ k, k < s.length → (s.getD k 0).toNat < 128) : CH Tryd.prog 45 #[.string (strOf s)] h fun v h' => v = .tuple #[.agg ((mkSet s).map Vb).toArray, .bool true] ∧ Ext h h' := by
  refine CH.of_body Tryd.func45 rfl rfl rfl ?_
  intro f hf
  have p0 : f 0 = .string (strOf s) := by rw [hf]; exact fr0_at rfl
  -- region 0
  repeat refine HW.seq ?_
  refine HW.region ?_
  refine HL.one (HO.alloc zr66 ?_)
  intro h1 w1
  intro u2 e2
  refine HL.still (Runs.assign rfl) ?_
  intro u3 e3
  refine HL.nil ?_
  have z1 := w1.size
  -- region 1
  repeat refine HW.seq ?_
  refine HW.region ?_
  refine HL.still (Runs.assign rfl) ?_
  intro u4 e4
  refine HL.nil ?_
  repeat refine HW.seq ?_
  refine HW.block ?_
  refine HW.loop (fun m f g => ∃ k : Nat, k ≤ s.length ∧ m = s.length - k ∧ f 4 = I64 k ∧ f 0 = .string (strOf s) ∧ f 2 = .pointer (some ⟨h.size, 0, none⟩) ∧ g[h.size]? = some (.cells ((mkSet (s.take k)).map Vb).toArray 66 (0, 0)) ∧ Ext h g) s.length
    ⟨0, Nat.zero_le _, rfl, e4, p0, e2, w1.new, w1.ext⟩ ?_
  rintro m f g ⟨k, hk, hm, f4, f0, f2, hb, hX⟩
  have hl := mkSet_len (s.take k)
  by_cases hlt : k < s.length
  · have hc := ha k hlt
    -- region 2
    repeat refine HW.seq ?_
    refine HW.region ?_
    refine HL.still (Runs.move f4) ?_
    intro u6 e6
    refine HL.still (Runs.move f0) ?_
    intro u7 e7
    refine HL.still (Runs.lenS rfl Tryd.underlying9 e7) ?_
    intro u8 e8
    refine HL.still (Runs.lss e6 e8 rfl) ?_
    intro u9 e9
    refine HL.nil ?_
    repeat refine HW.seq ?_
    refine HW.yes ?_ ?_
    exact e9.trans (congrArg Value.bool (decide_eq_true (by omega)))
    refine HW.skip ?_
    repeat refine HW.seq ?_
    refine HW.block ?_
    -- region 4
    repeat refine HW.seq ?_
    refine HW.region ?_
    refine HL.still (Runs.move f0) ?_
    intro u12 e12
    refine HL.still (Runs.move f4) ?_
    intro u13 e13
    refine HL.still (Runs.ixS Tryd.underlying9 e12 e13 (j := k) rfl (get_of_lt hlt)) ?_
    intro u14 e14
    refine HL.still (Runs.assign e14) ?_
    intro u5 e5
    refine HL.nil ?_
    -- region 5
    repeat refine HW.seq ?_
    refine HW.region ?_
    refine HL.still (Runs.move e5) ?_
    intro u15 e15
    refine HL.still (Runs.geq e15 rfl rfl) ?_
    intro u16 e16
    refine HL.nil ?_
    repeat refine HW.seq ?_
    refine HW.no ?_ ?_
    exact e16.trans (congrArg Value.bool (decide_eq_false (by omega)))
    refine HW.skip ?_
    -- region 7
    repeat refine HW.seq ?_
    refine HW.region ?_
    refine HL.still (Runs.move e5) ?_
    intro u18 e18
    refine HL.still (Runs.ixArr (o' := (s.getD k 0).toNat) Tryd.underlying66 sz4 f2 e18 (by omega) (by omega) (by omega)) ?_
    intro u19 e19
    refine HL.zero (HO.store (s := 1) sz4 e19 rfl rfl hb (by rw [List.length_map]; omega) rfl ?_)
    intro h3 w3
    refine HL.nil ?_
    have hb3 := w3.new
    rw [← List.map_set, ← mkSet_succ s k hlt] at hb3
    -- region 3
    repeat refine HW.seq ?_
    refine HW.region ?_
    refine HL.still (Runs.move f4) ?_
    intro u10 e10
    refine HL.still (Runs.add e10 rfl (i64w (by omega))) ?_
    intro u11 e11
    refine HL.still (Runs.assign e11) ?_
    intro u4 e4
    refine HL.nil ?_
    exact ⟨s.length - (k + 1), by omega, k + 1, by omega, rfl, e4, f0, f2, hb3, hX.wr w3 (Nat.le_refl _)⟩
  · have hkl : k = s.length := by omega
    subst hkl
    rw [List.take_of_length_le (Nat.le_refl _)] at hb hl
    -- region 2
    repeat refine HW.seq ?_
    refine HW.region ?_
    refine HL.still (Runs.move f4) ?_
    intro u6 e6
    refine HL.still (Runs.move f0) ?_
    intro u7 e7
    refine HL.still (Runs.lenS rfl Tryd.underlying9 e7) ?_
    intro u8 e8
    refine HL.still (Runs.lss e6 e8 rfl) ?_
    intro u9 e9
    refine HL.nil ?_
    repeat refine HW.seq ?_
    refine HW.no ?_ ?_
    exact e9.trans (congrArg Value.bool (decide_eq_false (by omega)))
    refine HW.exitHere ?_
    -- region 8
    repeat refine HW.seq ?_
    refine HW.region ?_
    refine HL.still (Runs.loadAgg Tryd.underlying66 rfl sz66 f2 (by rw [List.length_map]; exact hl) (load_blk hb)) ?_
    intro u20 e20
    refine HL.zero (HO.storeAll sz66 f2 e20 (one_map Vb (fun _ => rfl) _) hb (by rw [List.length_map]; exact hl) (by rw [List.length_map]; exact hl) ?_)
    intro h3 w3
    refine HL.still (Runs.assign rfl) ?_
    intro u3 e3
    refine HL.nil ?_
    refine HW.ret ?_
    exact RT.cellTmp rfl f2 e3 w3.new Tryd.underlying66 rfl sz66 (by rw [List.length_map]; exact hl) ⟨rfl, hX.wr w3 (Nat.le_refl _)⟩
theorem tra_ch (h : Heap) (s : List UInt8) (b : Nat) (l : List Bool) (hl : l.length = 256) (hb : h[b]? = some (.cells (l.map Vb).toArray 66 (0, 0))) (hs : s.length < 4611686018427387904) : CH Tryd.prog 46 #[.string (strOf s), .pointer (some ⟨b, 0, none⟩)] h fun v h' => v = .string (strOf (cutR (fun c => l.getD c.toNat false) s)) ∧ h' = h := by
  refine CH.of_body Tryd.func46 rfl rfl rfl ?_
  intro f hf
  have p0 : f 0 = .string (strOf s) := by rw [hf]; exact fr0_at rfl
  have p1 : f 1 = .pointer (some ⟨b, 0, none⟩) := by rw [hf]; exact fr0_at rfl
  -- region 0
  repeat refine HW.seq ?_
  refine HW.region ?_
  refine HL.still (Runs.assign rfl) ?_
  intro u4 e4
  refine HL.nil ?_
  repeat refine HW.seq ?_
  refine HW.block ?_
  refine HW.loop (fun m f h' => ∃ t : List UInt8, m = t.length ∧ t.length ≤ s.length ∧ f 0 = .string (strOf t) ∧ f 1 = .pointer (some ⟨b, 0, none⟩) ∧ cutR (fun c => l.getD c.toNat false) t = cutR (fun c => l.getD c.toNat false) s ∧ h' = h) s.length
    ⟨s, rfl, Nat.le_refl _, p0, p1, rfl, rfl⟩ ?_
  rintro m f h' ⟨t, rfl, htl, f0, f1, ht, hh'⟩
  by_cases hpos : 0 < t.length
  · have hsp := last_split t hpos
    obtain ⟨c, hc⟩ : ∃ c, c = t.getD (t.length - 1) 0 := ⟨_, rfl⟩
    rw [← hc] at hsp
    -- region 1
    repeat refine HW.seq ?_
    refine HW.region ?_
    refine HL.still (Runs.move f0) ?_
    intro u5 e5
    refine HL.still (Runs.lenS rfl Tryd.underlying9 e5) ?_
    intro u6 e6
    refine HL.still (Runs.gtr e6 rfl rfl) ?_
    intro u7 e7
    refine HL.nil ?_
    repeat refine HW.seq ?_
    refine HW.yes ?_ ?_
    exact e7.trans (congrArg Value.bool (decide_eq_true (by omega)))
    refine HW.skip ?_
    repeat refine HW.seq ?_
    refine HW.block ?_
    -- region 2
    repeat refine HW.seq ?_
    refine HW.region ?_
    refine HL.still (Runs.move f1) ?_
    intro u8 e8
    refine HL.still (Runs.move f0) ?_
    intro u9 e9
    refine HL.still (Runs.move f0) ?_
    intro u10 e10
    refine HL.still (Runs.lenS rfl Tryd.underlying9 e10) ?_
    intro u11 e11
    refine HL.still (Runs.sub e11 rfl (i64w (by omega))) ?_
    intro u12 e12
    refine HL.still (Runs.ixS Tryd.underlying9 e9 e12 (j := t.length - 1) (by omega) (get_of_lt (by omega))) ?_
    intro u13 e13
    refine HL.one (HO.call Tryd.func54 bd54 nm54 (args2 e8 e13) rfl ((has_ch _ b l hl _ (by rw [hh']; exact hb)).mono ?_))
    rintro _ hq ⟨rfl, hhq⟩
    intro u14 e14
    refine HL.still (Runs.notb e14 (u := !(l.getD (t.getD (t.length - 1) 0).toNat false)) rfl) ?_
    intro u15 e15
    refine HL.nil ?_
    rw [← hc] at e15
    cases hy : l.getD c.toNat false with
    | true =>
      rw [hy] at e15
      repeat refine HW.seq ?_
      refine HW.no ?_ ?_
      exact e15
      refine HW.skip ?_
      -- region 3
      repeat refine HW.seq ?_
      refine HW.region ?_
      refine HL.still (Runs.move f0) ?_
      intro u16 e16
      refine HL.still (Runs.move f0) ?_
      intro u17 e17
      refine HL.still (Runs.lenS rfl Tryd.underlying9 e17) ?_
      intro u18 e18
      refine HL.still (Runs.sub e18 rfl (i64w (by omega))) ?_
      intro u19 e19
      refine HL.still (Runs.sliceS Tryd.underlying9 e16 (lo := 0) (hi := t.length - 1) rfl ⟨_, e19.trans (congrArg (Value.int .i64) (by omega))⟩ (Nat.zero_le _) (by omega)) ?_
      intro u20 e20
      refine HL.still (Runs.assign e20) ?_
      intro u0 e0
      refine HL.nil ?_
      rw [List.drop_zero] at e0
      refine ⟨(t.take (t.length - 1)).length, by simp; omega, _, rfl, by simp; omega, e0, f1, ?_, by rw [hhq, hh']⟩
      rw [← ht]
      conv => rhs; rw [hsp]
      exact (cutR_yes _ _ _ hy).symm
    | false =>
      rw [hy] at e15
      repeat refine HW.seq ?_
      refine HW.yes ?_ ?_
      exact e15
      refine HW.exitOut ?_
      -- region 4
      repeat refine HW.seq ?_
      refine HW.region ?_
      refine HL.still (Runs.move f0) ?_
      intro u21 e21
      refine HL.still (Runs.assign e21) ?_
      intro u4 e4
      refine HL.nil ?_
      refine HW.ret ?_
      refine RT.one rfl e4 ⟨?_, by rw [hhq, hh']⟩
      rw [← ht, hsp, cutR_no _ _ _ hy]
  · skip
    -- region 1
    repeat refine HW.seq ?_
    refine HW.region ?_
    refine HL.still (Runs.move f0) ?_
    intro u5 e5
    refine HL.still (Runs.lenS rfl Tryd.underlying9 e5) ?_
    intro u6 e6
    refine HL.still (Runs.gtr e6 rfl rfl) ?_
    intro u7 e7
    refine HL.nil ?_
    repeat refine HW.seq ?_
    refine HW.no ?_ ?_
    exact e7.trans (congrArg Value.bool (decide_eq_false (by omega)))
    refine HW.exitHere ?_
    -- region 4
    repeat refine HW.seq ?_
    refine HW.region ?_
    refine HL.still (Runs.move f0) ?_
    intro u21 e21
    refine HL.still (Runs.assign e21) ?_
    intro u4 e4
    refine HL.nil ?_
    refine HW.ret ?_
    refine RT.one rfl e4 ⟨?_, hh'⟩
    rw [← ht]
    have : t = [] := List.length_eq_zero_iff.1 (by omega)
    subst this
    rfl
def isPad (c : UInt8) : Bool := c == 32 || c == 0
theorem pad_fin : ∀ n : Fin 256, (mkSet [32, 0]).getD n.val false = isPad (UInt8.ofNat n.val) := by decide +kernel
theorem pad_set : (fun c : UInt8 => (mkSet [32, 0]).getD c.toNat false) = isPad := by
  funext c
  have := pad_fin ⟨c.toNat, c.toNat_lt⟩
  simpa using this
set_option maxRecDepth 10000 in
/-- strings.TrimRight(s, " \\x00"). -/
theorem trimR_ch (h : Heap) (s : List UInt8) (hs : s.length < 4611686018427387904) : CH Tryd.prog 29 #[.string (strOf s), .string (strOf [32, 0])] h fun v h' => v = .string (strOf (cutR isPad s)) ∧ Ext h h' := by
  refine CH.of_body Tryd.func29 rfl rfl rfl ?_
  intro f hf
  have p0 : f 0 = .string (strOf s) := by rw [hf]; exact fr0_at rfl
  have p1 : f 1 = .string (strOf [32, 0]) := by rw [hf]; exact fr0_at rfl
  -- region 0
  repeat refine HW.seq ?_
  refine HW.region ?_
  refine HL.still (Runs.assign rfl) ?_
  intro u4 e4
  refine HL.nil ?_
  by_cases hn : s = []
  · subst hn
    -- region 1
    repeat refine HW.seq ?_
    refine HW.region ?_
    refine HL.still (Runs.move p0) ?_
    intro u7 e7
    refine HL.still (Runs.eqS e7 rfl (ys := []) (t := true) rfl) ?_
    intro u8 e8
    refine HL.still (Runs.move e8) ?_
    intro u9 e9
    refine HL.skipG rfl rfl e9 ?_
    intro u10 e10
    refine HL.skipG rfl rfl e9 ?_
    intro u11 e11
    refine HL.still (Runs.pick e9 rfl) ?_
    intro u12 e12
    refine HL.nil ?_
    repeat refine HW.seq ?_
    refine HW.yes ?_ ?_
    exact e12
    -- region 2
    repeat refine HW.seq ?_
    refine HW.region ?_
    refine HL.still (Runs.move p0) ?_
    intro u13 e13
    refine HL.still (Runs.assign e13) ?_
    intro u4 e4
    refine HL.nil ?_
    refine HW.ret ?_
    exact RT.one rfl e4 ⟨rfl, Bel.refl _ _⟩
  · skip
    -- region 1
    repeat refine HW.seq ?_
    refine HW.region ?_
    refine HL.still (Runs.move p0) ?_
    intro u7 e7
    refine HL.still (Runs.eqS e7 rfl (ys := []) (t := false) (by simpa using hn)) ?_
    intro u8 e8
    refine HL.still (Runs.move e8) ?_
    intro u9 e9
    refine HL.stillG rfl rfl e9 (Runs.move p1) ?_
    intro u10 e10
    refine HL.stillG rfl rfl e9 (Runs.eqS e10 rfl (ys := []) (t := false) rfl) ?_
    intro u11 e11
    refine HL.still (Runs.pick e9 e11) ?_
    intro u12 e12
    refine HL.nil ?_
    repeat refine HW.seq ?_
    refine HW.no ?_ ?_
    exact e12
    refine HW.skip ?_
    -- region 3
    repeat refine HW.seq ?_
    refine HW.region ?_
    refine HL.still (Runs.move p1) ?_
    intro u14 e14
    refine HL.still (Runs.lenS rfl Tryd.underlying9 e14) ?_
    intro u15 e15
    refine HL.still (Runs.eql e15 rfl (t := false) rfl) ?_
    intro u16 e16
    refine HL.still (Runs.move e16) ?_
    intro u17 e17
    refine HL.skipG rfl rfl e17 ?_
    intro u18 e18
    refine HL.skipG rfl rfl e17 ?_
    intro u19 e19
    refine HL.skipG rfl rfl e17 ?_
    intro u20 e20
    refine HL.still (Runs.pick e17 rfl) ?_
    intro u21 e21
    refine HL.nil ?_
    repeat refine HW.seq ?_
    refine HW.no ?_ ?_
    exact e21
    refine HW.skip ?_
    -- region 5
    repeat refine HW.seq ?_
    refine HW.region ?_
    refine HL.still (Runs.move p1) ?_
    intro u27 e27
    refine HL.one (HO.call Tryd.func45 bd45 nm45 (args1 e27) rfl ((mkset_ch h [32, 0] (by decide) (by intro k hk; match k, hk with | 0, _ => decide | 1, _ => decide)).mono ?_))
    rintro _ h1 ⟨rfl, E1⟩
    intro u28 e28
    refine HL.still (Runs.move e28) ?_
    intro u26 e26
    refine HL.still (Runs.extr e26 rfl) ?_
    intro u29 e29
    refine HL.still (Runs.extr e26 rfl) ?_
    intro u30 e30
    refine HL.one (HO.alloc zr66 ?_)
    intro h2 w2
    intro u5 e5
    refine HL.zero (HO.storeAll sz66 e5 e29 (one_map Vb (fun _ => rfl) _) w2.new (by rw [List.length_map, mkSet_len]) rfl ?_)
    intro h3 w3
    refine HL.still (Runs.assign e30) ?_
    intro u6 e6
    refine HL.nil ?_
    have z1 := E1.size
    -- region 6
    repeat refine HW.seq ?_
    refine HW.region ?_
    refine HL.still (Runs.move e6) ?_
    intro u31 e31
    refine HL.nil ?_
    repeat refine HW.seq ?_
    refine HW.yes ?_ ?_
    exact e31
    -- region 7
    repeat refine HW.seq ?_
    refine HW.region ?_
    refine HL.still (Runs.move p0) ?_
    intro u32 e32
    refine HL.one (HO.call Tryd.func46 bd46 nm46 (args2 e32 e5) rfl ((tra_ch h3 s h1.size (mkSet [32, 0]) (mkSet_len _) w3.new hs).mono ?_))
    rintro _ h4 ⟨rfl, hh4⟩
    intro u33 e33
    refine HL.still (Runs.assign e33) ?_
    intro u4 e4
    refine HL.nil ?_
    refine HW.ret ?_
    refine RT.one rfl e4 ⟨by rw [pad_set], ?_⟩
    rw [hh4]
    exact (E1.ext w2.ext (Nat.le_refl _)).wr w3 (by omega)
set_option maxRecDepth 10000 in
/-- strings.TrimLeft(s, " "). -/
theorem trimL_ch (h : Heap) (s : List UInt8) (hs : s.length < 4611686018427387904) : CH Tryd.prog 30 #[.string (strOf s), .string (strOf [32])] h fun v h' => v = .string (strOf (s.dropWhile (· == 32))) ∧ h' = h := by
  refine CH.of_body Tryd.func30 rfl rfl rfl ?_
  intro f hf
  have p0 : f 0 = .string (strOf s) := by rw [hf]; exact fr0_at rfl
  have p1 : f 1 = .string (strOf [32]) := by rw [hf]; exact fr0_at rfl
  -- region 0
  repeat refine HW.seq ?_
  refine HW.region ?_
  refine HL.still (Runs.assign rfl) ?_
  intro u4 e4
  refine HL.nil ?_
  by_cases hn : s = []
  · subst hn
    -- region 1
    repeat refine HW.seq ?_
    refine HW.region ?_
    refine HL.still (Runs.move p0) ?_
    intro u7 e7
    refine HL.still (Runs.eqS e7 rfl (ys := []) (t := true) rfl) ?_
    intro u8 e8
    refine HL.still (Runs.move e8) ?_
    intro u9 e9
    refine HL.skipG rfl rfl e9 ?_
    intro u10 e10
    refine HL.skipG rfl rfl e9 ?_
    intro u11 e11
    refine HL.still (Runs.pick e9 rfl) ?_
    intro u12 e12
    refine HL.nil ?_
    repeat refine HW.seq ?_
    refine HW.yes ?_ ?_
    exact e12
    -- region 2
    repeat refine HW.seq ?_
    refine HW.region ?_
    refine HL.still (Runs.move p0) ?_
    intro u13 e13
    refine HL.still (Runs.assign e13) ?_
    intro u4 e4
    refine HL.nil ?_
    refine HW.ret ?_
    exact RT.one rfl e4 ⟨rfl, rfl⟩
  · skip
    -- region 1
    repeat refine HW.seq ?_
    refine HW.region ?_
    refine HL.still (Runs.move p0) ?_
    intro u7 e7
    refine HL.still (Runs.eqS e7 rfl (ys := []) (t := false) (by simpa using hn)) ?_
    intro u8 e8
    refine HL.still (Runs.move e8) ?_
    intro u9 e9
    refine HL.stillG rfl rfl e9 (Runs.move p1) ?_
    intro u10 e10
    refine HL.stillG rfl rfl e9 (Runs.eqS e10 rfl (ys := []) (t := false) rfl) ?_
    intro u11 e11
    refine HL.still (Runs.pick e9 e11) ?_
    intro u12 e12
    refine HL.nil ?_
    repeat refine HW.seq ?_
    refine HW.no ?_ ?_
    exact e12
    refine HW.skip ?_
    -- region 3
    repeat refine HW.seq ?_
    refine HW.region ?_
    refine HL.still (Runs.move p1) ?_
    intro u14 e14
    refine HL.still (Runs.lenS rfl Tryd.underlying9 e14) ?_
    intro u15 e15
    refine HL.still (Runs.eql e15 rfl (t := true) rfl) ?_
    intro u16 e16
    refine HL.still (Runs.move e16) ?_
    intro u17 e17
    refine HL.stillG rfl rfl e17 (Runs.move p1) ?_
    intro u18 e18
    refine HL.stillG rfl rfl e17 (Runs.ixS Tryd.underlying9 e18 rfl (j := 0) rfl rfl) ?_
    intro u19 e19
    refine HL.stillG rfl rfl e17 (Runs.lss e19 rfl (t := true) rfl) ?_
    intro u20 e20
    refine HL.still (Runs.pick e17 e20) ?_
    intro u21 e21
    refine HL.nil ?_
    repeat refine HW.seq ?_
    refine HW.yes ?_ ?_
    exact e21
    -- region 4
    repeat refine HW.seq ?_
    refine HW.region ?_
    refine HL.still (Runs.move p0) ?_
    intro u22 e22
    refine HL.still (Runs.move p1) ?_
    intro u23 e23
    refine HL.still (Runs.ixS Tryd.underlying9 e23 rfl (j := 0) rfl rfl) ?_
    intro u24 e24
    refine HL.one (HO.call Tryd.func48 bd48 nm48 (args2 e22 e24) rfl ((tlb_ch _ s 32 hs).mono ?_))
    rintro _ hq ⟨rfl, hhq⟩
    intro u25 e25
    refine HL.still (Runs.assign e25) ?_
    intro u4 e4
    refine HL.nil ?_
    refine HW.ret ?_
    exact RT.one rfl e4 ⟨rfl, hhq⟩
end Go.Proofs.YtfogkggkjmkdiaaDoor
