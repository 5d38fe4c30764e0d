/- The comparison that sorts the keys, with what it does to the world told whole (draws too). -/
import Derived.Test.YtklelhfgbjpifaaSha2
import Derived.Test.YtklelhfgbjpifaaDrx
namespace Go.Proofs.Ytklelhfgbjpifaa.Dr
set_option linter.unnecessarySimpa false
set_option linter.unusedSimpArgs false
set_option linter.unusedVariables false
open Go.RowKit
theorem CH.same {P : Program} {fn : FuncId} {args : Array Value} {h : Heap} {v : Value} (c : CH P fn args h fun x h' => x = v ∧ h' = h) : CH P fn args h fun x h' => x = v ∧ Ext h h' :=
  c.mono fun _ _ q => ⟨q.1, by rw [q.2]; exact Bel.refl _ _⟩
theorem nan_ch (h : Heap) (c : UInt8) : CH Try.prog 72 #[B8 c] h fun v h' => v = .bool false ∧ h' = h := by
  refine CH.of_body Try.func72 rfl rfl rfl ?_
  intro f hf
  have p0 : f 0 = B8 c := by rw [hf]; exact fr0_at rfl
  -- region 0
  repeat refine HW.seq ?_
  refine HW.region ?_
  refine HL.still (Runs.assign rfl) ?_
  intro u2 e2
  refine HL.nil ?_
  -- region 1
  repeat refine HW.seq ?_
  refine HW.region ?_
  refine HL.still (Runs.move p0) ?_
  intro u3 e3
  refine HL.still (Runs.move p0) ?_
  intro u4 e4
  refine HL.still (Runs.neq e3 e4 (t := false) (by simp)) ?_
  intro u5 e5
  refine HL.still (Runs.assign e5) ?_
  intro u2 e2
  refine HL.nil ?_
  refine HW.ret ?_
  exact RT.one rfl e2 ⟨rfl, rfl⟩
/-- cmp.Compare of two bytes. -/
theorem cmp_ch (h : Heap) (x y : UInt8) : CH Try.prog 64 #[B8 x, B8 y] h fun v h' => v = I64 (if x = y then 0 else if x.toNat < y.toNat then -1 else 1) ∧ h' = h := by
  refine CH.of_body Try.func64 rfl rfl rfl ?_
  intro f hf
  have p0 : f 0 = B8 x := by rw [hf]; exact fr0_at rfl
  have p1 : f 1 = B8 y := by rw [hf]; exact fr0_at rfl
  have hxy : x = y ↔ x.toNat = y.toNat := ⟨fun e => by rw [e], UInt8.toNat_inj.1⟩
  -- region 0
  repeat refine HW.seq ?_
  refine HW.region ?_
  refine HL.still (Runs.assign rfl) ?_
  intro u4 e4
  refine HL.nil ?_
  -- region 1
  repeat refine HW.seq ?_
  refine HW.region ?_
  refine HL.still (Runs.move p0) ?_
  intro u7 e7
  refine HL.one (HO.call Try.func72 bd72 nm72 (args1 e7) rfl ((nan_ch _ x).mono ?_))
  rintro _ _ ⟨rfl, rfl⟩
  intro u8 e8
  refine HL.still (Runs.assign e8) ?_
  intro u5 e5
  refine HL.nil ?_
  -- region 2
  repeat refine HW.seq ?_
  refine HW.region ?_
  refine HL.still (Runs.move p1) ?_
  intro u9 e9
  refine HL.one (HO.call Try.func72 bd72 nm72 (args1 e9) rfl ((nan_ch _ y).mono ?_))
  rintro _ _ ⟨rfl, rfl⟩
  intro u10 e10
  refine HL.still (Runs.assign e10) ?_
  intro u6 e6
  refine HL.nil ?_
  -- region 3
  repeat refine HW.seq ?_
  refine HW.region ?_
  refine HL.still (Runs.move e5) ?_
  intro u11 e11
  refine HL.nil ?_
  repeat refine HW.seq ?_
  refine HW.no ?_ ?_
  exact e11
  refine HW.skip ?_
  -- region 7
  repeat refine HW.seq ?_
  refine HW.region ?_
  refine HL.still (Runs.move e6) ?_
  intro u13 e13
  refine HL.nil ?_
  repeat refine HW.seq ?_
  refine HW.no ?_ ?_
  exact e13
  refine HW.skip ?_
  by_cases h1 : x.toNat < y.toNat
  · skip
    -- region 9
    repeat refine HW.seq ?_
    refine HW.region ?_
    refine HL.still (Runs.move p0) ?_
    intro u14 e14
    refine HL.still (Runs.move p1) ?_
    intro u15 e15
    refine HL.still (Runs.lss e14 e15 (t := true) (decide_eq_true (by omega))) ?_
    intro u16 e16
    refine HL.nil ?_
    repeat refine HW.seq ?_
    refine HW.yes ?_ ?_
    exact e16
    -- region 10
    repeat refine HW.seq ?_
    refine HW.region ?_
    refine HL.still (Runs.assign rfl) ?_
    intro u4 e4
    refine HL.nil ?_
    refine HW.ret ?_
    refine RT.one rfl e4 ⟨?_, rfl⟩
    rw [if_neg (by rw [hxy]; omega), if_pos h1]
  · skip
    -- region 9
    repeat refine HW.seq ?_
    refine HW.region ?_
    refine HL.still (Runs.move p0) ?_
    intro u14 e14
    refine HL.still (Runs.move p1) ?_
    intro u15 e15
    refine HL.still (Runs.lss e14 e15 (t := false) (decide_eq_false (by omega))) ?_
    intro u16 e16
    refine HL.nil ?_
    repeat refine HW.seq ?_
    refine HW.no ?_ ?_
    exact e16
    refine HW.skip ?_
    by_cases h2 : x.toNat > y.toNat
    · skip
      -- region 11
      repeat refine HW.seq ?_
      refine HW.region ?_
      refine HL.still (Runs.move p0) ?_
      intro u17 e17
      refine HL.still (Runs.move p1) ?_
      intro u18 e18
      refine HL.still (Runs.gtr e17 e18 (t := true) (decide_eq_true (by omega))) ?_
      intro u19 e19
      refine HL.nil ?_
      repeat refine HW.seq ?_
      refine HW.yes ?_ ?_
      exact e19
      -- region 12
      repeat refine HW.seq ?_
      refine HW.region ?_
      refine HL.still (Runs.assign rfl) ?_
      intro u4 e4
      refine HL.nil ?_
      refine HW.ret ?_
      refine RT.one rfl e4 ⟨?_, rfl⟩
      rw [if_neg (by rw [hxy]; omega), if_neg h1]
    · skip
      -- region 11
      repeat refine HW.seq ?_
      refine HW.region ?_
      refine HL.still (Runs.move p0) ?_
      intro u17 e17
      refine HL.still (Runs.move p1) ?_
      intro u18 e18
      refine HL.still (Runs.gtr e17 e18 (t := false) (decide_eq_false (by omega))) ?_
      intro u19 e19
      refine HL.nil ?_
      repeat refine HW.seq ?_
      refine HW.no ?_ ?_
      exact e19
      refine HW.skip ?_
      -- region 13
      repeat refine HW.seq ?_
      refine HW.region ?_
      refine HL.still (Runs.assign rfl) ?_
      intro u4 e4
      refine HL.nil ?_
      refine HW.ret ?_
      refine RT.one rfl e4 ⟨?_, rfl⟩
      rw [if_pos (by rw [hxy]; omega)]
theorem Byt.at {h : Heap} {a : Option Addr} {xs : List UInt8} (x : Byt h a xs) {k : Nat} (hk : k < xs.length) : ∃ sb so, a = some ⟨sb, so, none⟩ ∧ cellH h sb (so + k) = some (B8 (xs.getD k 0)) := by
  rcases x with e | ⟨sb, so, q1, q2⟩
  · rw [e] at hk; cases hk
  · exact ⟨sb, so, q1, q2 k hk⟩
set_option maxRecDepth 10000 in
/-- slices.Compare of two rows of bytes of one length. -/
theorem compare_ch (h : Heap) (xs ys : List UInt8) (a b : Option Addr) (n c d : Nat) (hn : xs.length = n) (hm : ys.length = n) (ha : Byt h a xs) (hb : Byt h b ys) (hlt : n < 4611686018427387904) :
    CH Try.prog 53 #[.slice a n c, .slice b n d] h fun v h' => v = I64 (cmpL xs ys) ∧ h' = h := by
  refine CH.of_body Try.func53 rfl rfl rfl ?_
  intro f hf
  have p0 : f 0 = .slice a n c := by rw [hf]; exact fr0_at rfl
  have p1 : f 1 = .slice b n d := by rw [hf]; exact fr0_at rfl
  -- region 0
  repeat refine HW.seq ?_
  refine HW.region ?_
  refine HL.still (Runs.assign rfl) ?_
  intro u4 e4
  refine HL.nil ?_
  -- region 1
  repeat refine HW.seq ?_
  refine HW.region ?_
  refine HL.still (Runs.move p0) ?_
  intro u9 e9
  refine HL.still (Runs.lenSl rfl Try.underlying29 e9) ?_
  intro u10 e10
  refine HL.still (Runs.move rfl) ?_
  intro u11 e11
  refine HL.nil ?_
  repeat refine HW.seq ?_
  refine HW.block ?_
  refine HW.loop (fun m f h' => ∃ k : Nat, k ≤ n ∧ m = n - k ∧ f 11 = I64 k ∧ f 10 = I64 n ∧ f 9 = .slice a n c ∧ f 0 = .slice a n c ∧ f 1 = .slice b n d ∧ cmpL xs ys = cmpL (xs.drop k) (ys.drop k) ∧ h' = h) n
    ⟨0, Nat.zero_le _, rfl, e11, e10, e9, p0, p1, rfl, rfl⟩ ?_
  rintro m f h' ⟨k, hk, hm', f11, f10, f9, f0, f1, hc, rfl⟩
  by_cases hkn : k < n
  · obtain ⟨sb, so, ha', hca⟩ := ha.at (k := k) (by omega)
    obtain ⟨tb, to, hb', hcb⟩ := hb.at (k := k) (by omega)
    have f9' := f9
    have f1' := f1
    rw [ha'] at f9'
    rw [hb'] at f1'
    rw [cmp_step (by omega) (by omega)] at hc
    -- region 2
    repeat refine HW.seq ?_
    refine HW.region ?_
    refine HL.still (Runs.lss f11 f10 rfl) ?_
    intro u12 e12
    refine HL.nil ?_
    repeat refine HW.seq ?_
    refine HW.yes ?_ ?_
    exact e12.trans (congrArg Value.bool (decide_eq_true (by omega)))
    refine HW.skip ?_
    repeat refine HW.seq ?_
    refine HW.block ?_
    -- region 3
    repeat refine HW.seq ?_
    refine HW.region ?_
    refine HL.still (Runs.move f11) ?_
    intro u13 e13
    refine HL.still (Runs.ixSl (o' := so + k) Try.underlying29 sz5 f9' f11 (by omega) (by omega) (by omega)) ?_
    intro u14 e14
    refine HL.still (Runs.load Try.underlying5 rfl e14 hca) ?_
    intro u15 e15
    refine HL.still (Runs.assign e13) ?_
    intro u5 e5
    refine HL.still (Runs.assign e15) ?_
    intro u6 e6
    refine HL.nil ?_
    -- region 4
    repeat refine HW.seq ?_
    refine HW.region ?_
    refine HL.still (Runs.move e5) ?_
    intro u16 e16
    refine HL.still (Runs.move f1') ?_
    intro u17 e17
    refine HL.still (Runs.lenSl rfl Try.underlying29 e17) ?_
    intro u18 e18
    refine HL.still (Runs.geq e16 e18 rfl) ?_
    intro u19 e19
    refine HL.nil ?_
    repeat refine HW.seq ?_
    refine HW.no ?_ ?_
    exact e19.trans (congrArg Value.bool (decide_eq_false (by omega)))
    refine HW.skip ?_
    -- region 6
    repeat refine HW.seq ?_
    refine HW.region ?_
    refine HL.still (Runs.move f1') ?_
    intro u20 e20
    refine HL.still (Runs.move e5) ?_
    intro u21 e21
    refine HL.still (Runs.ixSl (o' := to + k) Try.underlying29 sz5 e20 e21 (by omega) (by omega) (by omega)) ?_
    intro u22 e22
    refine HL.still (Runs.load Try.underlying5 rfl e22 hcb) ?_
    intro u23 e23
    refine HL.still (Runs.assign e23) ?_
    intro u7 e7
    refine HL.nil ?_
    by_cases hxy : xs.getD k 0 = ys.getD k 0
    · rw [if_pos hxy] at hc
      -- region 7
      repeat refine HW.seq ?_
      refine HW.region ?_
      refine HL.still (Runs.move e6) ?_
      intro u24 e24
      refine HL.still (Runs.move e7) ?_
      intro u25 e25
      refine HL.one (HO.call Try.func64 bd64 nm64 (args2 e24 e25) rfl ((cmp_ch _ (xs.getD k 0) (ys.getD k 0)).mono ?_))
      rintro _ h' ⟨rfl, hh'⟩
      intro u26 e26
      refine HL.still (Runs.assign e26) ?_
      intro u8 e8
      refine HL.nil ?_
      rw [if_pos hxy] at e8
      -- region 8
      repeat refine HW.seq ?_
      refine HW.region ?_
      refine HL.still (Runs.move e8) ?_
      intro u27 e27
      refine HL.still (Runs.neq e27 rfl (t := false) rfl) ?_
      intro u28 e28
      refine HL.nil ?_
      repeat refine HW.seq ?_
      refine HW.no ?_ ?_
      exact e28
      refine HW.skip ?_
      -- region 10
      repeat refine HW.seq ?_
      refine HW.region ?_
      refine HL.still (Runs.add f11 rfl (i64w (by omega))) ?_
      intro u30 e30
      refine HL.still (Runs.move e30) ?_
      intro u11 e11
      refine HL.nil ?_
      exact ⟨n - (k + 1), by omega, k + 1, by omega, rfl, e11, f10, f9, f0, f1, hc, hh'⟩
    · rw [if_neg hxy] at hc
      -- region 7
      repeat refine HW.seq ?_
      refine HW.region ?_
      refine HL.still (Runs.move e6) ?_
      intro u24 e24
      refine HL.still (Runs.move e7) ?_
      intro u25 e25
      refine HL.one (HO.call Try.func64 bd64 nm64 (args2 e24 e25) rfl ((cmp_ch _ (xs.getD k 0) (ys.getD k 0)).mono ?_))
      rintro _ h' ⟨rfl, hh'⟩
      intro u26 e26
      refine HL.still (Runs.assign e26) ?_
      intro u8 e8
      refine HL.nil ?_
      rw [if_neg hxy, ← hc] at e8
      -- region 8
      repeat refine HW.seq ?_
      refine HW.region ?_
      refine HL.still (Runs.move e8) ?_
      intro u27 e27
      refine HL.still (Runs.neq e27 rfl (t := true) (by rw [hc]; split <;> rfl)) ?_
      intro u28 e28
      refine HL.nil ?_
      repeat refine HW.seq ?_
      refine HW.yes ?_ ?_
      exact e28
      -- region 9
      repeat refine HW.seq ?_
      refine HW.region ?_
      refine HL.still (Runs.move e8) ?_
      intro u29 e29
      refine HL.still (Runs.assign e29) ?_
      intro u4 e4
      refine HL.nil ?_
      refine HW.ret ?_
      exact RT.one rfl e4 ⟨rfl, hh'⟩
  · have hkn' : k = n := by omega
    subst hkn'
    rw [List.drop_of_length_le (by omega), List.drop_of_length_le (by omega)] at hc
    -- region 2
    repeat refine HW.seq ?_
    refine HW.region ?_
    refine HL.still (Runs.lss f11 f10 rfl) ?_
    intro u12 e12
    refine HL.nil ?_
    repeat refine HW.seq ?_
    refine HW.no ?_ ?_
    exact e12.trans (congrArg Value.bool (decide_eq_false (by omega)))
    refine HW.exitHere ?_
    -- region 11
    repeat refine HW.seq ?_
    refine HW.region ?_
    refine HL.still (Runs.move f0) ?_
    intro u31 e31
    refine HL.still (Runs.lenSl rfl Try.underlying29 e31) ?_
    intro u32 e32
    refine HL.still (Runs.move f1) ?_
    intro u33 e33
    refine HL.still (Runs.lenSl rfl Try.underlying29 e33) ?_
    intro u34 e34
    refine HL.still (Runs.lss e32 e34 rfl) ?_
    intro u35 e35
    refine HL.nil ?_
    repeat refine HW.seq ?_
    refine HW.no ?_ ?_
    exact e35.trans (congrArg Value.bool (decide_eq_false (by omega)))
    refine HW.skip ?_
    -- region 13
    repeat refine HW.seq ?_
    refine HW.region ?_
    refine HL.still (Runs.assign rfl) ?_
    intro u4 e4
    refine HL.nil ?_
    refine HW.ret ?_
    exact RT.one rfl e4 ⟨by rw [hc]; rfl, rfl⟩
set_option maxRecDepth 10000 in
/-- The function in store.Keys. -/
theorem keycmp_ch (h : Heap) (xs ys : List UInt8) (hx : xs.length = 32) (hy : ys.length = 32) : CH Try.prog 52 #[.agg (xs.map B8).toArray, .agg (ys.map B8).toArray] h fun v h' => v = I64 (cmpL xs ys) ∧ Ext h h' := by
  refine CH.of_body Try.func52 rfl rfl rfl ?_
  intro f hf
  have p0 : f 0 = .agg (xs.map B8).toArray := by rw [hf]; exact fr0_at rfl
  have p1 : f 1 = .agg (ys.map B8).toArray := by rw [hf]; exact fr0_at rfl
  -- region 0
  repeat refine HW.seq ?_
  refine HW.region ?_
  refine HL.one (HO.box p0 ?_)
  intro h1 w1
  intro u2 e2
  refine HL.one (HO.box p1 ?_)
  intro h2 w2
  intro u3 e3
  refine HL.still (Runs.assign rfl) ?_
  intro u4 e4
  refine HL.nil ?_
  have z1 := w1.size
  have z2 := w2.size
  have hb1 : Byt h2 (some ⟨h.size, 0, none⟩) xs := byt_block (w2.keep w1.new)
  have hb2 : Byt h2 (some ⟨h1.size, 0, none⟩) ys := byt_block w2.new
  -- region 1
  repeat refine HW.seq ?_
  refine HW.grow #[0, 0, 3, 7] (Mk h2.size) mixed (by kernel_rfl) (Mk.refl _) Mk.trans ?_
  refine HM.still (Mk.refl _) (fun f h K => Runs.sliceArr Try.underlying31 sz5 ((K.keep (by kernel_rfl)).trans e2) rfl rfl (by decide) (by decide) (if_neg (by decide))) ?_
  refine HM.still (Mk.refl _) (fun f h K => Runs.sliceArr Try.underlying31 sz5 ((K.keep (by kernel_rfl)).trans e3) rfl rfl (by decide) (by decide) (if_neg (by decide))) ?_
  refine HM.one (fun x _ => x = _) (fun _ _ _ _ e => e) (fun f h K => HO.call Try.func53 bd53 nm53 (args2 (K.at 0 5 rfl rfl) (K.at 1 6 rfl rfl)) rfl (((compare_ch h xs ys (some ⟨_, 0, none⟩) (some ⟨_, 0, none⟩) 32 32 32 hx hy (hb1.mk K.grown) (hb2.mk K.grown) (by decide)).same).mono fun _ _ q => ⟨Mk.of_ext q.2 K.grown.size, q.1⟩)) ?_
  refine HM.still (Mk.refl _) (fun f h K => Runs.assign (K.at 2 7 rfl rfl)) ?_
  intro f' h' hR V _
  refine HW.ret ?_
  exact RT.one rfl (last_at V 3 4 rfl) ⟨rfl, (w1.ext.ext w2.ext (Nat.le_refl _)).trans (hR.bel.mono (by omega))⟩
end Go.Proofs.Ytklelhfgbjpifaa.Dr
