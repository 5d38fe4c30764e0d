/- Predicates on parts; IndexFunc, ContainsFunc, DeleteFunc at strings; split, below. -/
import Derived.Test.YtfnippeemboljaaDoorWa
namespace Go.Proofs.YtfnippeemboljaaDoor
set_option linter.unnecessarySimpa false
set_option linter.unusedSimpArgs false
set_option linter.unusedVariables false
open Go.RowKit
theorem dot_ch (h : Heap) (p : Str) : CH Tryd.prog 23 #[S8 p] h fun v h' => v = .bool (isDot p) ∧ h' = h := by
  refine CH.of_body Tryd.func23 rfl rfl rfl ?_
  intro f hf
  have p0 : f 0 = S8 p := by rw [hf]; exact fr0_at rfl
  -- region 0
  repeat refine HW.seq ?_
  refine HW.region ?_
  refine HL.still (Runs.assign rfl) ?_
  intro u2 e2
  refine HL.nil ?_
  -- region 1
  repeat refine HW.seq ?_
  refine HW.region ?_
  refine HL.still (Runs.move p0) ?_
  intro u3 e3
  refine HL.still (Runs.eqS e3 rfl (ys := []) rfl) ?_
  intro u4 e4
  refine HL.still (Runs.move e4) ?_
  intro u5 e5
  refine HL.anyG rfl rfl e5 (fun hg => Runs.move p0) ?_
  intro u6 e6
  refine HL.anyG rfl rfl e5 (fun hg => Runs.eqS (e6.trans (if_pos hg)) rfl (ys := [46]) rfl) ?_
  intro u7 e7
  refine HL.still (Runs.pick e5 (or_pick e7)) ?_
  intro u8 e8
  refine HL.still (Runs.assign e8) ?_
  intro u2 e2
  refine HL.nil ?_
  refine HW.ret ?_
  exact RT.one rfl e2 ⟨rfl, rfl⟩
theorem idx_yes (s : Str) (c : UInt8) : decide (Go.Lib.indexByte s c ≥ 0) = s.contains c := by
  rw [Go.Lib.contains_iff_indexByte]
theorem bad_ch (h : Heap) (p : Str) : CH Tryd.prog 37 #[S8 p] h fun v h' => v = .bool (isBad p) ∧ h' = h := by
  refine CH.of_body Tryd.func37 rfl rfl rfl ?_
  intro f hf
  have p0 : f 0 = S8 p := by rw [hf]; exact fr0_at rfl
  -- region 0
  repeat refine HW.seq ?_
  refine HW.region ?_
  refine HL.still (Runs.assign rfl) ?_
  intro u2 e2
  refine HL.nil ?_
  cases hb : ((p == [] || p == [46]) || p == [46, 46]) with
  | true =>
    -- region 1
    repeat refine HW.seq ?_
    refine HW.region ?_
    refine HL.still (Runs.move p0) ?_
    intro u3 e3
    refine HL.still (Runs.eqS e3 rfl (ys := []) rfl) ?_
    intro u4 e4
    refine HL.still (Runs.move e4) ?_
    intro u5 e5
    refine HL.anyG rfl rfl e5 (fun hg => Runs.move p0) ?_
    intro u6 e6
    refine HL.anyG rfl rfl e5 (fun hg => Runs.eqS (e6.trans (if_pos hg)) rfl (ys := [46]) rfl) ?_
    intro u7 e7
    refine HL.still (Runs.pick e5 (or_pick e7)) ?_
    intro u8 e8
    refine HL.still (Runs.move e8) ?_
    intro u9 e9
    refine HL.anyG rfl rfl e9 (fun hg => Runs.move p0) ?_
    intro u10 e10
    refine HL.anyG rfl rfl e9 (fun hg => Runs.eqS (e10.trans (if_pos hg)) rfl (ys := [46, 46]) rfl) ?_
    intro u11 e11
    refine HL.still (Runs.pick e9 (or_pick e11)) ?_
    intro u12 e12
    refine HL.still (Runs.move (e12.trans (congrArg Value.bool hb))) ?_
    intro u13 e13
    refine HL.skipG rfl rfl e13 ?_
    intro u14 e14
    refine HL.skipG rfl rfl e13 ?_
    intro u15 e15
    refine HL.skipG rfl rfl e13 ?_
    intro u16 e16
    refine HL.still (Runs.pick e13 rfl) ?_
    intro u17 e17
    refine HL.still (Runs.assign e17) ?_
    intro u2 e2
    refine HL.nil ?_
    refine HW.ret ?_
    refine RT.one rfl e2 ⟨?_, rfl⟩
    unfold isBad
    rw [hb]
    rfl
  | false =>
    -- region 1
    repeat refine HW.seq ?_
    refine HW.region ?_
    refine HL.still (Runs.move p0) ?_
    intro u3 e3
    refine HL.still (Runs.eqS e3 rfl (ys := []) rfl) ?_
    intro u4 e4
    refine HL.still (Runs.move e4) ?_
    intro u5 e5
    refine HL.anyG rfl rfl e5 (fun hg => Runs.move p0) ?_
    intro u6 e6
    refine HL.anyG rfl rfl e5 (fun hg => Runs.eqS (e6.trans (if_pos hg)) rfl (ys := [46]) rfl) ?_
    intro u7 e7
    refine HL.still (Runs.pick e5 (or_pick e7)) ?_
    intro u8 e8
    refine HL.still (Runs.move e8) ?_
    intro u9 e9
    refine HL.anyG rfl rfl e9 (fun hg => Runs.move p0) ?_
    intro u10 e10
    refine HL.anyG rfl rfl e9 (fun hg => Runs.eqS (e10.trans (if_pos hg)) rfl (ys := [46, 46]) rfl) ?_
    intro u11 e11
    refine HL.still (Runs.pick e9 (or_pick e11)) ?_
    intro u12 e12
    refine HL.still (Runs.move (e12.trans (congrArg Value.bool hb))) ?_
    intro u13 e13
    refine HL.stillG rfl rfl e13 (Runs.move p0) ?_
    intro u14 e14
    refine HL.oneG rfl rfl e13 (HO.call Tryd.func58 bd58 nm58 (args2 e14 rfl) rfl ((idxB_ch h p 0).mono ?_))
    rintro _ h1 ⟨rfl, hh1⟩
    intro u15 e15
    refine HL.stillG rfl rfl e13 (Runs.geq e15 rfl (idx_yes _ _)) ?_
    intro u16 e16
    refine HL.still (Runs.pick e13 e16) ?_
    intro u17 e17
    refine HL.still (Runs.assign e17) ?_
    intro u2 e2
    refine HL.nil ?_
    refine HW.ret ?_
    refine RT.one rfl e2 ⟨?_, hh1⟩
    unfold isBad
    rw [hb]
    rfl
theorem long_ch (h : Heap) (p : Str) : CH Tryd.prog 47 #[S8 p] h fun v h' => v = .bool (isLong p) ∧ h' = h := by
  refine CH.of_body Tryd.func47 rfl rfl rfl ?_
  intro f hf
  have p0 : f 0 = S8 p := by rw [hf]; exact fr0_at rfl
  -- region 0
  repeat refine HW.seq ?_
  refine HW.region ?_
  refine HL.still (Runs.assign rfl) ?_
  intro u2 e2
  refine HL.nil ?_
  -- region 1
  repeat refine HW.seq ?_
  refine HW.region ?_
  refine HL.still (Runs.move p0) ?_
  intro u3 e3
  refine HL.still (Runs.lenS rfl Tryd.underlying9 e3) ?_
  intro u4 e4
  refine HL.still (Runs.gtr e4 rfl (t := isLong p) (decide_eq_decide.2 (by omega))) ?_
  intro u5 e5
  refine HL.still (Runs.assign e5) ?_
  intro u2 e2
  refine HL.nil ?_
  refine HW.ret ?_
  exact RT.one rfl e2 ⟨rfl, rfl⟩
theorem part_ch (h : Heap) (s : Str) (hs : s.length < 4611686018427387904) : CH Tryd.prog 39 #[S8 s] h fun v h' => v = .bool (!isBad s) ∧ h' = h := by
  refine CH.of_body Tryd.func39 rfl rfl rfl ?_
  intro f hf
  have p0 : f 0 = S8 s := by rw [hf]; exact fr0_at rfl
  -- region 0
  repeat refine HW.seq ?_
  refine HW.region ?_
  refine HL.still (Runs.assign rfl) ?_
  intro u2 e2
  refine HL.nil ?_
  -- region 1
  repeat refine HW.seq ?_
  refine HW.region ?_
  refine HL.still (Runs.assign rfl) ?_
  intro u3 e3
  refine HL.nil ?_
  repeat refine HW.seq ?_
  refine HW.block ?_
  refine HW.loop (fun m f h' => ∃ k : Nat, k ≤ s.length ∧ m = s.length - k ∧ f 3 = I64 k ∧ f 0 = S8 s ∧ s.contains 0 = (s.drop k).contains 0 ∧ h' = h) s.length
    ⟨0, Nat.zero_le _, rfl, e3, p0, rfl, rfl⟩ ?_
  clear e2 e3
  rintro m f h' ⟨k, hk, hm, f3, f0, hs', rfl⟩
  by_cases hlt : k < s.length
  · skip
    -- region 2
    repeat refine HW.seq ?_
    refine HW.region ?_
    refine HL.still (Runs.move f3) ?_
    intro u4 e4
    refine HL.still (Runs.move f0) ?_
    intro u5 e5
    refine HL.still (Runs.lenS rfl Tryd.underlying9 e5) ?_
    intro u6 e6
    refine HL.still (Runs.lss e4 e6 rfl) ?_
    intro u7 e7
    refine HL.nil ?_
    repeat refine HW.seq ?_
    refine HW.yes ?_ ?_
    exact e7.trans (congrArg Value.bool (decide_eq_true (by omega)))
    refine HW.skip ?_
    repeat refine HW.seq ?_
    refine HW.block ?_
    rw [drop_at hlt, List.contains_cons] at hs'
    by_cases hc : s.getD k 0 = 0
    · skip
      -- region 4
      repeat refine HW.seq ?_
      refine HW.region ?_
      refine HL.still (Runs.move f0) ?_
      intro u10 e10
      refine HL.still (Runs.move f3) ?_
      intro u11 e11
      refine HL.still (Runs.ixS Tryd.underlying9 e10 e11 (j := k) rfl (get_of_lt hlt)) ?_
      intro u12 e12
      refine HL.still (Runs.eql e12 rfl (t := true) (by rw [hc]; rfl)) ?_
      intro u13 e13
      refine HL.nil ?_
      repeat refine HW.seq ?_
      refine HW.yes ?_ ?_
      exact e13
      -- region 5
      repeat refine HW.seq ?_
      refine HW.region ?_
      refine HL.still (Runs.assign rfl) ?_
      intro u2 e2
      refine HL.nil ?_
      refine HW.ret ?_
      refine RT.one rfl e2 ⟨?_, rfl⟩
      unfold isBad
      rw [hs', hc]
      simp
    · have hcn : ((s.getD k 0).toNat : Int) ≠ 0 := u8_ne hc
      -- region 4
      repeat refine HW.seq ?_
      refine HW.region ?_
      refine HL.still (Runs.move f0) ?_
      intro u10 e10
      refine HL.still (Runs.move f3) ?_
      intro u11 e11
      refine HL.still (Runs.ixS Tryd.underlying9 e10 e11 (j := k) rfl (get_of_lt hlt)) ?_
      intro u12 e12
      refine HL.still (Runs.eql e12 rfl (t := false) (by simpa using hcn)) ?_
      intro u13 e13
      refine HL.nil ?_
      repeat refine HW.seq ?_
      refine HW.no ?_ ?_
      exact e13
      refine HW.skip ?_
      -- region 3
      repeat refine HW.seq ?_
      refine HW.region ?_
      refine HL.still (Runs.move f3) ?_
      intro u8 e8
      refine HL.still (Runs.add e8 rfl (i64w (by omega))) ?_
      intro u9 e9
      refine HL.still (Runs.assign e9) ?_
      intro u3 e3
      refine HL.nil ?_
      refine ⟨s.length - (k + 1), by omega, k + 1, by omega, rfl, e3, f0, ?_, rfl⟩
      rw [hs', show ((0 : UInt8) == s.getD k 0) = false by rw [beq_eq_false_iff_ne]; exact fun e => hc e.symm, Bool.false_or]
  · have : s.drop k = [] := List.drop_of_length_le (by omega)
    rw [this] at hs'
    -- region 2
    repeat refine HW.seq ?_
    refine HW.region ?_
    refine HL.still (Runs.move f3) ?_
    intro u4 e4
    refine HL.still (Runs.move f0) ?_
    intro u5 e5
    refine HL.still (Runs.lenS rfl Tryd.underlying9 e5) ?_
    intro u6 e6
    refine HL.still (Runs.lss e4 e6 rfl) ?_
    intro u7 e7
    refine HL.nil ?_
    repeat refine HW.seq ?_
    refine HW.no ?_ ?_
    exact e7.trans (congrArg Value.bool (decide_eq_false (by omega)))
    refine HW.exitHere ?_
    -- region 6
    repeat refine HW.seq ?_
    refine HW.region ?_
    refine HL.still (Runs.move f0) ?_
    intro u14 e14
    refine HL.still (Runs.neqS e14 rfl (ys := []) rfl) ?_
    intro u15 e15
    refine HL.still (Runs.move e15) ?_
    intro u16 e16
    refine HL.anyG rfl rfl e16 (fun hg => Runs.move f0) ?_
    intro u17 e17
    refine HL.anyG rfl rfl e16 (fun hg => Runs.neqS (e17.trans (if_pos hg)) rfl (ys := [46]) rfl) ?_
    intro u18 e18
    refine HL.still (Runs.pick e16 (and_pick e18)) ?_
    intro u19 e19
    refine HL.still (Runs.move e19) ?_
    intro u20 e20
    refine HL.anyG rfl rfl e20 (fun hg => Runs.move f0) ?_
    intro u21 e21
    refine HL.anyG rfl rfl e20 (fun hg => Runs.neqS (e21.trans (if_pos hg)) rfl (ys := [46, 46]) rfl) ?_
    intro u22 e22
    refine HL.still (Runs.pick e20 (and_pick e22)) ?_
    intro u23 e23
    refine HL.still (Runs.assign e23) ?_
    intro u2 e2
    refine HL.nil ?_
    refine HW.ret ?_
    refine RT.one rfl e2 ⟨?_, rfl⟩
    unfold isBad
    rw [hs']
    simp
theorem pre4 (p : Str) : (decide ((p.length : Int) ≥ 4) && (p.take 4 == wh)) = marked p := by
  unfold marked
  rw [Bool.eq_iff_iff, List.isPrefixOf_iff_prefix, Bool.and_eq_true, decide_eq_true_eq, beq_iff_eq]
  constructor
  · rintro ⟨_, h⟩
    exact ⟨p.drop 4, by rw [← h]; exact List.take_append_drop 4 p⟩
  · rintro ⟨t, rfl⟩
    exact ⟨by simp [wh]; omega, List.take_left' rfl⟩
theorem marked_ch (h : Heap) (p : Str) : CH Tryd.prog 48 #[S8 p] h fun v h' => v = .bool (marked p) ∧ h' = h := by
  refine CH.of_body Tryd.func48 rfl rfl rfl ?_
  intro f hf
  have p0 : f 0 = S8 p := by rw [hf]; exact fr0_at rfl
  -- region 0
  repeat refine HW.seq ?_
  refine HW.region ?_
  refine HL.still (Runs.assign rfl) ?_
  intro u2 e2
  refine HL.nil ?_
  by_cases hl : p.length ≥ 4
  · skip
    -- region 1
    repeat refine HW.seq ?_
    refine HW.region ?_
    refine HL.still (Runs.move p0) ?_
    intro u3 e3
    refine HL.still (Runs.lenS rfl Tryd.underlying9 e3) ?_
    intro u4 e4
    refine HL.still (Runs.geq e4 rfl (t := true) (decide_eq_true (by omega))) ?_
    intro u5 e5
    refine HL.still (Runs.move e5) ?_
    intro u6 e6
    refine HL.stillG rfl rfl e6 (Runs.move p0) ?_
    intro u7 e7
    refine HL.stillG rfl rfl e6 (Runs.sliceS Tryd.underlying9 e7 (lo := 0) (hi := 4) rfl ⟨_, rfl⟩ (Nat.zero_le _) hl) ?_
    intro u8 e8
    refine HL.stillG rfl rfl e6 (Runs.eqS e8 rfl (ys := wh) rfl) ?_
    intro u9 e9
    refine HL.still (Runs.pick e6 e9) ?_
    intro u10 e10
    refine HL.still (Runs.assign e10) ?_
    intro u2 e2
    refine HL.nil ?_
    refine HW.ret ?_
    refine RT.one rfl e2 ⟨?_, rfl⟩
    rw [← pre4, decide_eq_true (by omega), List.drop_zero]
    rfl
  · skip
    -- region 1
    repeat refine HW.seq ?_
    refine HW.region ?_
    refine HL.still (Runs.move p0) ?_
    intro u3 e3
    refine HL.still (Runs.lenS rfl Tryd.underlying9 e3) ?_
    intro u4 e4
    refine HL.still (Runs.geq e4 rfl (t := false) (decide_eq_false (by omega))) ?_
    intro u5 e5
    refine HL.still (Runs.move e5) ?_
    intro u6 e6
    refine HL.skipG rfl rfl e6 ?_
    intro u7 e7
    refine HL.skipG rfl rfl e6 ?_
    intro u8 e8
    refine HL.skipG rfl rfl e6 ?_
    intro u9 e9
    refine HL.still (Runs.pick e6 rfl) ?_
    intro u10 e10
    refine HL.still (Runs.assign e10) ?_
    intro u2 e2
    refine HL.nil ?_
    refine HW.ret ?_
    refine RT.one rfl e2 ⟨?_, rfl⟩
    rw [← pre4, decide_eq_false (by omega)]
    rfl
/-! ### Function values -/
/-- A predicate of strings that is a function of the program. -/
def Pred (k : Nat) (p : Str → Bool) : Prop := (∃ F, Tryd.prog.funcs[k]? = some F ∧ F.body.isNone = false ∧ (F.name == "runtime.NumGoroutine") = false) ∧ ∀ h s, CH Tryd.prog k #[S8 s] h fun v h' => v = .bool (p s) ∧ h' = h
theorem dot_pred : Pred 23 isDot := ⟨⟨_, Tryd.func23, bd23, nm23⟩, dot_ch⟩
theorem bad_pred : Pred 37 isBad := ⟨⟨_, Tryd.func37, bd37, nm37⟩, bad_ch⟩
theorem long_pred : Pred 47 isLong := ⟨⟨_, Tryd.func47, bd47, nm47⟩, long_ch⟩
theorem idxf_ch (h : Heap) (xs : List Str) (n : Nat) (a : Option Addr) (cap k : Nat) (p : Str → Bool) (hp : Pred k p) (hn : n = xs.length) (hsrc : Sts h a xs) (hlen : xs.length < 4611686018427387904) :
    CH Tryd.prog 41 #[.slice a n cap, .func (.func k) #[] #[]] h fun v h' => ((v = I64 (-1) ∧ ∀ i, i < xs.length → p (xs.getD i []) = false) ∨ ∃ i : Nat, i < xs.length ∧ v = I64 i ∧ p (xs.getD i []) = true ∧ ∀ j, j < i → p (xs.getD j []) = false) ∧ h' = h := by
  subst hn
  obtain ⟨⟨F, hF, hFb, hFn⟩, hpc⟩ := hp
  refine CH.of_body Tryd.func41 rfl rfl rfl ?_
  intro f hf
  have p0 : f 0 = .slice a xs.length cap := by rw [hf]; exact fr0_at rfl
  have p1 : f 1 = .func (.func k) #[] #[] := by rw [hf]; exact fr0_at rfl
  -- region 0
  repeat refine HW.seq ?_
  refine HW.region ?_
  refine HL.still (Runs.assign rfl) ?_
  intro u4 e4
  refine HL.nil ?_
  -- region 1
  repeat refine HW.seq ?_
  refine HW.region ?_
  refine HL.still (Runs.move p0) ?_
  intro u6 e6
  refine HL.still (Runs.lenSl rfl Tryd.underlying33 e6) ?_
  intro u7 e7
  refine HL.still (Runs.move rfl) ?_
  intro u8 e8
  refine HL.nil ?_
  repeat refine HW.seq ?_
  refine HW.block ?_
  refine HW.loop (fun m f h' => ∃ i : Nat, i ≤ xs.length ∧ m = xs.length - i ∧ f 8 = I64 i ∧ f 7 = I64 xs.length ∧ f 0 = .slice a xs.length cap ∧ f 1 = .func (.func k) #[] #[] ∧ (∀ j, j < i → p (xs.getD j []) = false) ∧ h' = h) xs.length
    ⟨0, Nat.zero_le _, rfl, e8, e7, p0, p1, fun j hj => by omega, rfl⟩ ?_
  clear e4 e7 e8
  rintro m f h' ⟨i, hi, hm, f8, f7, f0, f1, hall, hh'⟩
  by_cases hlt : i < xs.length
  · obtain ⟨sb, so, ha, hc⟩ := hsrc.at hlt
    rw [← hh'] at hc
    have f0' := f0
    rw [ha] at f0'
    -- region 2
    repeat refine HW.seq ?_
    refine HW.region ?_
    refine HL.still (Runs.lss f8 f7 rfl) ?_
    intro u9 e9
    refine HL.nil ?_
    repeat refine HW.seq ?_
    refine HW.yes ?_ ?_
    exact e9.trans (congrArg Value.bool (decide_eq_true (by omega)))
    refine HW.skip ?_
    repeat refine HW.seq ?_
    refine HW.block ?_
    -- region 3
    repeat refine HW.seq ?_
    refine HW.region ?_
    refine HL.still (Runs.move f8) ?_
    intro u10 e10
    refine HL.still (Runs.assign e10) ?_
    intro u5 e5
    refine HL.nil ?_
    -- region 4
    repeat refine HW.seq ?_
    refine HW.region ?_
    refine HL.still (Runs.move f1) ?_
    intro u11 e11
    refine HL.still (Runs.move f0') ?_
    intro u12 e12
    refine HL.still (Runs.move e5) ?_
    intro u13 e13
    refine HL.still (Runs.ixSl (o' := so + i) Tryd.underlying33 sz9 e12 e13 (by omega) (by omega) (by omega)) ?_
    intro u14 e14
    refine HL.still (Runs.load Tryd.underlying9 rfl e14 hc) ?_
    intro u15 e15
    refine HL.one (HO.callV hF hFb hFn (args1 e15) e11 ((hpc h' (xs.getD i [])).mono ?_))
    rintro _ h2 ⟨rfl, hh2⟩
    intro u16 e16
    refine HL.nil ?_
    cases hz : p (xs.getD i []) with
    | false =>
      rw [hz] at e16
      repeat refine HW.seq ?_
      refine HW.no ?_ ?_
      exact e16
      refine HW.skip ?_
      -- region 6
      repeat refine HW.seq ?_
      refine HW.region ?_
      refine HL.still (Runs.add f8 rfl (i64w (by omega))) ?_
      intro u18 e18
      refine HL.still (Runs.move e18) ?_
      intro u8 e8
      refine HL.nil ?_
      refine ⟨xs.length - (i + 1), by omega, i + 1, by omega, rfl, e8, f7, f0, f1, fun j hj => ?_, by rw [hh2, hh']⟩
      by_cases e : j = i
      · rw [e]; exact hz
      · exact hall j (by omega)
    | true =>
      rw [hz] at e16
      repeat refine HW.seq ?_
      refine HW.yes ?_ ?_
      exact e16
      -- region 5
      repeat refine HW.seq ?_
      refine HW.region ?_
      refine HL.still (Runs.move e5) ?_
      intro u17 e17
      refine HL.still (Runs.assign e17) ?_
      intro u4 e4
      refine HL.nil ?_
      refine HW.ret ?_
      exact RT.one rfl e4 ⟨.inr ⟨i, hlt, rfl, hz, hall⟩, by rw [hh2, hh']⟩
  · skip
    -- region 2
    repeat refine HW.seq ?_
    refine HW.region ?_
    refine HL.still (Runs.lss f8 f7 rfl) ?_
    intro u9 e9
    refine HL.nil ?_
    repeat refine HW.seq ?_
    refine HW.no ?_ ?_
    exact e9.trans (congrArg Value.bool (decide_eq_false (by omega)))
    refine HW.exitHere ?_
    -- region 7
    repeat refine HW.seq ?_
    refine HW.region ?_
    refine HL.still (Runs.assign rfl) ?_
    intro u4 e4
    refine HL.nil ?_
    refine HW.ret ?_
    exact RT.one rfl e4 ⟨.inl ⟨rfl, fun j hj => hall j (by omega)⟩, hh'⟩
theorem contf_ch (h : Heap) (xs : List Str) (n : Nat) (a : Option Addr) (cap k : Nat) (p : Str → Bool) (hp : Pred k p) (hn : n = xs.length) (hsrc : Sts h a xs) (hlen : xs.length < 4611686018427387904) :
    CH Tryd.prog 46 #[.slice a n cap, .func (.func k) #[] #[]] h fun v h' => v = .bool (xs.any p) ∧ h' = h := by
  refine CH.of_body Tryd.func46 rfl rfl rfl ?_
  intro f hf
  have p0 : f 0 = .slice a n cap := by rw [hf]; exact fr0_at rfl
  have p1 : f 1 = .func (.func k) #[] #[] := by rw [hf]; exact fr0_at rfl
  -- region 0
  repeat refine HW.seq ?_
  refine HW.region ?_
  refine HL.still (Runs.assign rfl) ?_
  intro u4 e4
  refine HL.nil ?_
  -- region 1
  repeat refine HW.seq ?_
  refine HW.region ?_
  refine HL.still (Runs.move p0) ?_
  intro u5 e5
  refine HL.still (Runs.move p1) ?_
  intro u6 e6
  refine HL.one (HO.call Tryd.func41 bd41 nm41 (args2 e5 e6) rfl (((show CH _ _ _ _ (fun v h' => (∃ r : Int, v = I64 r ∧ decide (r ≥ 0) = xs.any p) ∧ h' = h) from (idxf_ch h xs n a cap k p hp hn hsrc hlen).mono fun v h' q => ⟨by rcases q.1 with ⟨q1, q2⟩ | ⟨i, q1, q2, q3, _⟩; exact ⟨-1, q1, by rw [any_iff.2 q2]; rfl⟩; exact ⟨i, q2, by rw [List.any_eq_true.2 ⟨xs[i], List.getElem_mem q1, by rw [List.getD_eq_getElem?_getD, List.getElem?_eq_getElem q1] at q3; exact q3⟩]; exact decide_eq_true (by omega)⟩, q.2⟩)).mono ?_))
  rintro _ h1 ⟨⟨r, rfl, hr⟩, hh1⟩
  intro u7 e7
  refine HL.still (Runs.geq e7 rfl hr) ?_
  intro u8 e8
  refine HL.still (Runs.assign e8) ?_
  intro u4 e4
  refine HL.nil ?_
  refine HW.ret ?_
  exact RT.one rfl e4 ⟨rfl, hh1⟩
end Go.Proofs.YtfnippeemboljaaDoor
