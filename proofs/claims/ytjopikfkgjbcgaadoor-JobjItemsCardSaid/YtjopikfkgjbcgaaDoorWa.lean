/- Few; End, both. -/
import Derived.Test.YtjopikfkgjbcgaaDoorVa
namespace Go.Proofs.YtjopikfkgjbcgaaDoor
set_option linter.unnecessarySimpa false
set_option linter.unusedSimpArgs false
set_option linter.unusedVariables false
open Go.RowKit
theorem Jvs.ext {h h' : Heap} {a : Option Addr} {l : List JV} (x : Jvs h a l) (k : Ext h h') : Jvs h' a l := by
  rcases x with x | ⟨sb, so, h1, h2⟩
  · exact .inl x
  · exact .inr ⟨sb, so, h1, fun j hj i v hv => by rw [cellH_keep (k.old sb (lt_of_cellH (h2 j hj i v hv)))]; exact h2 j hj i v hv⟩
/-- How many bytes a row's keys and texts have. -/
def lensJ : List JV → Nat
  | [] => 0
  | x :: l => x.2.1.length + x.2.2.1.length + lensJ l
def fewJ (l : List JV) : Bool := decide (l.length ≤ 80) && decide (lensJ l ≤ 3000)
theorem fewJ_of {l : List JV} (h : fewJ l = true) : l.length ≤ 80 ∧ lensJ l ≤ 3000 := by
  unfold fewJ at h
  rw [Bool.and_eq_true, decide_eq_true_eq, decide_eq_true_eq] at h
  exact h
/-- The sum as Go adds it up: it may wrap round. -/
def wsumJ (l : List JV) : Int := l.foldl (fun s x => IntKind.i64.wrap (IntKind.i64.wrap (s + x.2.1.length) + x.2.2.1.length)) 0
theorem wsumJ_take (l : List JV) {k : Nat} (hk : k < l.length) : wsumJ (l.take (k + 1)) = IntKind.i64.wrap (IntKind.i64.wrap (wsumJ (l.take k) + (l.getD k zJ).2.1.length) + (l.getD k zJ).2.2.1.length) := by
  rw [List.take_succ_eq_append_getElem hk, wsumJ, List.foldl_append, List.getD_eq_getElem?_getD, List.getElem?_eq_getElem hk]
  rfl
def SmallJ (l : List JV) : Prop := ∀ x ∈ l, x.2.1.length ≤ 140737488355328 ∧ x.2.2.1.length ≤ 140737488355328
theorem wsumJ_small (l : List JV) (hz : SmallJ l) (hl : l.length ≤ 80) : wsumJ l = lensJ l := by
  have key : ∀ (m : List JV) (s : Nat), SmallJ m → s + m.length * 281474976710656 ≤ 9000000000000000000 → m.foldl (fun (s : Int) x => IntKind.i64.wrap (IntKind.i64.wrap (s + x.2.1.length) + x.2.2.1.length)) (s : Int) = ((s + lensJ m : Nat) : Int) := by
    intro m
    induction m with
    | nil => intro s _ _; simp [lensJ]
    | cons x m ih =>
      intro s hz hs
      obtain ⟨h1, h2⟩ := hz x (List.mem_cons_self ..)
      rw [List.length_cons] at hs
      have e1 : IntKind.i64.wrap ((s : Int) + (x.2.1.length : Nat)) = ((s + x.2.1.length : Nat) : Int) := by rw [i64w (by omega)]; omega
      have e2 : IntKind.i64.wrap (((s + x.2.1.length : Nat) : Int) + (x.2.2.1.length : Nat)) = ((s + x.2.1.length + x.2.2.1.length : Nat) : Int) := by rw [i64w (by omega)]; omega
      rw [List.foldl_cons, e1, e2, ih _ (fun y hy => hz y (List.mem_cons_of_mem _ hy)) (by omega), lensJ]
      congr 1
      omega
  have := key l 0 hz (by omega)
  rw [Nat.zero_add] at this
  exact this
set_option maxRecDepth 10000 in
theorem few_ch (h : Heap) (l : List JV) (a : Option Addr) (n cap : Nat) (hn : n = l.length) (hB : Jvs h a l) (hl : l.length ≤ maxLen) (hz : SmallJ l) : CH Tryd.prog 8 #[.slice a n cap] h fun v h' => v = .bool (fewJ l) ∧ h' = h := by
  subst hn
  have hml : maxLen = 9223372036854775807 := rfl
  rw [hml] at hl
  refine CH.of_body Tryd.func8 rfl rfl rfl ?_
  intro f hf
  have p0 : f 0 = .slice a l.length cap := by rw [hf]; exact fr0_at rfl
  -- region 0
  repeat refine HW.seq ?_
  refine HW.region ?_
  refine HL.still (Runs.assign rfl) ?_
  intro u2 e2
  refine HL.nil ?_
  -- region 1
  repeat refine HW.seq ?_
  refine HW.region ?_
  refine HL.still (Runs.assign rfl) ?_
  intro u3 e3
  refine HL.nil ?_
  -- region 2
  repeat refine HW.seq ?_
  refine HW.region ?_
  refine HL.still (Runs.assign rfl) ?_
  intro u4 e4
  refine HL.nil ?_
  repeat refine HW.seq ?_
  refine HW.block ?_
  refine HW.loop (fun m f u => ∃ k : Nat, k ≤ l.length ∧ m = l.length - k ∧ f 4 = I64 k ∧ f 0 = .slice a l.length cap ∧ f 3 = I64 (wsumJ (l.take k)) ∧ u = h) l.length
    ⟨0, Nat.zero_le _, rfl, e4, p0, e3, rfl⟩ ?_
  clear e2 e3 e4
  rintro m f u ⟨k, hk, hm, f4, f0, f3, rfl⟩
  by_cases hlt : k < l.length
  · obtain ⟨sb, so, rfl, hc⟩ := hB.at hlt
    have htt := wsumJ_take l hlt
    obtain ⟨x, hx⟩ : ∃ x, x = l.getD k zJ := ⟨_, rfl⟩
    rw [← hx] at hc htt
    -- region 3
    repeat refine HW.seq ?_
    refine HW.region ?_
    refine HL.still (Runs.move f4) ?_
    intro u5 e5
    refine HL.still (Runs.move f0) ?_
    intro u6 e6
    refine HL.still (Runs.lenSl rfl Tryd.underlying22 e6) ?_
    intro u7 e7
    refine HL.still (Runs.lss e5 e7 rfl) ?_
    intro u8 e8
    refine HL.nil ?_
    repeat refine HW.seq ?_
    refine HW.yes ?_ ?_
    exact e8.trans (congrArg Value.bool (decide_eq_true (by omega)))
    refine HW.skip ?_
    repeat refine HW.seq ?_
    refine HW.block ?_
    -- region 5
    repeat refine HW.seq ?_
    refine HW.draw mixed (by kernel_rfl) ?_
    refine HS.still (Runs.move f3) ?_
    intro u11 e11
    refine HS.still (Runs.move f0) ?_
    intro u12 e12
    refine HS.still (Runs.move f4) ?_
    intro u13 e13
    refine HS.still (Runs.ixSl (o' := so + k * 4) Tryd.underlying22 sz37 e12 e13 (by omega) (by omega) (by omega)) ?_
    intro u14 e14
    refine HS.still (Runs.fld (o' := so + k * 4 + 1) Tryd.underlying37 rfl sz9 (by decide) e14 (by first | rfl | omega)) ?_
    intro u15 e15
    refine HS.still (Runs.load Tryd.underlying9 rfl e15 (hc 1 _ rfl)) ?_
    intro u16 e16
    refine HS.still (Runs.lenS rfl Tryd.underlying9 e16) ?_
    intro u17 e17
    refine HS.still (Runs.add e11 e17 rfl) ?_
    intro u18 e18
    refine HS.still (Runs.move f0) ?_
    intro u19 e19
    refine HS.still (Runs.move f4) ?_
    intro u20 e20
    refine HS.still (Runs.ixSl (o' := so + k * 4) Tryd.underlying22 sz37 e19 e20 (by omega) (by omega) (by omega)) ?_
    intro u21 e21
    refine HS.still (Runs.fld (o' := so + k * 4 + 2) Tryd.underlying37 rfl sz9 (by decide) e21 (by first | rfl | omega)) ?_
    intro u22 e22
    refine HS.still (Runs.load Tryd.underlying9 rfl e22 (hc 2 _ rfl)) ?_
    intro u23 e23
    refine HS.still (Runs.lenS rfl Tryd.underlying9 e23) ?_
    intro u24 e24
    refine HS.still (Runs.add e18 e24 rfl) ?_
    intro u25 e25
    refine HS.still (Runs.assign e25) ?_
    intro u3 e3
    refine HS.nil ?_
    -- region 4
    repeat refine HW.seq ?_
    refine HW.region ?_
    refine HL.still (Runs.move f4) ?_
    intro u9 e9
    refine HL.still (Runs.add e9 rfl (i64w (by omega))) ?_
    intro u10 e10
    refine HL.still (Runs.assign e10) ?_
    intro u4 e4
    refine HL.nil ?_
    exact ⟨l.length - (k + 1), by omega, k + 1, by omega, rfl, e4, f0, e3.trans (congrArg (Value.int .i64) htt.symm), rfl⟩
  · have hkl : k = l.length := by omega
    subst hkl
    rw [List.take_of_length_le (Nat.le_refl _)] at f3
    -- region 3
    repeat refine HW.seq ?_
    refine HW.region ?_
    refine HL.still (Runs.move f4) ?_
    intro u5 e5
    refine HL.still (Runs.move f0) ?_
    intro u6 e6
    refine HL.still (Runs.lenSl rfl Tryd.underlying22 e6) ?_
    intro u7 e7
    refine HL.still (Runs.lss e5 e7 rfl) ?_
    intro u8 e8
    refine HL.nil ?_
    repeat refine HW.seq ?_
    refine HW.no ?_ ?_
    exact e8.trans (congrArg Value.bool (decide_eq_false (by omega)))
    refine HW.exitHere ?_
    -- region 6
    repeat refine HW.seq ?_
    refine HW.region ?_
    refine HL.still (Runs.move f0) ?_
    intro u26 e26
    refine HL.still (Runs.lenSl rfl Tryd.underlying22 e26) ?_
    intro u27 e27
    refine HL.still (Runs.leq e27 rfl (t := decide (l.length ≤ 80)) (decide_eq_decide.2 (by omega))) ?_
    intro u28 e28
    refine HL.still (Runs.move e28) ?_
    intro u29 e29
    refine HL.anyG rfl rfl e29 (fun hg => Runs.move f3) ?_
    intro u30 e30
    refine HL.anyG rfl rfl e29 (fun hg => Runs.leq (e30.trans (if_pos hg)) rfl (t := decide (wsumJ l ≤ 3000)) rfl) ?_
    intro u31 e31
    refine HL.still (Runs.pick e29 (and_pick e31)) ?_
    intro u32 e32
    refine HL.still (Runs.assign e32) ?_
    intro u2 e2
    refine HL.nil ?_
    refine HW.ret ?_
    refine RT.one rfl e2 ⟨?_, rfl⟩
    unfold fewJ
    by_cases h40 : l.length ≤ 80
    · rw [wsumJ_small l hz h40]
      congr 2
      exact decide_eq_decide.2 (by omega)
    · rw [decide_eq_false h40]
      rfl
end Go.Proofs.YtjopikfkgjbcgaaDoor
