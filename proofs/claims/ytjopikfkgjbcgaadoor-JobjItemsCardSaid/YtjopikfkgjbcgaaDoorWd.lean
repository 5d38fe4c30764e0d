/- slices.Clone of values; Same; named, both. -/
import Derived.Test.YtjopikfkgjbcgaaDoorWc
namespace Go.Proofs.YtjopikfkgjbcgaaDoor
set_option linter.unnecessarySimpa false
set_option linter.unusedSimpArgs false
set_option linter.unusedVariables false
open Go.RowKit
section
variable {ρ : Operand → Value} {h : Heap} {d : Option Tmp} {ty : TypeId} {pos : String} {af : Array Edge} {gd : Option (Nat × Bool)} {K : Value → Heap → Prop}
theorem run_jv0 (w : World) : (Instr.buildSlice 22 0 #[]).run Tryd.prog w = .ok (.slice (some ⟨w.heap.size, 0, none⟩) 0 0) (w.alloc (.cells (flJ []).toArray 37)) := by kernel_rfl
set_option maxRecDepth 10000 in
theorem HO.jv0 (k : ∀ h', Nw h h' (.cells (flJ []).toArray 37 (0, 0)) → K (.slice (some ⟨h.size, 0, none⟩) 0 0) h') : HO Tryd.prog ⟨d, .buildSlice 22 0 #[], ty, pos, af, gd⟩ ρ h K :=
  HO.buildSlice (fun w => by
    have e : (#[] : Array (Nat × Operand)).map (fun (i, x) => (i, ρ x)) = #[] := by simp
    rw [e]
    exact run_jv0 w) k
end

section
variable {ρ : Operand → Value} {h : Heap} {d : Option Tmp} {ty : TypeId} {pos : String} {af : Array Edge} {gd : Option (Nat × Bool)} {x y : Operand}
theorem run_nilDs (n c : Nat) (w : World) : (binOp .eql 22 (.slice none n c) (.slice none 0 0)).run Tryd.prog w = .ok (.bool true) w := by kernel_rfl
theorem run_nonDs (a : Addr) (n c : Nat) (w : World) : (binOp .eql 22 (.slice (some a) n c) (.slice none 0 0)).run Tryd.prog w = .ok (.bool false) w := by kernel_rfl
theorem Runs.eqNilJs {a : Option Addr} {n c : Nat} (hx : ρ x = .slice a n c) (hy : ρ y = .slice none 0 0) : Runs Tryd.prog ⟨d, .binOp .eql 22 x y 22, ty, pos, af, gd⟩ ρ h (.bool a.isNone) := fun w _ => by
  have h1 : (eqGuard .eql 22 x y (.slice a n c) (.slice none 0 0)).run Tryd.prog w = .ok () w := by
    unfold eqGuard
    simp
  have h2 : (binOp .eql 22 (.slice a n c) (.slice none 0 0)).run Tryd.prog w = .ok (.bool a.isNone) w := by
    cases a with
    | none => exact run_nilDs n c w
    | some a => exact run_nonDs a n c w
  simp only [execOp, hx, hy, Sem.run_bind, h1, Result.andThen_ok, h2]
  rfl
end
theorem Js.start (h : Heap) (base : Nat) : Js h base none 0 [] := ⟨Own.nil h base 37 4, Nat.le_refl _⟩
set_option maxRecDepth 10000 in
theorem cloneJ_ch (h : Heap) (l : List JV) (a : Option Addr) (n cap : Nat) (hn : n = l.length) (hsrc : Jvs h a l) (hlen : l.length ≤ 1000000) :
    CH Tryd.prog 31 #[.slice a n cap] h fun v h' => ∃ a' c', v = .slice a' l.length c' ∧ Js h' h.size a' c' l ∧ Ext h h' := by
  subst hn
  refine CH.of_body Tryd.func31 rfl rfl rfl ?_
  intro f hf
  have p0 : f 0 = .slice a l.length cap := by rw [hf]; exact fr0_at rfl
  -- region 0
  repeat refine HW.seq ?_
  refine HW.region ?_
  refine HL.still (Runs.assign rfl) ?_
  intro u2 e2
  refine HL.nil ?_
  -- region 1
  repeat refine HW.seq ?_
  refine HW.region ?_
  refine HL.still (Runs.move p0) ?_
  intro u3 e3
  refine HL.still (Runs.eqNilJs e3 rfl) ?_
  intro u4 e4
  refine HL.nil ?_
  cases a with
  | none =>
    have hxs : l = [] := by
      rcases hsrc with q | ⟨sb, so, q, _⟩
      · exact q
      · cases q
    subst hxs
    refine HW.yes e4 ?_
    -- region 2
    repeat refine HW.seq ?_
    refine HW.region ?_
    refine HL.still (Runs.assign rfl) ?_
    intro u2 e2
    refine HL.nil ?_
    refine HW.ret ?_
    exact RT.one rfl e2 ⟨none, 0, rfl, Js.start h h.size, Bel.refl _ _⟩
  | some a =>
    refine HW.no e4 ?_
    refine HW.skip ?_
    -- region 3
    repeat refine HW.seq ?_
    refine HW.region ?_
    refine HL.one (HO.jv0 ?_)
    intro h1 w1
    intro u5 e5
    refine HL.still (Runs.move p0) ?_
    intro u6 e6
    refine HL.one (HO.dapp e5 e6 rfl rfl (Js.lit (l := []) w1 (Nat.le_refl _) (Nat.zero_le _)) (hsrc.ext w1.ext) (by simp; omega) (by rw [w1.size]; omega) ?_)
    intro a5 c5 h5 B5 G5
    intro u7 e7
    refine HL.still (Runs.assign e7) ?_
    intro u2 e2
    refine HL.nil ?_
    refine HW.ret ?_
    exact RT.one rfl e2 ⟨a5, c5, rfl, B5, G5.belJ w1.ext (Js.lit (l := []) w1 (Nat.le_refl _) (Nat.zero_le _)) (Nat.le_refl _) (Nat.le_refl _)⟩

theorem take_eq_step {A B : List JV} {k : Nat} (hA : k < A.length) (hB : k < B.length) (h : A.take k = B.take k) (e : A.getD k zJ = B.getD k zJ) : A.take (k + 1) = B.take (k + 1) := by
  rw [List.take_succ_eq_append_getElem hA, List.take_succ_eq_append_getElem hB, h]
  congr 2
  rw [List.getD_eq_getElem?_getD, List.getD_eq_getElem?_getD, List.getElem?_eq_getElem hA, List.getElem?_eq_getElem hB] at e
  exact e
set_option maxRecDepth 10000 in
theorem same_ch (h : Heap) (A B : List JV) (a b : Option Addr) (n m c d : Nat) (hn : n = A.length) (hm : m = B.length) (hA : Jvs h a A) (hB : Jvs h b B) (hlA : A.length ≤ 1000000) (hlB : B.length ≤ 1000000) :
    CH Tryd.prog 12 #[.slice a n c, .slice b m d] h fun v h' => v = .bool (A == B) ∧ h' = h := by
  subst hn hm
  refine CH.of_body Tryd.func12 rfl rfl rfl ?_
  intro f hf
  have p0 : f 0 = .slice a A.length c := by rw [hf]; exact fr0_at rfl
  have p1 : f 1 = .slice b B.length d := by rw [hf]; exact fr0_at rfl
  -- region 0
  repeat refine HW.seq ?_
  refine HW.region ?_
  refine HL.still (Runs.assign rfl) ?_
  intro u4 e4
  refine HL.nil ?_
  by_cases hlen : A.length = B.length
  case neg =>
    -- region 1
    repeat refine HW.seq ?_
    refine HW.region ?_
    refine HL.still (Runs.move p0) ?_
    intro u6 e6
    refine HL.still (Runs.lenSl rfl Tryd.underlying22 e6) ?_
    intro u7 e7
    refine HL.still (Runs.move p1) ?_
    intro u8 e8
    refine HL.still (Runs.lenSl rfl Tryd.underlying22 e8) ?_
    intro u9 e9
    refine HL.still (Runs.neq e7 e9 (t := true) (by simp; omega)) ?_
    intro u10 e10
    refine HL.nil ?_
    repeat refine HW.seq ?_
    refine HW.yes ?_ ?_
    exact e10
    -- region 2
    repeat refine HW.seq ?_
    refine HW.region ?_
    refine HL.still (Runs.assign rfl) ?_
    intro u4 e4
    refine HL.nil ?_
    refine HW.ret ?_
    exact RT.one rfl e4 ⟨by rw [beq_eq_false_iff_ne.2 (fun e => hlen (congrArg List.length e))], rfl⟩
  -- region 1
  repeat refine HW.seq ?_
  refine HW.region ?_
  refine HL.still (Runs.move p0) ?_
  intro u6 e6
  refine HL.still (Runs.lenSl rfl Tryd.underlying22 e6) ?_
  intro u7 e7
  refine HL.still (Runs.move p1) ?_
  intro u8 e8
  refine HL.still (Runs.lenSl rfl Tryd.underlying22 e8) ?_
  intro u9 e9
  refine HL.still (Runs.neq e7 e9 (t := false) (by rw [hlen]; simp)) ?_
  intro u10 e10
  refine HL.nil ?_
  repeat refine HW.seq ?_
  refine HW.no ?_ ?_
  exact e10
  refine HW.skip ?_
  -- region 3
  repeat refine HW.seq ?_
  refine HW.region ?_
  refine HL.still (Runs.assign rfl) ?_
  intro u5 e5
  refine HL.nil ?_
  repeat refine HW.seq ?_
  refine HW.block ?_
  refine HW.loop (fun m f u => ∃ k : Nat, k ≤ A.length ∧ m = A.length - k ∧ f 5 = I64 k ∧ f 0 = .slice a A.length c ∧ f 1 = .slice b B.length d ∧ A.take k = B.take k ∧ u = h) A.length
    ⟨0, Nat.zero_le _, rfl, e5, p0, p1, rfl, rfl⟩ ?_
  clear e4 e5
  rintro m f u ⟨k, hk, hm, f5, f0, f1, hpre, rfl⟩
  by_cases hlt : k < A.length
  · obtain ⟨sa, oa, rfl, ca⟩ := hA.at hlt
    obtain ⟨sb, ob, rfl, cb⟩ := hB.at (show k < B.length by omega)
    -- region 4
    repeat refine HW.seq ?_
    refine HW.region ?_
    refine HL.still (Runs.move f5) ?_
    intro u11 e11
    refine HL.still (Runs.move f0) ?_
    intro u12 e12
    refine HL.still (Runs.lenSl rfl Tryd.underlying22 e12) ?_
    intro u13 e13
    refine HL.still (Runs.lss e11 e13 rfl) ?_
    intro u14 e14
    refine HL.nil ?_
    repeat refine HW.seq ?_
    refine HW.yes ?_ ?_
    exact e14.trans (congrArg Value.bool (decide_eq_true (by omega)))
    refine HW.skip ?_
    repeat refine HW.seq ?_
    refine HW.block ?_
    by_cases he : A.getD k zJ = B.getD k zJ
    · skip
      -- region 6
      repeat refine HW.seq ?_
      refine HW.draw mixed (by kernel_rfl) ?_
      refine HS.still (Runs.move f0) ?_
      intro u17 e17
      refine HS.still (Runs.move f5) ?_
      intro u18 e18
      refine HS.still (Runs.ixSl (o' := oa + k * 4) Tryd.underlying22 sz37 e17 e18 (by omega) (by omega) (by omega)) ?_
      intro u19 e19
      refine HS.still (Runs.loadAgg Tryd.underlying37 rfl sz37 e19 (encJ_len (A.getD k zJ)) ca) ?_
      intro u20 e20
      refine HS.still (Runs.move f1) ?_
      intro u21 e21
      refine HS.still (Runs.move f5) ?_
      intro u22 e22
      refine HS.still (Runs.ixSl (o' := ob + k * 4) Tryd.underlying22 sz37 e21 e22 (by omega) (by omega) (by omega)) ?_
      intro u23 e23
      refine HS.still (Runs.loadAgg Tryd.underlying37 rfl sz37 e23 (encJ_len (B.getD k zJ)) cb) ?_
      intro u24 e24
      refine HS.still (Runs.neqJ (t := false) e20 e24 (by rw [he]; simp)) ?_
      intro u25 e25
      refine HS.nil ?_
      repeat refine HW.seq ?_
      refine HW.no ?_ ?_
      exact e25
      refine HW.skip ?_
      -- region 5
      repeat refine HW.seq ?_
      refine HW.region ?_
      refine HL.still (Runs.move f5) ?_
      intro u15 e15
      refine HL.still (Runs.add e15 rfl (i64w (by omega))) ?_
      intro u16 e16
      refine HL.still (Runs.assign e16) ?_
      intro u5 e5
      refine HL.nil ?_
      exact ⟨A.length - (k + 1), by omega, k + 1, by omega, rfl, e5, f0, f1, take_eq_step hlt (by omega) hpre he, rfl⟩
    · skip
      -- region 6
      repeat refine HW.seq ?_
      refine HW.draw mixed (by kernel_rfl) ?_
      refine HS.still (Runs.move f0) ?_
      intro u17 e17
      refine HS.still (Runs.move f5) ?_
      intro u18 e18
      refine HS.still (Runs.ixSl (o' := oa + k * 4) Tryd.underlying22 sz37 e17 e18 (by omega) (by omega) (by omega)) ?_
      intro u19 e19
      refine HS.still (Runs.loadAgg Tryd.underlying37 rfl sz37 e19 (encJ_len (A.getD k zJ)) ca) ?_
      intro u20 e20
      refine HS.still (Runs.move f1) ?_
      intro u21 e21
      refine HS.still (Runs.move f5) ?_
      intro u22 e22
      refine HS.still (Runs.ixSl (o' := ob + k * 4) Tryd.underlying22 sz37 e21 e22 (by omega) (by omega) (by omega)) ?_
      intro u23 e23
      refine HS.still (Runs.loadAgg Tryd.underlying37 rfl sz37 e23 (encJ_len (B.getD k zJ)) cb) ?_
      intro u24 e24
      refine HS.still (Runs.neqJ (t := true) e20 e24 (by rw [beq_eq_false_iff_ne.2 he]; rfl)) ?_
      intro u25 e25
      refine HS.nil ?_
      repeat refine HW.seq ?_
      refine HW.yes ?_ ?_
      exact e25
      -- region 7
      repeat refine HW.seq ?_
      refine HW.region ?_
      refine HL.still (Runs.assign rfl) ?_
      intro u4 e4
      refine HL.nil ?_
      refine HW.ret ?_
      exact RT.one rfl e4 ⟨by rw [beq_eq_false_iff_ne.2 (fun e => he (by rw [e]))], rfl⟩
  · have hkn : k = A.length := by omega
    subst hkn
    have hAB : A = B := by
      rw [List.take_of_length_le (Nat.le_refl _), hlen, List.take_of_length_le (Nat.le_refl _)] at hpre
      exact hpre
    -- region 4
    repeat refine HW.seq ?_
    refine HW.region ?_
    refine HL.still (Runs.move f5) ?_
    intro u11 e11
    refine HL.still (Runs.move f0) ?_
    intro u12 e12
    refine HL.still (Runs.lenSl rfl Tryd.underlying22 e12) ?_
    intro u13 e13
    refine HL.still (Runs.lss e11 e13 rfl) ?_
    intro u14 e14
    refine HL.nil ?_
    repeat refine HW.seq ?_
    refine HW.no ?_ ?_
    exact e14.trans (congrArg Value.bool (decide_eq_false (by omega)))
    refine HW.exitHere ?_
    -- region 8
    repeat refine HW.seq ?_
    refine HW.region ?_
    refine HL.still (Runs.assign rfl) ?_
    intro u4 e4
    refine HL.nil ?_
    refine HW.ret ?_
    exact RT.one rfl e4 ⟨by rw [hAB]; simp, rfl⟩
end Go.Proofs.YtjopikfkgjbcgaaDoor
