/- Is a value right by itself: json.own, onionskinref11.own. -/
import Derived.Test.YtjopikfkgjbcgaaGreatDoorOb
import Derived.Test.YtjopikfkgjbcgaaGreatDoorRa
import Derived.Maps.Keyed
import Derived.ChangeMaps
namespace Go.Proofs.YtjopikfkgjbcgaaGreatDoor
set_option linter.unnecessarySimpa false
set_option linter.unusedSimpArgs false
set_option linter.unusedVariables false
open Go.RowKit
/-- What is wrong at once. -/
def badO (x : JV) : Bool := decide (x.1 < 0 ∨ x.1 > 6 ∨ x.2.2.2 < 0 ∨ (x.2.2.2 > 0 ∧ ¬ (x.1 = 5 ∨ x.1 = 6)))
theorem eqnil (s : List UInt8) : (s == []) = decide (s = []) := by
  rw [Bool.eq_iff_iff, beq_iff_eq, decide_eq_true_eq]
set_option maxRecDepth 10000 in
set_option maxHeartbeats 1000000 in
theorem own_ch (h : Heap) (x : JV) (hP : Plc h) (hx : x.2.2.1.length < 4611686018427387000) : CH Tryz.prog 51 #[.agg (encJ x).toArray] h fun v h' => v = .bool (ownO x) ∧ Ext h h' := by
  refine CH.of_body Tryz.func51 rfl rfl rfl ?_
  intro f hf
  have p0 : f 0 = .agg (encJ x).toArray := by rw [hf]; exact fr0_at rfl
  -- region 0
  repeat refine HW.seq ?_
  refine HW.region ?_
  refine HL.one (HO.box p0 ?_)
  intro h1 w1
  intro u1 e1
  refine HL.still (Runs.assign rfl) ?_
  intro u2 e2
  refine HL.nil ?_
  have hc := fun j v (q : (encJ x)[j]? = some v) => (cellH_list w1.new q : cellH h1 h.size j = some v)
  have c0 := hc 0 _ rfl
  have c2 := hc 2 _ rfl
  have c3 := hc 3 _ rfl
  have hP1 := hP.ext w1.ext
  refine HW.seq ?_
  refine HW.mono (N := fun f v => f 1 = .pointer (some ⟨h.size, 0, none⟩) ∧ f 3 = .bool (decide (x.1 = 5 ∨ x.1 = 6)) ∧ h1 = v) ?_ ?_ (fun _ _ _ q => q) (fun _ _ q => q)
  · by_cases h5 : x.1 = 5
    · skip
      -- region 1
      repeat refine HW.seq ?_
      refine HW.region ?_
      refine HL.still (Runs.fld (o' := 0) Tryz.underlying41 rfl sz3 (by decide) e1 (by rfl)) ?_
      intro u4 e4
      refine HL.still (Runs.load Tryz.underlying3 rfl e4 c0) ?_
      intro u5 e5
      refine HL.still (Runs.eql e5 rfl (t := true) (by simp [h5])) ?_
      intro u6 e6
      refine HL.still (Runs.move e6) ?_
      intro u7 e7
      refine HL.skipG rfl rfl e7 ?_
      intro u8 e8
      refine HL.skipG rfl rfl e7 ?_
      intro u9 e9
      refine HL.skipG rfl rfl e7 ?_
      intro u10 e10
      refine HL.still (Runs.pick e7 rfl) ?_
      intro u11 e11
      refine HL.still (Runs.assign e11) ?_
      intro u3 e3
      refine HL.nil ?_
      exact ⟨e1, by rw [decide_eq_true (.inl h5)]; exact e3, rfl⟩
    · skip
      -- region 1
      repeat refine HW.seq ?_
      refine HW.region ?_
      refine HL.still (Runs.fld (o' := 0) Tryz.underlying41 rfl sz3 (by decide) e1 (by rfl)) ?_
      intro u4 e4
      refine HL.still (Runs.load Tryz.underlying3 rfl e4 c0) ?_
      intro u5 e5
      refine HL.still (Runs.eql e5 rfl (t := false) (by simp [h5])) ?_
      intro u6 e6
      refine HL.still (Runs.move e6) ?_
      intro u7 e7
      refine HL.stillG rfl rfl e7 (Runs.fld (o' := 0) Tryz.underlying41 rfl sz3 (by decide) e1 (by rfl)) ?_
      intro u8 e8
      refine HL.stillG rfl rfl e7 (Runs.load Tryz.underlying3 rfl e8 c0) ?_
      intro u9 e9
      refine HL.stillG rfl rfl e7 (Runs.eql e9 rfl (t := decide (x.1 = 6)) (by rw [Bool.eq_iff_iff, beq_iff_eq, decide_eq_true_eq])) ?_
      intro u10 e10
      refine HL.still (Runs.pick e7 e10) ?_
      intro u11 e11
      refine HL.still (Runs.assign e11) ?_
      intro u3 e3
      refine HL.nil ?_
      exact ⟨e1, by rw [e3]; simp [h5], rfl⟩
  rintro f v ⟨f1, f3, rfl⟩
  clear e1 e2 p0
  refine HW.seq ?_
  refine HW.mono (N := fun f v => badO x = false ∧ x.1 ≠ 3 ∧ f 1 = .pointer (some ⟨h.size, 0, none⟩) ∧ h1 = v) ?_ ?_ (fun _ _ _ q => q) (fun _ _ q => q)
  · refine HW.block ?_
    repeat refine HW.seq ?_
    refine HW.mono (N := fun f v => f 1 = .pointer (some ⟨h.size, 0, none⟩) ∧ f 12 = .bool (badO x) ∧ h1 = v) ?_ ?_ (fun _ _ _ q => q) (fun _ _ q => q)
    · by_cases ha : x.1 < 0
      · have hb : badO x = true := by unfold badO; exact decide_eq_true (.inl ha)
        -- region 2
        repeat refine HW.seq ?_
        refine HW.region ?_
        refine HL.still (Runs.fld (o' := 0) Tryz.underlying41 rfl sz3 (by decide) f1 (by rfl)) ?_
        intro u13 e13
        refine HL.still (Runs.load Tryz.underlying3 rfl e13 c0) ?_
        intro u14 e14
        refine HL.still (Runs.lss e14 rfl (t := true) (decide_eq_true ha)) ?_
        intro u15 e15
        refine HL.still (Runs.move e15) ?_
        intro u16 e16
        refine HL.skipG rfl rfl e16 ?_
        intro u17 e17
        refine HL.skipG rfl rfl e16 ?_
        intro u18 e18
        refine HL.skipG rfl rfl e16 ?_
        intro u19 e19
        refine HL.still (Runs.pick e16 rfl) ?_
        intro u20 e20
        refine HL.still (Runs.move e20) ?_
        intro u21 e21
        refine HL.skipG rfl rfl e21 ?_
        intro u22 e22
        refine HL.skipG rfl rfl e21 ?_
        intro u23 e23
        refine HL.skipG rfl rfl e21 ?_
        intro u24 e24
        refine HL.still (Runs.pick e21 rfl) ?_
        intro u25 e25
        refine HL.still (Runs.move e25) ?_
        intro u26 e26
        refine HL.skipG rfl rfl e26 ?_
        intro u27 e27
        refine HL.skipG rfl rfl e26 ?_
        intro u28 e28
        refine HL.skipG rfl rfl e26 ?_
        intro u29 e29
        refine HL.skipG rfl rfl e26 ?_
        intro u30 e30
        refine HL.skipU rfl rfl e30 ?_
        intro u31 e31
        refine HL.skipU rfl rfl e30 ?_
        intro u32 e32
        refine HL.skipG rfl rfl e26 ?_
        intro u33 e33
        refine HL.still (Runs.pick e26 rfl) ?_
        intro u34 e34
        refine HL.still (Runs.assign e34) ?_
        intro u12 e12
        refine HL.nil ?_
        exact ⟨f1, by rw [hb]; exact e12, rfl⟩
      by_cases hb : x.1 > 6
      · have hb' : badO x = true := by unfold badO; exact decide_eq_true (.inr (.inl hb))
        -- region 2
        repeat refine HW.seq ?_
        refine HW.region ?_
        refine HL.still (Runs.fld (o' := 0) Tryz.underlying41 rfl sz3 (by decide) f1 (by rfl)) ?_
        intro u13 e13
        refine HL.still (Runs.load Tryz.underlying3 rfl e13 c0) ?_
        intro u14 e14
        refine HL.still (Runs.lss e14 rfl (t := false) (decide_eq_false ha)) ?_
        intro u15 e15
        refine HL.still (Runs.move e15) ?_
        intro u16 e16
        refine HL.stillG rfl rfl e16 (Runs.fld (o' := 0) Tryz.underlying41 rfl sz3 (by decide) f1 (by rfl)) ?_
        intro u17 e17
        refine HL.stillG rfl rfl e16 (Runs.load Tryz.underlying3 rfl e17 c0) ?_
        intro u18 e18
        refine HL.stillG rfl rfl e16 (Runs.gtr e18 rfl (t := true) (decide_eq_true hb)) ?_
        intro u19 e19
        refine HL.still (Runs.pick e16 e19) ?_
        intro u20 e20
        refine HL.still (Runs.move e20) ?_
        intro u21 e21
        refine HL.skipG rfl rfl e21 ?_
        intro u22 e22
        refine HL.skipG rfl rfl e21 ?_
        intro u23 e23
        refine HL.skipG rfl rfl e21 ?_
        intro u24 e24
        refine HL.still (Runs.pick e21 rfl) ?_
        intro u25 e25
        refine HL.still (Runs.move e25) ?_
        intro u26 e26
        refine HL.skipG rfl rfl e26 ?_
        intro u27 e27
        refine HL.skipG rfl rfl e26 ?_
        intro u28 e28
        refine HL.skipG rfl rfl e26 ?_
        intro u29 e29
        refine HL.skipG rfl rfl e26 ?_
        intro u30 e30
        refine HL.skipU rfl rfl e30 ?_
        intro u31 e31
        refine HL.skipU rfl rfl e30 ?_
        intro u32 e32
        refine HL.skipG rfl rfl e26 ?_
        intro u33 e33
        refine HL.still (Runs.pick e26 rfl) ?_
        intro u34 e34
        refine HL.still (Runs.assign e34) ?_
        intro u12 e12
        refine HL.nil ?_
        exact ⟨f1, by rw [hb']; exact e12, rfl⟩
      by_cases hcn : x.2.2.2 < 0
      · have hb' : badO x = true := by unfold badO; exact decide_eq_true (.inr (.inr (.inl hcn)))
        -- region 2
        repeat refine HW.seq ?_
        refine HW.region ?_
        refine HL.still (Runs.fld (o' := 0) Tryz.underlying41 rfl sz3 (by decide) f1 (by rfl)) ?_
        intro u13 e13
        refine HL.still (Runs.load Tryz.underlying3 rfl e13 c0) ?_
        intro u14 e14
        refine HL.still (Runs.lss e14 rfl (t := false) (decide_eq_false ha)) ?_
        intro u15 e15
        refine HL.still (Runs.move e15) ?_
        intro u16 e16
        refine HL.stillG rfl rfl e16 (Runs.fld (o' := 0) Tryz.underlying41 rfl sz3 (by decide) f1 (by rfl)) ?_
        intro u17 e17
        refine HL.stillG rfl rfl e16 (Runs.load Tryz.underlying3 rfl e17 c0) ?_
        intro u18 e18
        refine HL.stillG rfl rfl e16 (Runs.gtr e18 rfl (t := false) (decide_eq_false hb)) ?_
        intro u19 e19
        refine HL.still (Runs.pick e16 e19) ?_
        intro u20 e20
        refine HL.still (Runs.move e20) ?_
        intro u21 e21
        refine HL.stillG rfl rfl e21 (Runs.fld (o' := 3) Tryz.underlying41 rfl sz3 (by decide) f1 (by rfl)) ?_
        intro u22 e22
        refine HL.stillG rfl rfl e21 (Runs.load Tryz.underlying3 rfl e22 c3) ?_
        intro u23 e23
        refine HL.stillG rfl rfl e21 (Runs.lss e23 rfl (t := true) (decide_eq_true hcn)) ?_
        intro u24 e24
        refine HL.still (Runs.pick e21 e24) ?_
        intro u25 e25
        refine HL.still (Runs.move e25) ?_
        intro u26 e26
        refine HL.skipG rfl rfl e26 ?_
        intro u27 e27
        refine HL.skipG rfl rfl e26 ?_
        intro u28 e28
        refine HL.skipG rfl rfl e26 ?_
        intro u29 e29
        refine HL.skipG rfl rfl e26 ?_
        intro u30 e30
        refine HL.skipU rfl rfl e30 ?_
        intro u31 e31
        refine HL.skipU rfl rfl e30 ?_
        intro u32 e32
        refine HL.skipG rfl rfl e26 ?_
        intro u33 e33
        refine HL.still (Runs.pick e26 rfl) ?_
        intro u34 e34
        refine HL.still (Runs.assign e34) ?_
        intro u12 e12
        refine HL.nil ?_
        exact ⟨f1, by rw [hb']; exact e12, rfl⟩
      by_cases hc0 : x.2.2.2 > 0
      · have hb' : badO x = !decide (x.1 = 5 ∨ x.1 = 6) := by
          unfold badO
          rw [Bool.eq_iff_iff]
          simp only [decide_eq_true_eq, Bool.not_eq_true', decide_eq_false_iff_not]
          exact ⟨fun q => by rcases q with q | q | q | q; exact absurd q ha; exact absurd q hb; exact absurd q hcn; exact q.2, fun q => .inr (.inr (.inr ⟨hc0, q⟩))⟩
        -- region 2
        repeat refine HW.seq ?_
        refine HW.region ?_
        refine HL.still (Runs.fld (o' := 0) Tryz.underlying41 rfl sz3 (by decide) f1 (by rfl)) ?_
        intro u13 e13
        refine HL.still (Runs.load Tryz.underlying3 rfl e13 c0) ?_
        intro u14 e14
        refine HL.still (Runs.lss e14 rfl (t := false) (decide_eq_false ha)) ?_
        intro u15 e15
        refine HL.still (Runs.move e15) ?_
        intro u16 e16
        refine HL.stillG rfl rfl e16 (Runs.fld (o' := 0) Tryz.underlying41 rfl sz3 (by decide) f1 (by rfl)) ?_
        intro u17 e17
        refine HL.stillG rfl rfl e16 (Runs.load Tryz.underlying3 rfl e17 c0) ?_
        intro u18 e18
        refine HL.stillG rfl rfl e16 (Runs.gtr e18 rfl (t := false) (decide_eq_false hb)) ?_
        intro u19 e19
        refine HL.still (Runs.pick e16 e19) ?_
        intro u20 e20
        refine HL.still (Runs.move e20) ?_
        intro u21 e21
        refine HL.stillG rfl rfl e21 (Runs.fld (o' := 3) Tryz.underlying41 rfl sz3 (by decide) f1 (by rfl)) ?_
        intro u22 e22
        refine HL.stillG rfl rfl e21 (Runs.load Tryz.underlying3 rfl e22 c3) ?_
        intro u23 e23
        refine HL.stillG rfl rfl e21 (Runs.lss e23 rfl (t := false) (decide_eq_false hcn)) ?_
        intro u24 e24
        refine HL.still (Runs.pick e21 e24) ?_
        intro u25 e25
        refine HL.still (Runs.move e25) ?_
        intro u26 e26
        refine HL.stillG rfl rfl e26 (Runs.fld (o' := 3) Tryz.underlying41 rfl sz3 (by decide) f1 (by rfl)) ?_
        intro u27 e27
        refine HL.stillG rfl rfl e26 (Runs.load Tryz.underlying3 rfl e27 c3) ?_
        intro u28 e28
        refine HL.stillG rfl rfl e26 (Runs.gtr e28 rfl (t := true) (decide_eq_true hc0)) ?_
        intro u29 e29
        refine HL.stillG rfl rfl e26 (Runs.move e29) ?_
        intro u30 e30
        refine HL.stillG rfl rfl e30 (Runs.move f3) ?_
        intro u31 e31
        refine HL.stillG rfl rfl e30 (Runs.notb e31 (u := !decide (x.1 = 5 ∨ x.1 = 6)) rfl) ?_
        intro u32 e32
        refine HL.stillG rfl rfl e26 (Runs.pick e30 e32) ?_
        intro u33 e33
        refine HL.still (Runs.pick e26 e33) ?_
        intro u34 e34
        refine HL.still (Runs.assign e34) ?_
        intro u12 e12
        refine HL.nil ?_
        exact ⟨f1, by rw [hb']; exact e12, rfl⟩
      · have hb' : badO x = false := by
          unfold badO
          exact decide_eq_false fun q => by rcases q with q | q | q | q; exact ha q; exact hb q; exact hcn q; exact hc0 q.1
        -- region 2
        repeat refine HW.seq ?_
        refine HW.region ?_
        refine HL.still (Runs.fld (o' := 0) Tryz.underlying41 rfl sz3 (by decide) f1 (by rfl)) ?_
        intro u13 e13
        refine HL.still (Runs.load Tryz.underlying3 rfl e13 c0) ?_
        intro u14 e14
        refine HL.still (Runs.lss e14 rfl (t := false) (decide_eq_false ha)) ?_
        intro u15 e15
        refine HL.still (Runs.move e15) ?_
        intro u16 e16
        refine HL.stillG rfl rfl e16 (Runs.fld (o' := 0) Tryz.underlying41 rfl sz3 (by decide) f1 (by rfl)) ?_
        intro u17 e17
        refine HL.stillG rfl rfl e16 (Runs.load Tryz.underlying3 rfl e17 c0) ?_
        intro u18 e18
        refine HL.stillG rfl rfl e16 (Runs.gtr e18 rfl (t := false) (decide_eq_false hb)) ?_
        intro u19 e19
        refine HL.still (Runs.pick e16 e19) ?_
        intro u20 e20
        refine HL.still (Runs.move e20) ?_
        intro u21 e21
        refine HL.stillG rfl rfl e21 (Runs.fld (o' := 3) Tryz.underlying41 rfl sz3 (by decide) f1 (by rfl)) ?_
        intro u22 e22
        refine HL.stillG rfl rfl e21 (Runs.load Tryz.underlying3 rfl e22 c3) ?_
        intro u23 e23
        refine HL.stillG rfl rfl e21 (Runs.lss e23 rfl (t := false) (decide_eq_false hcn)) ?_
        intro u24 e24
        refine HL.still (Runs.pick e21 e24) ?_
        intro u25 e25
        refine HL.still (Runs.move e25) ?_
        intro u26 e26
        refine HL.stillG rfl rfl e26 (Runs.fld (o' := 3) Tryz.underlying41 rfl sz3 (by decide) f1 (by rfl)) ?_
        intro u27 e27
        refine HL.stillG rfl rfl e26 (Runs.load Tryz.underlying3 rfl e27 c3) ?_
        intro u28 e28
        refine HL.stillG rfl rfl e26 (Runs.gtr e28 rfl (t := false) (decide_eq_false hc0)) ?_
        intro u29 e29
        refine HL.stillG rfl rfl e26 (Runs.move e29) ?_
        intro u30 e30
        refine HL.skipG rfl rfl e30 ?_
        intro u31 e31
        refine HL.skipG rfl rfl e30 ?_
        intro u32 e32
        refine HL.stillG rfl rfl e26 (Runs.pick e30 rfl) ?_
        intro u33 e33
        refine HL.still (Runs.pick e26 e33) ?_
        intro u34 e34
        refine HL.still (Runs.assign e34) ?_
        intro u12 e12
        refine HL.nil ?_
        exact ⟨f1, by rw [hb']; exact e12, rfl⟩
    clear f1 f3
    rintro f v ⟨f1, f12, rfl⟩
    cases hb : badO x with
    | true =>
      rw [hb] at f12
      refine HW.yes f12 ?_
      -- region 3
      repeat refine HW.seq ?_
      refine HW.region ?_
      refine HL.still (Runs.assign rfl) ?_
      intro u2 e2
      refine HL.nil ?_
      refine HW.ret ?_
      exact RT.one rfl e2 ⟨by unfold ownO; rw [if_pos (of_decide_eq_true hb)], w1.ext⟩
    | false =>
      rw [hb] at f12
      refine HW.no f12 ?_
      have hb2 : ownO x = if x.1 = 3 then decide (x.2.2.1 ≠ []) && decide (numO x.2.2.1 = x.2.2.1.length) else validO x.2.2.1 && (decide (x.2.2.1 = []) || decide (x.1 = 4)) := by
        unfold ownO
        rw [if_neg (of_decide_eq_false hb)]
      by_cases h3 : x.1 = 3
      · rw [if_pos h3] at hb2
        -- region 4
        repeat refine HW.seq ?_
        refine HW.region ?_
        refine HL.still (Runs.fld (o' := 0) Tryz.underlying41 rfl sz3 (by decide) f1 (by rfl)) ?_
        intro u36 e36
        refine HL.still (Runs.load Tryz.underlying3 rfl e36 c0) ?_
        intro u37 e37
        refine HL.still (Runs.eql e37 rfl (t := true) (by simp [h3])) ?_
        intro u38 e38
        refine HL.still (Runs.assign e38) ?_
        intro u35 e35
        refine HL.nil ?_
        refine HW.yes e35 ?_
        by_cases hn : x.2.2.1 = []
        · skip
          -- region 5
          repeat refine HW.seq ?_
          refine HW.grow #[0, 1, 3, 7, 15, 31, 63, 15, 143, 399, 1023, 2047, 4095] (fun a b => Ext a b) mixed (by kernel_rfl) (fun _ => Bel.refl _ _) (fun _ _ _ x y => Bel.ext x y (Nat.le_refl _)) ?_
          refine HM.still (fun _ => Bel.refl _ _) (fun f h K => Runs.fld (o' := 2) Tryz.underlying41 rfl sz9 (by decide) ((K.keep (by kernel_rfl)).trans f1) (by rfl)) ?_
          refine HM.still (fun _ => Bel.refl _ _) (fun f h K => Runs.load Tryz.underlying9 rfl (K.at 0 39 rfl rfl) (cellH_list (Bel.keepE K.grown w1.new) rfl)) ?_
          refine HM.still (fun _ => Bel.refl _ _) (fun f h K => Runs.neqS (K.at 1 40 rfl rfl) rfl (t := false) (by simp [hn])) ?_
          refine HM.still (fun _ => Bel.refl _ _) (fun f h K => Runs.move (K.at 2 41 rfl rfl)) ?_
          refine HM.skipG rfl rfl rfl (fun f h K => K.at 3 42 rfl rfl) ?_
          refine HM.skipG rfl rfl rfl (fun f h K => K.at 3 42 rfl rfl) ?_
          refine HM.skipG rfl rfl rfl (fun f h K => K.at 3 42 rfl rfl) ?_
          refine HM.skipG rfl rfl rfl (fun f h K => K.at 3 42 rfl rfl) ?_
          refine HM.skipG rfl rfl rfl (fun f h K => K.at 3 42 rfl rfl) ?_
          refine HM.skipG rfl rfl rfl (fun f h K => K.at 3 42 rfl rfl) ?_
          refine HM.skipG rfl rfl rfl (fun f h K => K.at 3 42 rfl rfl) ?_
          refine HM.still (fun _ => Bel.refl _ _) (fun f h K => Runs.pick (K.at 3 42 rfl rfl) rfl) ?_
          refine HM.still (fun _ => Bel.refl _ _) (fun f h K => Runs.assign (K.at 11 50 rfl rfl)) ?_
          rintro f' h' X V O
          have q : f' 2 = .bool false := last_at V 12 2 rfl
          refine HW.ret ?_
          exact RT.one rfl q ⟨by rw [hb2, hn]; rfl, w1.ext.ext X (Nat.le_refl _)⟩
        · skip
          -- region 5
          repeat refine HW.seq ?_
          refine HW.grow #[0, 1, 3, 7, 15, 31, 63, 15, 143, 399, 1023, 2047, 4095] (fun a b => Ext a b) mixed (by kernel_rfl) (fun _ => Bel.refl _ _) (fun _ _ _ x y => Bel.ext x y (Nat.le_refl _)) ?_
          refine HM.still (fun _ => Bel.refl _ _) (fun f h K => Runs.fld (o' := 2) Tryz.underlying41 rfl sz9 (by decide) ((K.keep (by kernel_rfl)).trans f1) (by rfl)) ?_
          refine HM.still (fun _ => Bel.refl _ _) (fun f h K => Runs.load Tryz.underlying9 rfl (K.at 0 39 rfl rfl) (cellH_list (Bel.keepE K.grown w1.new) rfl)) ?_
          refine HM.still (fun _ => Bel.refl _ _) (fun f h K => Runs.neqS (K.at 1 40 rfl rfl) rfl (t := true) (by simp [hn])) ?_
          refine HM.still (fun _ => Bel.refl _ _) (fun f h K => Runs.move (K.at 2 41 rfl rfl)) ?_
          refine HM.stillG (fun _ => Bel.refl _ _) rfl rfl rfl (fun f h K => K.at 3 42 rfl rfl) (fun f h K => Runs.fld (o' := 2) Tryz.underlying41 rfl sz9 (by decide) ((K.keep (by kernel_rfl)).trans f1) (by rfl)) ?_
          refine HM.stillG (fun _ => Bel.refl _ _) rfl rfl rfl (fun f h K => K.at 3 42 rfl rfl) (fun f h K => Runs.load Tryz.underlying9 rfl (K.at 4 43 rfl rfl) (cellH_list (Bel.keepE K.grown w1.new) rfl)) ?_
          refine HM.oneG (fun x _ => x = _) (fun _ _ _ _ e => e) rfl rfl rfl (fun f h K => K.at 3 42 rfl rfl) (fun f h K => HO.call Tryz.func66 bd66 nm66 (args1 (K.at 5 44 rfl rfl)) rfl ((number_ch _ x.2.2.1 (by omega)).mono fun _ _ q => ⟨q.2, q.1⟩)) ?_
          refine HM.stillG (fun _ => Bel.refl _ _) rfl rfl rfl (fun f h K => K.at 3 42 rfl rfl) (fun f h K => Runs.fld (o' := 2) Tryz.underlying41 rfl sz9 (by decide) ((K.keep (by kernel_rfl)).trans f1) (by rfl)) ?_
          refine HM.stillG (fun _ => Bel.refl _ _) rfl rfl rfl (fun f h K => K.at 3 42 rfl rfl) (fun f h K => Runs.load Tryz.underlying9 rfl (K.at 7 46 rfl rfl) (cellH_list (Bel.keepE K.grown w1.new) rfl)) ?_
          refine HM.stillG (fun _ => Bel.refl _ _) rfl rfl rfl (fun f h K => K.at 3 42 rfl rfl) (fun f h K => Runs.lenS rfl Tryz.underlying9 (K.at 8 47 rfl rfl)) ?_
          refine HM.stillG (fun _ => Bel.refl _ _) rfl rfl rfl (fun f h K => K.at 3 42 rfl rfl) (fun f h K => Runs.eql (K.at 6 45 rfl rfl) (K.at 9 48 rfl rfl) (t := decide (numO x.2.2.1 = x.2.2.1.length)) (by rw [Bool.eq_iff_iff, beq_iff_eq, decide_eq_true_eq] <;> omega)) ?_
          refine HM.still (fun _ => Bel.refl _ _) (fun f h K => Runs.pick (K.at 3 42 rfl rfl) (K.at 10 49 rfl rfl)) ?_
          refine HM.still (fun _ => Bel.refl _ _) (fun f h K => Runs.assign (K.at 11 50 rfl rfl)) ?_
          rintro f' h' X V O
          have q : f' 2 = .bool (decide (numO x.2.2.1 = x.2.2.1.length)) := last_at V 12 2 rfl
          refine HW.ret ?_
          exact RT.one rfl q ⟨by rw [hb2, decide_eq_true hn]; rfl, w1.ext.ext X (Nat.le_refl _)⟩
      · skip
        -- region 4
        repeat refine HW.seq ?_
        refine HW.region ?_
        refine HL.still (Runs.fld (o' := 0) Tryz.underlying41 rfl sz3 (by decide) f1 (by rfl)) ?_
        intro u36 e36
        refine HL.still (Runs.load Tryz.underlying3 rfl e36 c0) ?_
        intro u37 e37
        refine HL.still (Runs.eql e37 rfl (t := false) (by simp [h3])) ?_
        intro u38 e38
        refine HL.still (Runs.assign e38) ?_
        intro u35 e35
        refine HL.nil ?_
        refine HW.no e35 ?_
        refine HW.skip ?_
        exact ⟨rfl, h3, f1, rfl⟩
  clear f1 f3
  rintro f v ⟨hb, h3, f1, rfl⟩
  have hb2 : ownO x = (validO x.2.2.1 && (decide (x.2.2.1 = []) || decide (x.1 = 4))) := by
    unfold ownO
    rw [if_neg (of_decide_eq_false hb), if_neg h3]
  have hV := valid_ch h1 x.2.2.1 hP1 (by omega)
  by_cases hv : validO x.2.2.1 = true
  · rw [hv] at hV
    by_cases hn : x.2.2.1 = []
    · skip
      -- region 6
      repeat refine HW.seq ?_
      refine HW.region ?_
      refine HL.still (Runs.fld (o' := 2) Tryz.underlying41 rfl sz9 (by decide) f1 (by rfl)) ?_
      intro u51 e51
      refine HL.still (Runs.load Tryz.underlying9 rfl e51 c2) ?_
      intro u52 e52
      refine HL.one (HO.call Tryz.func52 bd52 nm52 (args1 e52) rfl ((hV).mono ?_))
      rintro _ h2 ⟨rfl, X2⟩
      intro u53 e53
      refine HL.still (Runs.move e53) ?_
      intro u54 e54
      refine HL.stillG rfl rfl e54 (Runs.fld (o' := 2) Tryz.underlying41 rfl sz9 (by decide) f1 (by rfl)) ?_
      intro u55 e55
      refine HL.stillG rfl rfl e54 (Runs.load Tryz.underlying9 rfl e55 (cellH_list (X2.keepE w1.new) rfl)) ?_
      intro u56 e56
      refine HL.stillG rfl rfl e54 (Runs.eqS e56 rfl (t := true) (by simp [hn])) ?_
      intro u57 e57
      refine HL.stillG rfl rfl e54 (Runs.move e57) ?_
      intro u58 e58
      refine HL.skipG rfl rfl e58 ?_
      intro u59 e59
      refine HL.skipG rfl rfl e58 ?_
      intro u60 e60
      refine HL.skipG rfl rfl e58 ?_
      intro u61 e61
      refine HL.stillG rfl rfl e54 (Runs.pick e58 rfl) ?_
      intro u62 e62
      refine HL.still (Runs.pick e54 e62) ?_
      intro u63 e63
      refine HL.still (Runs.assign e63) ?_
      intro u2 e2
      refine HL.nil ?_
      refine HW.ret ?_
      exact RT.one rfl e2 ⟨by rw [hb2, hv, hn]; rfl, w1.ext.ext X2 (Nat.le_refl _)⟩
    · skip
      -- region 6
      repeat refine HW.seq ?_
      refine HW.region ?_
      refine HL.still (Runs.fld (o' := 2) Tryz.underlying41 rfl sz9 (by decide) f1 (by rfl)) ?_
      intro u51 e51
      refine HL.still (Runs.load Tryz.underlying9 rfl e51 c2) ?_
      intro u52 e52
      refine HL.one (HO.call Tryz.func52 bd52 nm52 (args1 e52) rfl ((hV).mono ?_))
      rintro _ h2 ⟨rfl, X2⟩
      intro u53 e53
      refine HL.still (Runs.move e53) ?_
      intro u54 e54
      refine HL.stillG rfl rfl e54 (Runs.fld (o' := 2) Tryz.underlying41 rfl sz9 (by decide) f1 (by rfl)) ?_
      intro u55 e55
      refine HL.stillG rfl rfl e54 (Runs.load Tryz.underlying9 rfl e55 (cellH_list (X2.keepE w1.new) rfl)) ?_
      intro u56 e56
      refine HL.stillG rfl rfl e54 (Runs.eqS e56 rfl (t := false) (by simp [hn])) ?_
      intro u57 e57
      refine HL.stillG rfl rfl e54 (Runs.move e57) ?_
      intro u58 e58
      refine HL.stillG rfl rfl e58 (Runs.fld (o' := 0) Tryz.underlying41 rfl sz3 (by decide) f1 (by rfl)) ?_
      intro u59 e59
      refine HL.stillG rfl rfl e58 (Runs.load Tryz.underlying3 rfl e59 (cellH_list (X2.keepE w1.new) rfl)) ?_
      intro u60 e60
      refine HL.stillG rfl rfl e58 (Runs.eql e60 rfl (t := decide (x.1 = 4)) (by rw [Bool.eq_iff_iff, beq_iff_eq, decide_eq_true_eq])) ?_
      intro u61 e61
      refine HL.stillG rfl rfl e54 (Runs.pick e58 e61) ?_
      intro u62 e62
      refine HL.still (Runs.pick e54 e62) ?_
      intro u63 e63
      refine HL.still (Runs.assign e63) ?_
      intro u2 e2
      refine HL.nil ?_
      refine HW.ret ?_
      exact RT.one rfl e2 ⟨by rw [hb2, hv, decide_eq_false hn]; rfl, w1.ext.ext X2 (Nat.le_refl _)⟩
  · have hv : validO x.2.2.1 = false := by simpa using hv
    rw [hv] at hV
    -- region 6
    repeat refine HW.seq ?_
    refine HW.region ?_
    refine HL.still (Runs.fld (o' := 2) Tryz.underlying41 rfl sz9 (by decide) f1 (by rfl)) ?_
    intro u51 e51
    refine HL.still (Runs.load Tryz.underlying9 rfl e51 c2) ?_
    intro u52 e52
    refine HL.one (HO.call Tryz.func52 bd52 nm52 (args1 e52) rfl ((hV).mono ?_))
    rintro _ h2 ⟨rfl, X2⟩
    intro u53 e53
    refine HL.still (Runs.move e53) ?_
    intro u54 e54
    refine HL.skipG rfl rfl e54 ?_
    intro u55 e55
    refine HL.skipG rfl rfl e54 ?_
    intro u56 e56
    refine HL.skipG rfl rfl e54 ?_
    intro u57 e57
    refine HL.skipG rfl rfl e54 ?_
    intro u58 e58
    refine HL.skipU rfl rfl e58 ?_
    intro u59 e59
    refine HL.skipU rfl rfl e58 ?_
    intro u60 e60
    refine HL.skipU rfl rfl e58 ?_
    intro u61 e61
    refine HL.skipG rfl rfl e54 ?_
    intro u62 e62
    refine HL.still (Runs.pick e54 rfl) ?_
    intro u63 e63
    refine HL.still (Runs.assign e63) ?_
    intro u2 e2
    refine HL.nil ?_
    refine HW.ret ?_
    exact RT.one rfl e2 ⟨by rw [hb2, hv]; rfl, w1.ext.ext X2 (Nat.le_refl _)⟩
theorem numberRE_ch (h : Heap) (s : List UInt8) (hs : s.length < 4611686018427387000) : CH Tryz.prog 87 #[.string (strOf s)] h fun v h' => v = I64 (numO s) ∧ Ext h h' :=
  (numberR_ch h s hs).mono fun _ _ ⟨a, b⟩ => ⟨a, by rw [b]; exact Bel.refl _ _⟩
theorem own_low (x : JV) (hk : 0 ≤ x.1 ∧ x.1 ≤ 2) : ownO x = (decide (x.2.2.1 = []) && decide (x.2.2.2 = 0)) := by
  unfold ownO
  by_cases h0 : x.2.2.2 = 0
  · rw [if_neg (by omega), if_neg (by omega), decide_eq_true h0, decide_eq_false (show ¬ x.1 = 4 by omega)]
    by_cases hn : x.2.2.1 = []
    · rw [hn]; rfl
    · rw [decide_eq_false hn]; simp
  · rw [if_pos (by omega), decide_eq_false h0]; simp
theorem own_num (x : JV) (hk : x.1 = 3) : ownO x = ((decide (x.2.2.1 ≠ []) && decide (numO x.2.2.1 = x.2.2.1.length)) && decide (x.2.2.2 = 0)) := by
  unfold ownO
  by_cases h0 : x.2.2.2 = 0
  · rw [if_neg (by omega), if_pos hk, decide_eq_true h0]; simp
  · rw [if_pos (by omega), decide_eq_false h0]; simp
theorem own_str (x : JV) (hk : x.1 = 4) : ownO x = (validO x.2.2.1 && decide (x.2.2.2 = 0)) := by
  unfold ownO
  by_cases h0 : x.2.2.2 = 0
  · rw [if_neg (by omega), if_neg (by omega), decide_eq_true h0, decide_eq_true hk]; simp
  · rw [if_pos (by omega), decide_eq_false h0]; simp
theorem own_many (x : JV) (hk : x.1 = 5 ∨ x.1 = 6) : ownO x = (decide (x.2.2.1 = []) && decide (x.2.2.2 ≥ 0)) := by
  unfold ownO
  by_cases h0 : x.2.2.2 ≥ 0
  · rw [if_neg (by omega), if_neg (by omega), decide_eq_true h0, decide_eq_false (show ¬ x.1 = 4 by omega)]
    by_cases hn : x.2.2.1 = []
    · rw [hn]; rfl
    · rw [decide_eq_false hn]; simp
  · rw [if_pos (by omega), decide_eq_false h0]; simp
theorem own_off (x : JV) (hk : x.1 < 0 ∨ x.1 > 6) : ownO x = false := by
  unfold ownO
  rw [if_pos (by omega)]
set_option maxRecDepth 10000 in
set_option maxHeartbeats 2000000 in
theorem ownR_ch (h : Heap) (x : JV) (mem : Bool) (hk : x.2.1.length < 4611686018427387000) (hx : x.2.2.1.length < 4611686018427387000) : CH Tryz.prog 77 #[.agg (encJ x).toArray, .bool mem] h fun v h' => v = .bool (fitV mem x) ∧ Ext h h' := by
  refine CH.of_body Tryz.func77 rfl rfl rfl ?_
  intro f hf
  have p0 : f 0 = .agg (encJ x).toArray := by rw [hf]; exact fr0_at rfl
  have p1 : f 1 = .bool mem := by rw [hf]; exact fr0_at rfl
  -- region 0
  repeat refine HW.seq ?_
  refine HW.region ?_
  refine HL.one (HO.box p0 ?_)
  intro h1 w1
  intro u2 e2
  refine HL.still (Runs.assign rfl) ?_
  intro u4 e4
  refine HL.nil ?_
  have hc := fun j v (q : (encJ x)[j]? = some v) => (cellH_list w1.new q : cellH h1 h.size j = some v)
  have c0 := hc 0 _ rfl
  have c1 := hc 1 _ rfl
  have c2 := hc 2 _ rfl
  have c3 := hc 3 _ rfl
  have hV := (validR_ch h1 x.2.1 hk).mono (K' := fun v h' => v = .bool (validO x.2.1) ∧ h1 = h') fun _ _ ⟨a, b⟩ => ⟨a, b.symm⟩
  -- region 1
  repeat refine HW.seq ?_
  refine HW.region ?_
  refine HL.still (Runs.fld (o' := 1) Tryz.underlying41 rfl sz9 (by decide) e2 (by rfl)) ?_
  intro u6 e6
  refine HL.still (Runs.load Tryz.underlying9 rfl e6 c1) ?_
  intro u7 e7
  refine HL.one (HO.call Tryz.func86 bd86 nm86 (args1 e7) rfl ((hV).mono ?_))
  rintro _ h2 ⟨rfl, rfl⟩
  intro u8 e8
  refine HL.still (Runs.assign e8) ?_
  intro u5 e5
  refine HL.nil ?_
  refine HW.seq ?_
  refine HW.mono (N := fun f v => fitV mem x = ownO x ∧ f 2 = .pointer (some ⟨h.size, 0, none⟩) ∧ h1 = v) ?_ ?_ (fun _ _ _ q => q) (fun _ _ q => q)
  · repeat refine HW.seq ?_
    refine HW.mono (N := fun f v => f 2 = .pointer (some ⟨h.size, 0, none⟩) ∧ f 19 = .bool (!((mem || decide (x.2.1 = [])) && validO x.2.1)) ∧ h1 = v) ?_ ?_ (fun _ _ _ q => q) (fun _ _ q => q)
    · cases mem with
      | true =>
        -- region 2
        repeat refine HW.seq ?_
        refine HW.region ?_
        refine HL.still (Runs.move p1) ?_
        intro u9 e9
        refine HL.still (Runs.notb e9 (t := true) (u := false) rfl) ?_
        intro u10 e10
        refine HL.still (Runs.move e10) ?_
        intro u11 e11
        refine HL.skipG rfl rfl e11 ?_
        intro u12 e12
        refine HL.skipG rfl rfl e11 ?_
        intro u13 e13
        refine HL.skipG rfl rfl e11 ?_
        intro u14 e14
        refine HL.still (Runs.pick e11 rfl) ?_
        intro u15 e15
        refine HL.still (Runs.move e15) ?_
        intro u16 e16
        refine HL.stillG rfl rfl e16 (Runs.move e5) ?_
        intro u17 e17
        refine HL.stillG rfl rfl e16 (Runs.notb e17 (u := !validO x.2.1) rfl) ?_
        intro u18 e18
        refine HL.still (Runs.pick e16 e18) ?_
        intro u19 e19
        refine HL.nil ?_
        exact ⟨e2, by rw [e19]; simp, rfl⟩
      | false =>
        by_cases hn : x.2.1 = []
        · skip
          -- region 2
          repeat refine HW.seq ?_
          refine HW.region ?_
          refine HL.still (Runs.move p1) ?_
          intro u9 e9
          refine HL.still (Runs.notb e9 (t := false) (u := true) rfl) ?_
          intro u10 e10
          refine HL.still (Runs.move e10) ?_
          intro u11 e11
          refine HL.stillG rfl rfl e11 (Runs.fld (o' := 1) Tryz.underlying41 rfl sz9 (by decide) e2 (by rfl)) ?_
          intro u12 e12
          refine HL.stillG rfl rfl e11 (Runs.load Tryz.underlying9 rfl e12 c1) ?_
          intro u13 e13
          refine HL.stillG rfl rfl e11 (Runs.neqS e13 rfl (t := false) (by simp [hn])) ?_
          intro u14 e14
          refine HL.still (Runs.pick e11 e14) ?_
          intro u15 e15
          refine HL.still (Runs.move e15) ?_
          intro u16 e16
          refine HL.stillG rfl rfl e16 (Runs.move e5) ?_
          intro u17 e17
          refine HL.stillG rfl rfl e16 (Runs.notb e17 (u := !validO x.2.1) rfl) ?_
          intro u18 e18
          refine HL.still (Runs.pick e16 e18) ?_
          intro u19 e19
          refine HL.nil ?_
          exact ⟨e2, by rw [e19, decide_eq_true hn]; simp, rfl⟩
        · skip
          -- region 2
          repeat refine HW.seq ?_
          refine HW.region ?_
          refine HL.still (Runs.move p1) ?_
          intro u9 e9
          refine HL.still (Runs.notb e9 (t := false) (u := true) rfl) ?_
          intro u10 e10
          refine HL.still (Runs.move e10) ?_
          intro u11 e11
          refine HL.stillG rfl rfl e11 (Runs.fld (o' := 1) Tryz.underlying41 rfl sz9 (by decide) e2 (by rfl)) ?_
          intro u12 e12
          refine HL.stillG rfl rfl e11 (Runs.load Tryz.underlying9 rfl e12 c1) ?_
          intro u13 e13
          refine HL.stillG rfl rfl e11 (Runs.neqS e13 rfl (t := true) (by simp [hn])) ?_
          intro u14 e14
          refine HL.still (Runs.pick e11 e14) ?_
          intro u15 e15
          refine HL.still (Runs.move e15) ?_
          intro u16 e16
          refine HL.skipG rfl rfl e16 ?_
          intro u17 e17
          refine HL.skipG rfl rfl e16 ?_
          intro u18 e18
          refine HL.still (Runs.pick e16 rfl) ?_
          intro u19 e19
          refine HL.nil ?_
          exact ⟨e2, by rw [e19, decide_eq_false hn]; simp, rfl⟩
    clear e2 e5 p0 p1
    rintro f v ⟨f2, f19, rfl⟩
    have hfit : fitV mem x = (ownO x && ((mem || decide (x.2.1 = [])) && validO x.2.1)) := by unfold fitV; rw [Bool.and_assoc]
    cases hb : (mem || decide (x.2.1 = [])) && validO x.2.1 with
    | true =>
      rw [hb] at f19 hfit
      refine HW.no f19 ?_
      refine HW.skip ?_
      exact ⟨by rw [hfit]; simp, f2, rfl⟩
    | false =>
      rw [hb] at f19 hfit
      refine HW.yes f19 ?_
      -- region 3
      repeat refine HW.seq ?_
      refine HW.region ?_
      refine HL.still (Runs.assign rfl) ?_
      intro u4 e4
      refine HL.nil ?_
      refine HW.ret ?_
      exact RT.one rfl e4 ⟨by rw [hfit]; simp, w1.ext⟩
  clear e2 e5 p0 p1
  rintro f v ⟨hFit, f2, rfl⟩
  by_cases k0 : x.1 = 0
  · have hOwn : ownO x = (decide (x.2.2.1 = []) && decide (x.2.2.2 = 0)) := own_low x (by omega)
    -- region 4
    repeat refine HW.seq ?_
    refine HW.region ?_
    refine HL.still (Runs.fld (o' := 0) Tryz.underlying41 rfl sz3 (by decide) f2 (by rfl)) ?_
    intro u20 e20
    refine HL.still (Runs.load Tryz.underlying3 rfl e20 c0) ?_
    intro u21 e21
    refine HL.nil ?_
    repeat refine HW.seq ?_
    refine HW.block ?_
    -- region 5
    repeat refine HW.seq ?_
    refine HW.region ?_
    refine HL.still (Runs.eql e21 rfl (t := true) (by simp [k0])) ?_
    intro u23 e23
    refine HL.still (Runs.assign e23) ?_
    intro u22 e22
    refine HL.nil ?_
    refine HW.yes e22 (HW.skip ?_)
    refine HW.yes e22 ?_
    -- region 8
    repeat refine HW.seq ?_
    refine HW.region ?_
    refine HL.still (Runs.fld (o' := 2) Tryz.underlying41 rfl sz9 (by decide) f2 (by rfl)) ?_
    intro u26 e26
    refine HL.still (Runs.load Tryz.underlying9 rfl e26 c2) ?_
    intro u27 e27
    refine HL.still (Runs.eqS e27 rfl (t := decide (x.2.2.1 = [])) (eqnil _)) ?_
    intro u28 e28
    refine HL.still (Runs.move e28) ?_
    intro u29 e29
    refine HL.anyG rfl rfl e29 (fun hg => Runs.fld (o' := 3) Tryz.underlying41 rfl sz3 (by decide) f2 (by rfl)) ?_
    intro u30 e30
    refine HL.anyG rfl rfl e29 (fun hg => Runs.load Tryz.underlying3 rfl (e30.trans (if_pos hg)) c3) ?_
    intro u31 e31
    refine HL.anyG rfl rfl e29 (fun hg => Runs.eql (e31.trans (if_pos hg)) rfl (t := decide (x.2.2.2 = 0)) (by rw [Bool.eq_iff_iff, beq_iff_eq, decide_eq_true_eq])) ?_
    intro u32 e32
    refine HL.still (Runs.pick e29 (and_pick e32)) ?_
    intro u33 e33
    refine HL.still (Runs.assign e33) ?_
    intro u4 e4
    refine HL.nil ?_
    refine HW.ret ?_
    exact RT.one rfl e4 ⟨by rw [hFit, hOwn], w1.ext⟩
  by_cases k1 : x.1 = 1
  · have hOwn : ownO x = (decide (x.2.2.1 = []) && decide (x.2.2.2 = 0)) := own_low x (by omega)
    -- region 4
    repeat refine HW.seq ?_
    refine HW.region ?_
    refine HL.still (Runs.fld (o' := 0) Tryz.underlying41 rfl sz3 (by decide) f2 (by rfl)) ?_
    intro u20 e20
    refine HL.still (Runs.load Tryz.underlying3 rfl e20 c0) ?_
    intro u21 e21
    refine HL.nil ?_
    repeat refine HW.seq ?_
    refine HW.block ?_
    -- region 5
    repeat refine HW.seq ?_
    refine HW.region ?_
    refine HL.still (Runs.eql e21 rfl (t := false) (by simp [k1])) ?_
    intro u23 e23
    refine HL.still (Runs.assign e23) ?_
    intro u22 e22
    refine HL.nil ?_
    refine HW.no e22 ?_
    -- region 6
    repeat refine HW.seq ?_
    refine HW.region ?_
    refine HL.still (Runs.eql e21 rfl (t := true) (by simp [k1])) ?_
    intro u24 e24
    refine HL.still (Runs.assign e24) ?_
    intro u22 e22
    refine HL.nil ?_
    refine HW.yes e22 (HW.skip ?_)
    refine HW.yes e22 ?_
    -- region 8
    repeat refine HW.seq ?_
    refine HW.region ?_
    refine HL.still (Runs.fld (o' := 2) Tryz.underlying41 rfl sz9 (by decide) f2 (by rfl)) ?_
    intro u26 e26
    refine HL.still (Runs.load Tryz.underlying9 rfl e26 c2) ?_
    intro u27 e27
    refine HL.still (Runs.eqS e27 rfl (t := decide (x.2.2.1 = [])) (eqnil _)) ?_
    intro u28 e28
    refine HL.still (Runs.move e28) ?_
    intro u29 e29
    refine HL.anyG rfl rfl e29 (fun hg => Runs.fld (o' := 3) Tryz.underlying41 rfl sz3 (by decide) f2 (by rfl)) ?_
    intro u30 e30
    refine HL.anyG rfl rfl e29 (fun hg => Runs.load Tryz.underlying3 rfl (e30.trans (if_pos hg)) c3) ?_
    intro u31 e31
    refine HL.anyG rfl rfl e29 (fun hg => Runs.eql (e31.trans (if_pos hg)) rfl (t := decide (x.2.2.2 = 0)) (by rw [Bool.eq_iff_iff, beq_iff_eq, decide_eq_true_eq])) ?_
    intro u32 e32
    refine HL.still (Runs.pick e29 (and_pick e32)) ?_
    intro u33 e33
    refine HL.still (Runs.assign e33) ?_
    intro u4 e4
    refine HL.nil ?_
    refine HW.ret ?_
    exact RT.one rfl e4 ⟨by rw [hFit, hOwn], w1.ext⟩
  by_cases k2 : x.1 = 2
  · have hOwn : ownO x = (decide (x.2.2.1 = []) && decide (x.2.2.2 = 0)) := own_low x (by omega)
    -- region 4
    repeat refine HW.seq ?_
    refine HW.region ?_
    refine HL.still (Runs.fld (o' := 0) Tryz.underlying41 rfl sz3 (by decide) f2 (by rfl)) ?_
    intro u20 e20
    refine HL.still (Runs.load Tryz.underlying3 rfl e20 c0) ?_
    intro u21 e21
    refine HL.nil ?_
    repeat refine HW.seq ?_
    refine HW.block ?_
    -- region 5
    repeat refine HW.seq ?_
    refine HW.region ?_
    refine HL.still (Runs.eql e21 rfl (t := false) (by simp [k2])) ?_
    intro u23 e23
    refine HL.still (Runs.assign e23) ?_
    intro u22 e22
    refine HL.nil ?_
    refine HW.no e22 ?_
    -- region 6
    repeat refine HW.seq ?_
    refine HW.region ?_
    refine HL.still (Runs.eql e21 rfl (t := false) (by simp [k2])) ?_
    intro u24 e24
    refine HL.still (Runs.assign e24) ?_
    intro u22 e22
    refine HL.nil ?_
    refine HW.no e22 ?_
    -- region 7
    repeat refine HW.seq ?_
    refine HW.region ?_
    refine HL.still (Runs.eql e21 rfl (t := true) (by simp [k2])) ?_
    intro u25 e25
    refine HL.still (Runs.assign e25) ?_
    intro u22 e22
    refine HL.nil ?_
    refine HW.yes e22 ?_
    -- region 8
    repeat refine HW.seq ?_
    refine HW.region ?_
    refine HL.still (Runs.fld (o' := 2) Tryz.underlying41 rfl sz9 (by decide) f2 (by rfl)) ?_
    intro u26 e26
    refine HL.still (Runs.load Tryz.underlying9 rfl e26 c2) ?_
    intro u27 e27
    refine HL.still (Runs.eqS e27 rfl (t := decide (x.2.2.1 = [])) (eqnil _)) ?_
    intro u28 e28
    refine HL.still (Runs.move e28) ?_
    intro u29 e29
    refine HL.anyG rfl rfl e29 (fun hg => Runs.fld (o' := 3) Tryz.underlying41 rfl sz3 (by decide) f2 (by rfl)) ?_
    intro u30 e30
    refine HL.anyG rfl rfl e29 (fun hg => Runs.load Tryz.underlying3 rfl (e30.trans (if_pos hg)) c3) ?_
    intro u31 e31
    refine HL.anyG rfl rfl e29 (fun hg => Runs.eql (e31.trans (if_pos hg)) rfl (t := decide (x.2.2.2 = 0)) (by rw [Bool.eq_iff_iff, beq_iff_eq, decide_eq_true_eq])) ?_
    intro u32 e32
    refine HL.still (Runs.pick e29 (and_pick e32)) ?_
    intro u33 e33
    refine HL.still (Runs.assign e33) ?_
    intro u4 e4
    refine HL.nil ?_
    refine HW.ret ?_
    exact RT.one rfl e4 ⟨by rw [hFit, hOwn], w1.ext⟩
  by_cases k3 : x.1 = 3
  · have hOwn := own_num x k3
    -- region 4
    repeat refine HW.seq ?_
    refine HW.region ?_
    refine HL.still (Runs.fld (o' := 0) Tryz.underlying41 rfl sz3 (by decide) f2 (by rfl)) ?_
    intro u20 e20
    refine HL.still (Runs.load Tryz.underlying3 rfl e20 c0) ?_
    intro u21 e21
    refine HL.nil ?_
    repeat refine HW.seq ?_
    refine HW.block ?_
    -- region 5
    repeat refine HW.seq ?_
    refine HW.region ?_
    refine HL.still (Runs.eql e21 rfl (t := false) (by simp; omega)) ?_
    intro u23 e23
    refine HL.still (Runs.assign e23) ?_
    intro u22 e22
    refine HL.nil ?_
    refine HW.no e22 ?_
    -- region 6
    repeat refine HW.seq ?_
    refine HW.region ?_
    refine HL.still (Runs.eql e21 rfl (t := false) (by simp; omega)) ?_
    intro u24 e24
    refine HL.still (Runs.assign e24) ?_
    intro u22 e22
    refine HL.nil ?_
    refine HW.no e22 ?_
    -- region 7
    repeat refine HW.seq ?_
    refine HW.region ?_
    refine HL.still (Runs.eql e21 rfl (t := false) (by simp; omega)) ?_
    intro u25 e25
    refine HL.still (Runs.assign e25) ?_
    intro u22 e22
    refine HL.nil ?_
    refine HW.no e22 ?_
    -- region 9
    repeat refine HW.seq ?_
    refine HW.region ?_
    refine HL.still (Runs.eql e21 rfl (t := true) (by simp [k3])) ?_
    intro u35 e35
    refine HL.still (Runs.assign e35) ?_
    intro u34 e34
    refine HL.nil ?_
    refine HW.yes e34 ?_
    by_cases hn : x.2.2.1 = []
    · skip
      -- region 10
      repeat refine HW.seq ?_
      refine HW.grow #[0, 1, 3, 7, 15, 31, 63, 15, 143, 399, 1023, 2047, 4095, 8191, 16383, 32767, 65535, 131071] (fun a b => Ext a b) mixed (by kernel_rfl) (fun _ => Bel.refl _ _) (fun _ _ _ x y => Bel.ext x y (Nat.le_refl _)) ?_
      refine HM.still (fun _ => Bel.refl _ _) (fun f h K => Runs.fld (o' := 2) Tryz.underlying41 rfl sz9 (by decide) ((K.keep (by kernel_rfl)).trans f2) (by rfl)) ?_
      refine HM.still (fun _ => Bel.refl _ _) (fun f h K => Runs.load Tryz.underlying9 rfl (K.at 0 36 rfl rfl) (cellH_list (Bel.keepE K.grown w1.new) rfl)) ?_
      refine HM.still (fun _ => Bel.refl _ _) (fun f h K => Runs.neqS (K.at 1 37 rfl rfl) rfl (t := false) (by simp [hn])) ?_
      refine HM.still (fun _ => Bel.refl _ _) (fun f h K => Runs.move (K.at 2 38 rfl rfl)) ?_
      refine HM.skipG rfl rfl rfl (fun f h K => K.at 3 39 rfl rfl) ?_
      refine HM.skipG rfl rfl rfl (fun f h K => K.at 3 39 rfl rfl) ?_
      refine HM.skipG rfl rfl rfl (fun f h K => K.at 3 39 rfl rfl) ?_
      refine HM.skipG rfl rfl rfl (fun f h K => K.at 3 39 rfl rfl) ?_
      refine HM.skipG rfl rfl rfl (fun f h K => K.at 3 39 rfl rfl) ?_
      refine HM.skipG rfl rfl rfl (fun f h K => K.at 3 39 rfl rfl) ?_
      refine HM.skipG rfl rfl rfl (fun f h K => K.at 3 39 rfl rfl) ?_
      refine HM.still (fun _ => Bel.refl _ _) (fun f h K => Runs.pick (K.at 3 39 rfl rfl) rfl) ?_
      refine HM.still (fun _ => Bel.refl _ _) (fun f h K => Runs.move (K.at 11 47 rfl rfl)) ?_
      refine HM.skipG rfl rfl rfl (fun f h K => K.at 12 48 rfl rfl) ?_
      refine HM.skipG rfl rfl rfl (fun f h K => K.at 12 48 rfl rfl) ?_
      refine HM.skipG rfl rfl rfl (fun f h K => K.at 12 48 rfl rfl) ?_
      refine HM.still (fun _ => Bel.refl _ _) (fun f h K => Runs.pick (K.at 12 48 rfl rfl) rfl) ?_
      refine HM.still (fun _ => Bel.refl _ _) (fun f h K => Runs.assign (K.at 16 52 rfl rfl)) ?_
      rintro f' h' X V O
      have q : f' 4 = .bool false := last_at V 17 4 rfl
      refine HW.ret ?_
      exact RT.one rfl q ⟨by rw [hFit, hOwn, hn]; rfl, w1.ext.ext X (Nat.le_refl _)⟩
    · by_cases hq : numO x.2.2.1 = x.2.2.1.length
      · skip
        -- region 10
        repeat refine HW.seq ?_
        refine HW.grow #[0, 1, 3, 7, 15, 31, 63, 15, 143, 399, 1023, 2047, 4095, 8191, 16383, 32767, 65535, 131071] (fun a b => Ext a b) mixed (by kernel_rfl) (fun _ => Bel.refl _ _) (fun _ _ _ x y => Bel.ext x y (Nat.le_refl _)) ?_
        refine HM.still (fun _ => Bel.refl _ _) (fun f h K => Runs.fld (o' := 2) Tryz.underlying41 rfl sz9 (by decide) ((K.keep (by kernel_rfl)).trans f2) (by rfl)) ?_
        refine HM.still (fun _ => Bel.refl _ _) (fun f h K => Runs.load Tryz.underlying9 rfl (K.at 0 36 rfl rfl) (cellH_list (Bel.keepE K.grown w1.new) rfl)) ?_
        refine HM.still (fun _ => Bel.refl _ _) (fun f h K => Runs.neqS (K.at 1 37 rfl rfl) rfl (t := true) (by simp [hn])) ?_
        refine HM.still (fun _ => Bel.refl _ _) (fun f h K => Runs.move (K.at 2 38 rfl rfl)) ?_
        refine HM.stillG (fun _ => Bel.refl _ _) rfl rfl rfl (fun f h K => K.at 3 39 rfl rfl) (fun f h K => Runs.fld (o' := 2) Tryz.underlying41 rfl sz9 (by decide) ((K.keep (by kernel_rfl)).trans f2) (by rfl)) ?_
        refine HM.stillG (fun _ => Bel.refl _ _) rfl rfl rfl (fun f h K => K.at 3 39 rfl rfl) (fun f h K => Runs.load Tryz.underlying9 rfl (K.at 4 40 rfl rfl) (cellH_list (Bel.keepE K.grown w1.new) rfl)) ?_
        refine HM.oneG (fun x _ => x = _) (fun _ _ _ _ e => e) rfl rfl rfl (fun f h K => K.at 3 39 rfl rfl) (fun f h K => HO.call Tryz.func87 bd87 nm87 (args1 (K.at 5 41 rfl rfl)) rfl ((numberRE_ch _ x.2.2.1 hx).mono fun _ _ q => ⟨q.2, q.1⟩)) ?_
        refine HM.stillG (fun _ => Bel.refl _ _) rfl rfl rfl (fun f h K => K.at 3 39 rfl rfl) (fun f h K => Runs.fld (o' := 2) Tryz.underlying41 rfl sz9 (by decide) ((K.keep (by kernel_rfl)).trans f2) (by rfl)) ?_
        refine HM.stillG (fun _ => Bel.refl _ _) rfl rfl rfl (fun f h K => K.at 3 39 rfl rfl) (fun f h K => Runs.load Tryz.underlying9 rfl (K.at 7 43 rfl rfl) (cellH_list (Bel.keepE K.grown w1.new) rfl)) ?_
        refine HM.stillG (fun _ => Bel.refl _ _) rfl rfl rfl (fun f h K => K.at 3 39 rfl rfl) (fun f h K => Runs.lenS rfl Tryz.underlying9 (K.at 8 44 rfl rfl)) ?_
        refine HM.stillG (fun _ => Bel.refl _ _) rfl rfl rfl (fun f h K => K.at 3 39 rfl rfl) (fun f h K => Runs.eql (K.at 6 42 rfl rfl) (K.at 9 45 rfl rfl) (t := true) (by simp [hq])) ?_
        refine HM.still (fun _ => Bel.refl _ _) (fun f h K => Runs.pick (K.at 3 39 rfl rfl) (K.at 10 46 rfl rfl)) ?_
        refine HM.still (fun _ => Bel.refl _ _) (fun f h K => Runs.move (K.at 11 47 rfl rfl)) ?_
        refine HM.stillG (fun _ => Bel.refl _ _) rfl rfl rfl (fun f h K => K.at 12 48 rfl rfl) (fun f h K => Runs.fld (o' := 3) Tryz.underlying41 rfl sz3 (by decide) ((K.keep (by kernel_rfl)).trans f2) (by rfl)) ?_
        refine HM.stillG (fun _ => Bel.refl _ _) rfl rfl rfl (fun f h K => K.at 12 48 rfl rfl) (fun f h K => Runs.load Tryz.underlying3 rfl (K.at 13 49 rfl rfl) (cellH_list (Bel.keepE K.grown w1.new) rfl)) ?_
        refine HM.stillG (fun _ => Bel.refl _ _) rfl rfl rfl (fun f h K => K.at 12 48 rfl rfl) (fun f h K => Runs.eql (K.at 14 50 rfl rfl) rfl (t := decide (x.2.2.2 = 0)) (by rw [Bool.eq_iff_iff, beq_iff_eq, decide_eq_true_eq])) ?_
        refine HM.still (fun _ => Bel.refl _ _) (fun f h K => Runs.pick (K.at 12 48 rfl rfl) (K.at 15 51 rfl rfl)) ?_
        refine HM.still (fun _ => Bel.refl _ _) (fun f h K => Runs.assign (K.at 16 52 rfl rfl)) ?_
        rintro f' h' X V O
        have q : f' 4 = .bool (decide (x.2.2.2 = 0)) := last_at V 17 4 rfl
        refine HW.ret ?_
        exact RT.one rfl q ⟨by rw [hFit, hOwn, decide_eq_true hn, decide_eq_true hq]; rfl, w1.ext.ext X (Nat.le_refl _)⟩
      · skip
        -- region 10
        repeat refine HW.seq ?_
        refine HW.grow #[0, 1, 3, 7, 15, 31, 63, 15, 143, 399, 1023, 2047, 4095, 8191, 16383, 32767, 65535, 131071] (fun a b => Ext a b) mixed (by kernel_rfl) (fun _ => Bel.refl _ _) (fun _ _ _ x y => Bel.ext x y (Nat.le_refl _)) ?_
        refine HM.still (fun _ => Bel.refl _ _) (fun f h K => Runs.fld (o' := 2) Tryz.underlying41 rfl sz9 (by decide) ((K.keep (by kernel_rfl)).trans f2) (by rfl)) ?_
        refine HM.still (fun _ => Bel.refl _ _) (fun f h K => Runs.load Tryz.underlying9 rfl (K.at 0 36 rfl rfl) (cellH_list (Bel.keepE K.grown w1.new) rfl)) ?_
        refine HM.still (fun _ => Bel.refl _ _) (fun f h K => Runs.neqS (K.at 1 37 rfl rfl) rfl (t := true) (by simp [hn])) ?_
        refine HM.still (fun _ => Bel.refl _ _) (fun f h K => Runs.move (K.at 2 38 rfl rfl)) ?_
        refine HM.stillG (fun _ => Bel.refl _ _) rfl rfl rfl (fun f h K => K.at 3 39 rfl rfl) (fun f h K => Runs.fld (o' := 2) Tryz.underlying41 rfl sz9 (by decide) ((K.keep (by kernel_rfl)).trans f2) (by rfl)) ?_
        refine HM.stillG (fun _ => Bel.refl _ _) rfl rfl rfl (fun f h K => K.at 3 39 rfl rfl) (fun f h K => Runs.load Tryz.underlying9 rfl (K.at 4 40 rfl rfl) (cellH_list (Bel.keepE K.grown w1.new) rfl)) ?_
        refine HM.oneG (fun x _ => x = _) (fun _ _ _ _ e => e) rfl rfl rfl (fun f h K => K.at 3 39 rfl rfl) (fun f h K => HO.call Tryz.func87 bd87 nm87 (args1 (K.at 5 41 rfl rfl)) rfl ((numberRE_ch _ x.2.2.1 hx).mono fun _ _ q => ⟨q.2, q.1⟩)) ?_
        refine HM.stillG (fun _ => Bel.refl _ _) rfl rfl rfl (fun f h K => K.at 3 39 rfl rfl) (fun f h K => Runs.fld (o' := 2) Tryz.underlying41 rfl sz9 (by decide) ((K.keep (by kernel_rfl)).trans f2) (by rfl)) ?_
        refine HM.stillG (fun _ => Bel.refl _ _) rfl rfl rfl (fun f h K => K.at 3 39 rfl rfl) (fun f h K => Runs.load Tryz.underlying9 rfl (K.at 7 43 rfl rfl) (cellH_list (Bel.keepE K.grown w1.new) rfl)) ?_
        refine HM.stillG (fun _ => Bel.refl _ _) rfl rfl rfl (fun f h K => K.at 3 39 rfl rfl) (fun f h K => Runs.lenS rfl Tryz.underlying9 (K.at 8 44 rfl rfl)) ?_
        refine HM.stillG (fun _ => Bel.refl _ _) rfl rfl rfl (fun f h K => K.at 3 39 rfl rfl) (fun f h K => Runs.eql (K.at 6 42 rfl rfl) (K.at 9 45 rfl rfl) (t := false) (by simp; omega)) ?_
        refine HM.still (fun _ => Bel.refl _ _) (fun f h K => Runs.pick (K.at 3 39 rfl rfl) (K.at 10 46 rfl rfl)) ?_
        refine HM.still (fun _ => Bel.refl _ _) (fun f h K => Runs.move (K.at 11 47 rfl rfl)) ?_
        refine HM.skipG rfl rfl rfl (fun f h K => K.at 12 48 rfl rfl) ?_
        refine HM.skipG rfl rfl rfl (fun f h K => K.at 12 48 rfl rfl) ?_
        refine HM.skipG rfl rfl rfl (fun f h K => K.at 12 48 rfl rfl) ?_
        refine HM.still (fun _ => Bel.refl _ _) (fun f h K => Runs.pick (K.at 12 48 rfl rfl) rfl) ?_
        refine HM.still (fun _ => Bel.refl _ _) (fun f h K => Runs.assign (K.at 16 52 rfl rfl)) ?_
        rintro f' h' X V O
        have q : f' 4 = .bool false := last_at V 17 4 rfl
        refine HW.ret ?_
        exact RT.one rfl q ⟨by rw [hFit, hOwn, decide_eq_false hq]; simp, w1.ext.ext X (Nat.le_refl _)⟩
  by_cases k4 : x.1 = 4
  · have hOwn := own_str x k4
    have hT := (validR_ch h1 x.2.2.1 hx).mono (K' := fun v h' => v = .bool (validO x.2.2.1) ∧ h1 = h') fun _ _ ⟨a, b⟩ => ⟨a, b.symm⟩
    -- region 4
    repeat refine HW.seq ?_
    refine HW.region ?_
    refine HL.still (Runs.fld (o' := 0) Tryz.underlying41 rfl sz3 (by decide) f2 (by rfl)) ?_
    intro u20 e20
    refine HL.still (Runs.load Tryz.underlying3 rfl e20 c0) ?_
    intro u21 e21
    refine HL.nil ?_
    repeat refine HW.seq ?_
    refine HW.block ?_
    -- region 5
    repeat refine HW.seq ?_
    refine HW.region ?_
    refine HL.still (Runs.eql e21 rfl (t := false) (by simp; omega)) ?_
    intro u23 e23
    refine HL.still (Runs.assign e23) ?_
    intro u22 e22
    refine HL.nil ?_
    refine HW.no e22 ?_
    -- region 6
    repeat refine HW.seq ?_
    refine HW.region ?_
    refine HL.still (Runs.eql e21 rfl (t := false) (by simp; omega)) ?_
    intro u24 e24
    refine HL.still (Runs.assign e24) ?_
    intro u22 e22
    refine HL.nil ?_
    refine HW.no e22 ?_
    -- region 7
    repeat refine HW.seq ?_
    refine HW.region ?_
    refine HL.still (Runs.eql e21 rfl (t := false) (by simp; omega)) ?_
    intro u25 e25
    refine HL.still (Runs.assign e25) ?_
    intro u22 e22
    refine HL.nil ?_
    refine HW.no e22 ?_
    -- region 9
    repeat refine HW.seq ?_
    refine HW.region ?_
    refine HL.still (Runs.eql e21 rfl (t := false) (by simp [k4])) ?_
    intro u35 e35
    refine HL.still (Runs.assign e35) ?_
    intro u34 e34
    refine HL.nil ?_
    refine HW.no e34 ?_
    -- region 11
    repeat refine HW.seq ?_
    refine HW.region ?_
    refine HL.still (Runs.eql e21 rfl (t := true) (by simp [k4])) ?_
    intro u54 e54
    refine HL.still (Runs.assign e54) ?_
    intro u53 e53
    refine HL.nil ?_
    refine HW.yes e53 ?_
    -- region 12
    repeat refine HW.seq ?_
    refine HW.region ?_
    refine HL.still (Runs.fld (o' := 2) Tryz.underlying41 rfl sz9 (by decide) f2 (by rfl)) ?_
    intro u55 e55
    refine HL.still (Runs.load Tryz.underlying9 rfl e55 c2) ?_
    intro u56 e56
    refine HL.one (HO.call Tryz.func86 bd86 nm86 (args1 e56) rfl ((hT).mono ?_))
    rintro _ h2 ⟨rfl, rfl⟩
    intro u57 e57
    refine HL.still (Runs.move e57) ?_
    intro u58 e58
    refine HL.anyG rfl rfl e58 (fun hg => Runs.fld (o' := 3) Tryz.underlying41 rfl sz3 (by decide) f2 (by rfl)) ?_
    intro u59 e59
    refine HL.anyG rfl rfl e58 (fun hg => Runs.load Tryz.underlying3 rfl (e59.trans (if_pos hg)) c3) ?_
    intro u60 e60
    refine HL.anyG rfl rfl e58 (fun hg => Runs.eql (e60.trans (if_pos hg)) rfl (t := decide (x.2.2.2 = 0)) (by rw [Bool.eq_iff_iff, beq_iff_eq, decide_eq_true_eq])) ?_
    intro u61 e61
    refine HL.still (Runs.pick e58 (and_pick e61)) ?_
    intro u62 e62
    refine HL.still (Runs.assign e62) ?_
    intro u4 e4
    refine HL.nil ?_
    refine HW.ret ?_
    exact RT.one rfl e4 ⟨by rw [hFit, hOwn], w1.ext⟩
  by_cases k5 : x.1 = 5
  · have hOwn := own_many x (.inl k5)
    -- region 4
    repeat refine HW.seq ?_
    refine HW.region ?_
    refine HL.still (Runs.fld (o' := 0) Tryz.underlying41 rfl sz3 (by decide) f2 (by rfl)) ?_
    intro u20 e20
    refine HL.still (Runs.load Tryz.underlying3 rfl e20 c0) ?_
    intro u21 e21
    refine HL.nil ?_
    repeat refine HW.seq ?_
    refine HW.block ?_
    -- region 5
    repeat refine HW.seq ?_
    refine HW.region ?_
    refine HL.still (Runs.eql e21 rfl (t := false) (by simp; omega)) ?_
    intro u23 e23
    refine HL.still (Runs.assign e23) ?_
    intro u22 e22
    refine HL.nil ?_
    refine HW.no e22 ?_
    -- region 6
    repeat refine HW.seq ?_
    refine HW.region ?_
    refine HL.still (Runs.eql e21 rfl (t := false) (by simp; omega)) ?_
    intro u24 e24
    refine HL.still (Runs.assign e24) ?_
    intro u22 e22
    refine HL.nil ?_
    refine HW.no e22 ?_
    -- region 7
    repeat refine HW.seq ?_
    refine HW.region ?_
    refine HL.still (Runs.eql e21 rfl (t := false) (by simp; omega)) ?_
    intro u25 e25
    refine HL.still (Runs.assign e25) ?_
    intro u22 e22
    refine HL.nil ?_
    refine HW.no e22 ?_
    -- region 9
    repeat refine HW.seq ?_
    refine HW.region ?_
    refine HL.still (Runs.eql e21 rfl (t := false) (by simp [k5])) ?_
    intro u35 e35
    refine HL.still (Runs.assign e35) ?_
    intro u34 e34
    refine HL.nil ?_
    refine HW.no e34 ?_
    -- region 11
    repeat refine HW.seq ?_
    refine HW.region ?_
    refine HL.still (Runs.eql e21 rfl (t := false) (by simp [k5])) ?_
    intro u54 e54
    refine HL.still (Runs.assign e54) ?_
    intro u53 e53
    refine HL.nil ?_
    refine HW.no e53 ?_
    -- region 13
    repeat refine HW.seq ?_
    refine HW.region ?_
    refine HL.still (Runs.eql e21 rfl (t := true) (by simp [k5])) ?_
    intro u64 e64
    refine HL.still (Runs.assign e64) ?_
    intro u63 e63
    refine HL.nil ?_
    refine HW.yes e63 (HW.skip ?_)
    refine HW.yes e63 ?_
    -- region 15
    repeat refine HW.seq ?_
    refine HW.region ?_
    refine HL.still (Runs.fld (o' := 2) Tryz.underlying41 rfl sz9 (by decide) f2 (by rfl)) ?_
    intro u66 e66
    refine HL.still (Runs.load Tryz.underlying9 rfl e66 c2) ?_
    intro u67 e67
    refine HL.still (Runs.eqS e67 rfl (t := decide (x.2.2.1 = [])) (eqnil _)) ?_
    intro u68 e68
    refine HL.still (Runs.move e68) ?_
    intro u69 e69
    refine HL.anyG rfl rfl e69 (fun hg => Runs.fld (o' := 3) Tryz.underlying41 rfl sz3 (by decide) f2 (by rfl)) ?_
    intro u70 e70
    refine HL.anyG rfl rfl e69 (fun hg => Runs.load Tryz.underlying3 rfl (e70.trans (if_pos hg)) c3) ?_
    intro u71 e71
    refine HL.anyG rfl rfl e69 (fun hg => Runs.geq (e71.trans (if_pos hg)) rfl (t := decide (x.2.2.2 ≥ 0)) rfl) ?_
    intro u72 e72
    refine HL.still (Runs.pick e69 (and_pick e72)) ?_
    intro u73 e73
    refine HL.still (Runs.assign e73) ?_
    intro u4 e4
    refine HL.nil ?_
    refine HW.ret ?_
    exact RT.one rfl e4 ⟨by rw [hFit, hOwn], w1.ext⟩
  by_cases k6 : x.1 = 6
  · have hOwn := own_many x (.inr k6)
    -- region 4
    repeat refine HW.seq ?_
    refine HW.region ?_
    refine HL.still (Runs.fld (o' := 0) Tryz.underlying41 rfl sz3 (by decide) f2 (by rfl)) ?_
    intro u20 e20
    refine HL.still (Runs.load Tryz.underlying3 rfl e20 c0) ?_
    intro u21 e21
    refine HL.nil ?_
    repeat refine HW.seq ?_
    refine HW.block ?_
    -- region 5
    repeat refine HW.seq ?_
    refine HW.region ?_
    refine HL.still (Runs.eql e21 rfl (t := false) (by simp; omega)) ?_
    intro u23 e23
    refine HL.still (Runs.assign e23) ?_
    intro u22 e22
    refine HL.nil ?_
    refine HW.no e22 ?_
    -- region 6
    repeat refine HW.seq ?_
    refine HW.region ?_
    refine HL.still (Runs.eql e21 rfl (t := false) (by simp; omega)) ?_
    intro u24 e24
    refine HL.still (Runs.assign e24) ?_
    intro u22 e22
    refine HL.nil ?_
    refine HW.no e22 ?_
    -- region 7
    repeat refine HW.seq ?_
    refine HW.region ?_
    refine HL.still (Runs.eql e21 rfl (t := false) (by simp; omega)) ?_
    intro u25 e25
    refine HL.still (Runs.assign e25) ?_
    intro u22 e22
    refine HL.nil ?_
    refine HW.no e22 ?_
    -- region 9
    repeat refine HW.seq ?_
    refine HW.region ?_
    refine HL.still (Runs.eql e21 rfl (t := false) (by simp [k6])) ?_
    intro u35 e35
    refine HL.still (Runs.assign e35) ?_
    intro u34 e34
    refine HL.nil ?_
    refine HW.no e34 ?_
    -- region 11
    repeat refine HW.seq ?_
    refine HW.region ?_
    refine HL.still (Runs.eql e21 rfl (t := false) (by simp [k6])) ?_
    intro u54 e54
    refine HL.still (Runs.assign e54) ?_
    intro u53 e53
    refine HL.nil ?_
    refine HW.no e53 ?_
    -- region 13
    repeat refine HW.seq ?_
    refine HW.region ?_
    refine HL.still (Runs.eql e21 rfl (t := false) (by simp [k6])) ?_
    intro u64 e64
    refine HL.still (Runs.assign e64) ?_
    intro u63 e63
    refine HL.nil ?_
    refine HW.no e63 ?_
    -- region 14
    repeat refine HW.seq ?_
    refine HW.region ?_
    refine HL.still (Runs.eql e21 rfl (t := true) (by simp [k6])) ?_
    intro u65 e65
    refine HL.still (Runs.assign e65) ?_
    intro u63 e63
    refine HL.nil ?_
    refine HW.yes e63 ?_
    -- region 15
    repeat refine HW.seq ?_
    refine HW.region ?_
    refine HL.still (Runs.fld (o' := 2) Tryz.underlying41 rfl sz9 (by decide) f2 (by rfl)) ?_
    intro u66 e66
    refine HL.still (Runs.load Tryz.underlying9 rfl e66 c2) ?_
    intro u67 e67
    refine HL.still (Runs.eqS e67 rfl (t := decide (x.2.2.1 = [])) (eqnil _)) ?_
    intro u68 e68
    refine HL.still (Runs.move e68) ?_
    intro u69 e69
    refine HL.anyG rfl rfl e69 (fun hg => Runs.fld (o' := 3) Tryz.underlying41 rfl sz3 (by decide) f2 (by rfl)) ?_
    intro u70 e70
    refine HL.anyG rfl rfl e69 (fun hg => Runs.load Tryz.underlying3 rfl (e70.trans (if_pos hg)) c3) ?_
    intro u71 e71
    refine HL.anyG rfl rfl e69 (fun hg => Runs.geq (e71.trans (if_pos hg)) rfl (t := decide (x.2.2.2 ≥ 0)) rfl) ?_
    intro u72 e72
    refine HL.still (Runs.pick e69 (and_pick e72)) ?_
    intro u73 e73
    refine HL.still (Runs.assign e73) ?_
    intro u4 e4
    refine HL.nil ?_
    refine HW.ret ?_
    exact RT.one rfl e4 ⟨by rw [hFit, hOwn], w1.ext⟩
  · have hOwn := own_off x (by omega)
    -- region 4
    repeat refine HW.seq ?_
    refine HW.region ?_
    refine HL.still (Runs.fld (o' := 0) Tryz.underlying41 rfl sz3 (by decide) f2 (by rfl)) ?_
    intro u20 e20
    refine HL.still (Runs.load Tryz.underlying3 rfl e20 c0) ?_
    intro u21 e21
    refine HL.nil ?_
    repeat refine HW.seq ?_
    refine HW.block ?_
    -- region 5
    repeat refine HW.seq ?_
    refine HW.region ?_
    refine HL.still (Runs.eql e21 rfl (t := false) (by simp; omega)) ?_
    intro u23 e23
    refine HL.still (Runs.assign e23) ?_
    intro u22 e22
    refine HL.nil ?_
    refine HW.no e22 ?_
    -- region 6
    repeat refine HW.seq ?_
    refine HW.region ?_
    refine HL.still (Runs.eql e21 rfl (t := false) (by simp; omega)) ?_
    intro u24 e24
    refine HL.still (Runs.assign e24) ?_
    intro u22 e22
    refine HL.nil ?_
    refine HW.no e22 ?_
    -- region 7
    repeat refine HW.seq ?_
    refine HW.region ?_
    refine HL.still (Runs.eql e21 rfl (t := false) (by simp; omega)) ?_
    intro u25 e25
    refine HL.still (Runs.assign e25) ?_
    intro u22 e22
    refine HL.nil ?_
    refine HW.no e22 ?_
    -- region 9
    repeat refine HW.seq ?_
    refine HW.region ?_
    refine HL.still (Runs.eql e21 rfl (t := false) (by simp; omega)) ?_
    intro u35 e35
    refine HL.still (Runs.assign e35) ?_
    intro u34 e34
    refine HL.nil ?_
    refine HW.no e34 ?_
    -- region 11
    repeat refine HW.seq ?_
    refine HW.region ?_
    refine HL.still (Runs.eql e21 rfl (t := false) (by simp; omega)) ?_
    intro u54 e54
    refine HL.still (Runs.assign e54) ?_
    intro u53 e53
    refine HL.nil ?_
    refine HW.no e53 ?_
    -- region 13
    repeat refine HW.seq ?_
    refine HW.region ?_
    refine HL.still (Runs.eql e21 rfl (t := false) (by simp; omega)) ?_
    intro u64 e64
    refine HL.still (Runs.assign e64) ?_
    intro u63 e63
    refine HL.nil ?_
    refine HW.no e63 ?_
    -- region 14
    repeat refine HW.seq ?_
    refine HW.region ?_
    refine HL.still (Runs.eql e21 rfl (t := false) (by simp; omega)) ?_
    intro u65 e65
    refine HL.still (Runs.assign e65) ?_
    intro u63 e63
    refine HL.nil ?_
    refine HW.no e63 ?_
    refine HW.skip ?_
    -- region 16
    repeat refine HW.seq ?_
    refine HW.region ?_
    refine HL.still (Runs.assign rfl) ?_
    intro u4 e4
    refine HL.nil ?_
    refine HW.ret ?_
    exact RT.one rfl e4 ⟨by rw [hFit, hOwn], w1.ext⟩
end Go.Proofs.YtjopikfkgjbcgaaGreatDoor
/-! Maps of strings to numbers; rows of frames: json.Right's stack, as the heap has it. -/
namespace Go.Proofs.YtjopikfkgjbcgaaGreatDoor
set_option linter.unnecessarySimpa false
set_option linter.unusedSimpArgs false
set_option linter.unusedVariables false
open Go.RowKit
theorem sz71 : (Tryz.prog.info? 71).map (·.size) = some 1 := by kernel_rfl
theorem sz73 : (Tryz.prog.info? 73).map (·.size) = some 3 := by kernel_rfl
theorem law9 : WideMaps.KeyLaw Tryz.prog 9 := WideMaps.string_law Tryz.underlying9
theorem key9 (s : List UInt8) (hs : s.length ≤ maxLen) : ∃ l, keyOf Tryz.prog 9 (.string (strOf s)) = some l := by
  have hu : Tryz.prog.underlying 9 = some .string := Tryz.underlying9
  have hl : (strOf s).size ≤ maxLen := by rw [strOf_size]; exact hs
  unfold keyOf mapKey
  rw [hu]
  simp only
  rw [if_pos hl]
  exact ⟨_, rfl⟩
/-- Block b is a map that counts. -/
def MpS (h : Heap) (b : Nat) (c : List UInt8 → Int) : Prop := ∃ (es : Array MapEntry) (clock : Nat), h[b]? = some (.map es clock) ∧ (∀ e ∈ es.toList, ∃ s, s.length ≤ maxLen ∧ e.key = .string (strOf s) ∧ e.val = I64 (c s)) ∧ (es.toList.map (·.key)).Nodup ∧ ∀ s, (∀ e ∈ es.toList, e.key ≠ .string (strOf s)) → c s = 0
theorem MpS.made {h h' : Heap} (w : Nw h h' (.map #[] 0)) : MpS h' h.size (fun _ => 0) := ⟨#[], 0, w.new, (fun _ h => by cases h), List.nodup_nil, fun _ _ => rfl⟩
theorem MpS.keep {h h' : Heap} {b : Nat} {c : List UInt8 → Int} (m : MpS h b c) (k : h'[b]? = h[b]?) : MpS h' b c := by
  obtain ⟨es, cl, h1, h2⟩ := m
  exact ⟨es, cl, k.trans h1, h2⟩
theorem MpS.lt {h : Heap} {b : Nat} {c : List UInt8 → Int} (m : MpS h b c) : b < h.size := by
  obtain ⟨es, cl, h1, _⟩ := m
  exact lt_of_some h1
theorem MpS.ne {h : Heap} {b g : Nat} {c : List UInt8 → Int} {cs : Array Value} {t : TypeId} {fr : Nat × Nat} (m : MpS h b c) (hg : h[g]? = some (.cells cs t fr)) : b ≠ g := by
  rintro rfl
  obtain ⟨es, cl, h1, _⟩ := m
  rw [h1] at hg
  cases hg
theorem strV_inj {a b : List UInt8} (h : Value.string (strOf a) = .string (strOf b)) : a = b := strOf_inj (by injection h)
theorem findS {es : Array MapEntry} {c : List UInt8 → Int} (hk : ∀ e ∈ es.toList, ∃ s, s.length ≤ maxLen ∧ e.key = .string (strOf s) ∧ e.val = I64 (c s)) (q : List UInt8) (hq : q.length ≤ maxLen) (w : World) :
    ((Instr.findKey 9 (.string (strOf q)) es.toList).run Tryz.prog w = .ok none w ∧ ∀ e ∈ es.toList, e.key ≠ .string (strOf q)) ∨ ∃ j e, (Instr.findKey 9 (.string (strOf q)) es.toList).run Tryz.prog w = .ok (some (j, e.val)) w ∧ es.toList[j]? = some e ∧ e.key = .string (strOf q) ∧ e.val = I64 (c q) := by
  obtain ⟨l, hl⟩ := key9 q hq
  rcases law9.find w hl es.toList (fun e hm => by
    obtain ⟨s, h0, h1, _⟩ := hk e hm
    rw [h1]
    exact key9 s h0) with h | ⟨j, e, h1, h2, h3⟩
  · exact .inl h
  · obtain ⟨s, _, h4, h5⟩ := hk e (List.mem_iff_getElem?.2 ⟨j, h2⟩)
    have : s = q := strV_inj (h4.symm.trans h3)
    subst this
    exact .inr ⟨j, e, h1, h2, h3, h5⟩
theorem zero3 (w : World) : (zeroValue 3).run Tryz.prog w = .ok (I64 0) w := by kernel_rfl
section
variable {ρ : Operand → Value} {h : Heap} {d : Option Tmp} {ty : TypeId} {pos : String} {af : Array Edge} {gd : Option (Nat × Bool)} {K : Value → Heap → Prop} {x y m k : Operand}
set_option maxRecDepth 10000 in
theorem Runs.lookS {b : Nat} {c : List UInt8 → Int} {q : List UInt8} (hm : ρ m = .map (some b)) (hk : ρ k = .string (strOf q)) (hM : MpS h b c) (hq : q.length ≤ maxLen) :
    Runs Tryz.prog ⟨d, .lookup 71 m k false, ty, pos, af, gd⟩ ρ h (I64 (c q)) := fun w hw => by
  subst hw
  obtain ⟨es, cl, h1, h2, h3, h4⟩ := hM
  obtain ⟨l, hl⟩ := key9 q hq
  have hc := law9.check w es.isEmpty hl
  have hu : Tryz.prog.underlying 71 = some (.map 9 3) := Tryz.underlying71
  rcases findS h2 q hq w with ⟨e1, e2⟩ | ⟨j, e, e1, _, _, e2⟩
  · rw [h4 q e2]
    simp [execOp, hm, hk, Instr.lookup, Sem.run_bind, run_underlying hu, getObj, Sem.run, h1, hc, e1, zero3]
  · simp [execOp, hm, hk, Instr.lookup, Sem.run_bind, run_underlying hu, getObj, Sem.run, h1, hc, e1, e2]
theorem HO.makeMapS (k : ∀ h', Nw h h' (.map #[] 0) → K (.map (some h.size)) h') : HO Tryz.prog ⟨d, .makeMap 71 none, ty, pos, af, gd⟩ ρ h K := by
  intro w hw
  subst hw
  have : (execOp ρ ⟨d, .makeMap 71 none, ty, pos, af, gd⟩).run Tryz.prog w = .ok (.value (.map (some w.heap.size))) (w.alloc (.map #[] 0)) := by
    simp [execOp, Instr.makeMap, Sem.run_bind, newObj]
    rfl
  rw [this]
  refine ⟨⟨rfl, rfl, rfl⟩, ?_⟩
  rw [heap_alloc]
  exact k _ (Nw.push _ _)
theorem modify_keys {es : Array MapEntry} {j : Nat} {e : MapEntry} {v : Value} (hj : es.toList[j]? = some e) : (es.modify j fun e' => { e' with key := e.key, val := v }).toList.map (·.key) = es.toList.map (·.key) := by
  apply List.ext_getElem?
  intro i
  rw [List.getElem?_map, List.getElem?_map, Array.getElem?_toList, Array.getElem?_toList, Array.getElem?_modify]
  by_cases hi : j = i
  · subst hi
    rw [Array.getElem?_toList] at hj
    rw [if_pos rfl, hj]
    rfl
  · rw [if_neg hi]
set_option maxRecDepth 10000 in
theorem HO.putS {b : Nat} {c : List UInt8 → Int} {q : List UInt8} {v : Int} (hm : ρ m = .map (some b)) (hk : ρ k = .string (strOf q)) (hy : ρ y = I64 v) (hM : MpS h b c) (hq : q.length ≤ maxLen)
    (kk : ∀ h', h'.size = h.size → (∀ j, j ≠ b → h'[j]? = h[j]?) → MpS h' b (fun s => if s = q then v else c s) → K undef h') : HO Tryz.prog ⟨d, .mapUpdate 71 m k y, ty, pos, af, gd⟩ ρ h K := by
  intro w hw
  subst hw
  obtain ⟨es, cl, h1, h2, h3, h4⟩ := hM
  obtain ⟨l, hl⟩ := key9 q hq
  have hc := law9.check w false hl
  have hu : Tryz.prog.underlying 71 = some (.map 9 3) := Tryz.underlying71
  have hg : (getObj b).run Tryz.prog w = .ok (.map es cl) w := by simp [getObj, Sem.run, h1]
  have hlt := lt_of_some h1
  rcases findS h2 q hq w with ⟨e1, e2⟩ | ⟨j, e, e1, e2, e3, e4⟩
  · have hs : (setObj b (.map (es.push { key := .string (strOf q), val := I64 v, born := cl }) (cl + 1))).run Tryz.prog w = .ok () (Go.ChangeMaps.setBlock w b (.map (es.push { key := .string (strOf q), val := I64 v, born := cl }) (cl + 1))) := by
      simp [setObj, Sem.run, h1, Go.ChangeMaps.setBlock]
    have : (execOp ρ ⟨d, .mapUpdate 71 m k y, ty, pos, af, gd⟩).run Tryz.prog w = .ok .skip (Go.ChangeMaps.setBlock w b (.map (es.push { key := .string (strOf q), val := I64 v, born := cl }) (cl + 1))) := by
      simp [execOp, hm, hk, hy, Instr.mapUpdate, Sem.run_bind, run_underlying hu, hg, hc, e1, hs]
    rw [this]
    refine ⟨⟨rfl, rfl, rfl⟩, kk _ (by simp [Go.ChangeMaps.setBlock]) (fun j hj => by simp [Go.ChangeMaps.setBlock, Array.getElem?_setIfInBounds, Ne.symm hj]) ⟨es.push { key := .string (strOf q), val := I64 v, born := cl }, cl + 1, by simp [Go.ChangeMaps.setBlock, hlt], ?_, ?_, ?_⟩⟩
    · intro e he
      rw [Array.toList_push, List.mem_append] at he
      rcases he with he | he
      · obtain ⟨s, k0, k1, k2⟩ := h2 e he
        refine ⟨s, k0, k1, ?_⟩
        show e.val = I64 (if s = q then v else c s)
        rw [if_neg (fun r => e2 e he (by rw [k1, r]))]
        exact k2
      · have he : e = { key := .string (strOf q), val := I64 v, born := cl } := by simpa using he
        exact ⟨q, hq, by rw [he], by rw [he]; simp⟩
    · rw [Array.toList_push, List.map_append, List.nodup_append]
      refine ⟨h3, by simp, ?_⟩
      intro a ha a' ha' r
      obtain ⟨e, he, rfl⟩ := List.mem_map.1 ha
      have ha' : a' = .string (strOf q) := by simpa using ha'
      exact e2 e he (r.trans ha')
    · intro s hs'
      have hsq : s ≠ q := fun r => hs' { key := .string (strOf q), val := I64 v, born := cl } (by simp) (by rw [r])
      simp only [if_neg hsq]
      exact h4 s fun e he => hs' e (by rw [Array.toList_push]; exact List.mem_append.2 (.inl he))
  · have hj : j < es.toList.length := (List.getElem?_eq_some_iff.1 e2).1
    have hst : (Instr.keyThatStays (((es[j]?).map (·.key)).getD (.string (strOf q))) (.string (strOf q))).run Tryz.prog w = .ok (.string (strOf q)) w := by
      rw [← Array.getElem?_toList, e2]
      show (Instr.keyThatStays e.key (.string (strOf q))).run Tryz.prog w = _
      rw [e3]
      exact law9.stays w hl
    have hs : (setObj b (.map (es.modify j fun e' => { e' with key := .string (strOf q), val := I64 v }) cl)).run Tryz.prog w = .ok () (Go.ChangeMaps.setBlock w b (.map (es.modify j fun e' => { e' with key := .string (strOf q), val := I64 v }) cl)) := by
      simp [setObj, Sem.run, h1, Go.ChangeMaps.setBlock]
    have : (execOp ρ ⟨d, .mapUpdate 71 m k y, ty, pos, af, gd⟩).run Tryz.prog w = .ok .skip (Go.ChangeMaps.setBlock w b (.map (es.modify j fun e' => { e' with key := .string (strOf q), val := I64 v }) cl)) := by
      simp only [execOp, hm, hk, hy, Instr.mapUpdate, Sem.run_bind, run_underlying hu, hg, hc, e1, Result.andThen_ok, hst, hs]
      rfl
    rw [this]
    have hmk := modify_keys (v := I64 v) e2
    rw [e3] at hmk
    refine ⟨⟨rfl, rfl, rfl⟩, kk _ (by simp [Go.ChangeMaps.setBlock]) (fun j hj => by simp [Go.ChangeMaps.setBlock, Array.getElem?_setIfInBounds, Ne.symm hj]) ⟨es.modify j fun e' => { e' with key := .string (strOf q), val := I64 v }, cl, by simp [Go.ChangeMaps.setBlock, hlt], ?_, ?_, ?_⟩⟩
    · intro e' he'
      obtain ⟨i, hi⟩ := List.mem_iff_getElem?.1 he'
      rw [Array.getElem?_toList, Array.getElem?_modify] at hi
      by_cases hij : j = i
      · subst hij
        rw [if_pos rfl] at hi
        rw [Array.getElem?_toList] at e2
        rw [e2] at hi
        have hi : e' = { e with key := .string (strOf q), val := I64 v } := by simpa using hi.symm
        exact ⟨q, hq, by rw [hi], by rw [hi]; simp⟩
      · rw [if_neg hij] at hi
        have hm' : e' ∈ es.toList := List.mem_iff_getElem?.2 ⟨i, by rw [Array.getElem?_toList]; exact hi⟩
        obtain ⟨s, k0, k1, k2⟩ := h2 e' hm'
        refine ⟨s, k0, k1, ?_⟩
        show e'.val = I64 (if s = q then v else c s)
        have hsq : s ≠ q := by
          rintro rfl
          have hil : i < es.toList.length := by
            have := (Array.getElem?_eq_some_iff.1 hi).1
            simpa using this
          have q1 : (es.toList.map (·.key))[i]? = some (.string (strOf s)) := by rw [List.getElem?_map, Array.getElem?_toList, hi]; simp [k1]
          have q2 : (es.toList.map (·.key))[j]? = some (.string (strOf s)) := by rw [List.getElem?_map, e2]; simp [e3]
          have hii : i < (es.toList.map (·.key)).length := by rw [List.length_map]; exact hil
          have := (List.getElem?_inj hii h3).1 (q1.trans q2.symm)
          exact hij this.symm
        rw [if_neg hsq]
        exact k2
    · rw [hmk]; exact h3
    · intro s hs'
      have hsq : s ≠ q := by
        rintro rfl
        have : Value.string (strOf s) ∈ (es.modify j fun e' => { e' with key := .string (strOf s), val := I64 v }).toList.map (·.key) := by
          rw [hmk]
          exact List.mem_map.2 ⟨e, List.mem_iff_getElem?.2 ⟨j, e2⟩, e3⟩
        obtain ⟨e', he', k1⟩ := List.mem_map.1 this
        exact hs' e' he' k1
      simp only [if_neg hsq]
      refine h4 s fun e' he' r => ?_
      have : Value.string (strOf s) ∈ (es.modify j fun e' => { e' with key := .string (strOf q), val := I64 v }).toList.map (·.key) := by
        rw [hmk]
        exact List.mem_map.2 ⟨e', he', r⟩
      obtain ⟨e'', he'', k1⟩ := List.mem_map.1 this
      exact hs' e'' he'' k1
end
end Go.Proofs.YtjopikfkgjbcgaaGreatDoor
