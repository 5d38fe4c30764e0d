/- onionskinref15.Is; Clean, Parent, Under, both. -/
import Derived.Test.YtfnippeemboljaaDoorWd
namespace Go.Proofs.YtfnippeemboljaaDoor
set_option linter.unnecessarySimpa false
set_option linter.unusedSimpArgs false
set_option linter.unusedVariables false
open Go.RowKit
theorem joinS_filter_le (l : List Str) (f : Str → Bool) : (joinS (l.filter f)).length ≤ (joinS l).length := by
  induction l with
  | nil => exact Nat.le_refl _
  | cons p l ih =>
    have hc : (joinS (p :: l)).length = if l = [] then p.length else p.length + 1 + (joinS l).length := by
      by_cases h : l = []
      · rw [if_pos h, h, joinS_one]
      · rw [if_neg h, joinS_cons' _ _ h, List.length_append, List.length_cons]; omega
    rw [List.filter_cons]
    by_cases hf : f p = true
    · rw [if_pos hf]
      by_cases h : l = []
      · subst h; exact Nat.le_refl _
      · rw [hc, if_neg h]
        by_cases h2 : l.filter f = []
        · rw [h2, joinS_one]; omega
        · rw [joinS_cons' _ _ h2, List.length_append, List.length_cons]; omega
    · rw [if_neg hf]
      by_cases h : l = []
      · subst h; exact Nat.zero_le _
      · rw [hc, if_neg h]; omega
theorem cleanP_le (s : Str) : (cleanP s).length ≤ s.length := by
  have := joinS_filter_le (parts s) (fun p => !isDot p)
  rw [join_parts] at this
  exact this
set_option maxRecDepth 10000 in
theorem ris_ch (h : Heap) (s : Str) (hs : s.length ≤ 10000) : CH Tryd.prog 28 #[S8 s] h fun v h' => v = .bool (isPath s) ∧ Ext h h' := by
  refine CH.of_body Tryd.func28 rfl rfl rfl ?_
  intro f hf
  have p0 : f 0 = S8 s := by rw [hf]; exact fr0_at rfl
  have hpos := List.length_pos_iff.2 (parts_ne s)
  have hpl := parts_le s
  -- region 0
  repeat refine HW.seq ?_
  refine HW.region ?_
  refine HL.still (Runs.assign rfl) ?_
  intro u2 e2
  refine HL.nil ?_
  -- region 1
  repeat refine HW.seq ?_
  refine HW.region ?_
  refine HL.still (Runs.move p0) ?_
  intro u9 e9
  refine HL.one (HO.call Tryd.func26 bd26 nm26 (args1 e9) rfl ((rcut_ch h s hs).mono ?_))
  rintro _ h1 ⟨a, c, rfl, hR, X1⟩
  intro u10 e10
  refine HL.still (Runs.assign e10) ?_
  intro u3 e3
  refine HL.nil ?_
  -- region 2
  repeat refine HW.seq ?_
  refine HW.region ?_
  refine HL.still (Runs.assign rfl) ?_
  intro u4 e4
  refine HL.nil ?_
  -- region 3
  repeat refine HW.seq ?_
  refine HW.region ?_
  refine HL.still (Runs.assign rfl) ?_
  intro u5 e5
  refine HL.nil ?_
  have hS : Sts h1 a (parts s) := hR.byt
  have hcap := hR.2
  clear hR
  obtain ⟨l, hl⟩ : ∃ l, l = parts s := ⟨_, rfl⟩
  have hml : ∀ p ∈ l, p.length ≤ s.length := by
    intro p hp
    have := mem_len l p hp
    rw [hl, join_parts] at this
    exact this
  rw [← hl] at hpos hpl hS hcap e3
  repeat refine HW.seq ?_
  refine HW.block ?_
  refine HW.loop (fun m f u => ∃ k : Nat, k ≤ l.length ∧ m = l.length - k ∧ f 5 = I64 k ∧ f 0 = S8 s ∧ f 3 = .slice a l.length c ∧ f 4 = I64 (((if k = l.length ∧ marked (lastS l) = true then 4096 else 4092) : Nat) : Int) ∧ okTo s k = true ∧ u = h1) l.length
    ⟨0, Nat.zero_le _, rfl, e5, p0, e3, by rw [if_neg (by omega)]; exact e4, rfl, rfl⟩ ?_
  clear e2 e3 e4 e5
  rintro m f u ⟨k, hk, hm, f5, f0, f3, f4, hok, hu⟩
  by_cases hlt : k < l.length
  · obtain ⟨sb, so, ha, hc⟩ := hS.at hlt
    rw [← hu] at hc
    have f3' := f3
    rw [ha] at f3'
    rw [if_neg (by omega)] at f4
    have hmem : l.getD k [] ∈ l := by
      rw [List.getD_eq_getElem?_getD, List.getElem?_eq_getElem hlt]
      exact List.getElem_mem hlt
    have hpk := hml _ hmem
    have hat : okAt s k = (!isBad (l.getD k []) && decide ((l.getD k []).length ≤ if k = l.length - 1 ∧ marked (l.getD k []) = true then 255 else 251)) := by rw [hl]; rfl
    -- region 4
    repeat refine HW.seq ?_
    refine HW.region ?_
    refine HL.still (Runs.move f5) ?_
    intro u11 e11
    refine HL.still (Runs.move f3') ?_
    intro u12 e12
    refine HL.still (Runs.lenSl rfl Tryd.underlying33 e12) ?_
    intro u13 e13
    refine HL.still (Runs.lss e11 e13 rfl) ?_
    intro u14 e14
    refine HL.nil ?_
    repeat refine HW.seq ?_
    refine HW.yes ?_ ?_
    exact e14.trans (congrArg Value.bool (decide_eq_true (by omega)))
    refine HW.skip ?_
    repeat refine HW.seq ?_
    refine HW.block ?_
    -- region 6
    repeat refine HW.seq ?_
    refine HW.region ?_
    refine HL.still (Runs.move f3') ?_
    intro u17 e17
    refine HL.still (Runs.move f5) ?_
    intro u18 e18
    refine HL.still (Runs.ixSl (o' := so + k) Tryd.underlying33 sz9 e17 e18 (by omega) (by omega) (by omega)) ?_
    intro u19 e19
    refine HL.still (Runs.load Tryd.underlying9 rfl e19 hc) ?_
    intro u20 e20
    refine HL.one (HO.call Tryd.func39 bd39 nm39 (args1 e20) rfl ((part_ch u (l.getD k []) (by omega)).mono ?_))
    rintro _ h2 ⟨rfl, hh2⟩
    intro u21 e21
    refine HL.still (Runs.assign e21) ?_
    intro u6 e6
    refine HL.nil ?_
    rw [hh2]
    clear hh2
    -- region 7
    repeat refine HW.seq ?_
    refine HW.region ?_
    refine HL.still (Runs.assign rfl) ?_
    intro u7 e7
    refine HL.nil ?_
    -- region 8
    repeat refine HW.seq ?_
    refine HW.region ?_
    refine HL.still (Runs.move f3') ?_
    intro u22 e22
    refine HL.still (Runs.move f5) ?_
    intro u23 e23
    refine HL.still (Runs.ixSl (o' := so + k) Tryd.underlying33 sz9 e22 e23 (by omega) (by omega) (by omega)) ?_
    intro u24 e24
    refine HL.still (Runs.load Tryd.underlying9 rfl e24 hc) ?_
    intro u25 e25
    refine HL.one (HO.call Tryd.func48 bd48 nm48 (args1 e25) rfl ((marked_ch u (l.getD k [])).mono ?_))
    rintro _ h3 ⟨rfl, hh3⟩
    intro u26 e26
    refine HL.still (Runs.assign e26) ?_
    intro u8 e8
    refine HL.nil ?_
    rw [hh3]
    clear hh3
    -- region 9
    repeat refine HW.seq ?_
    refine HW.region ?_
    refine HL.still (Runs.move f5) ?_
    intro u27 e27
    refine HL.still (Runs.move f3') ?_
    intro u28 e28
    refine HL.still (Runs.lenSl rfl Tryd.underlying33 e28) ?_
    intro u29 e29
    refine HL.still (Runs.sub e29 rfl (c := ((l.length - 1 : Nat) : Int)) (by rw [i64w (by omega)]; omega)) ?_
    intro u30 e30
    refine HL.still (Runs.eql e27 e30 (t := decide (k = l.length - 1)) (decide_eq_decide.2 (by omega))) ?_
    intro u31 e31
    refine HL.still (Runs.move e31) ?_
    intro u32 e32
    refine HL.anyG rfl rfl e32 (fun hg => Runs.move e8) ?_
    intro u33 e33
    refine HL.still (Runs.pick e32 (and_pick e33)) ?_
    intro u34 e34
    refine HL.nil ?_
    refine HW.mono (N := fun f' g => g = u ∧ f' 0 = S8 s ∧ f' 3 = .slice (some ⟨sb, so, none⟩) l.length c ∧ f' 4 = I64 (((if k + 1 = l.length ∧ marked (lastS l) = true then 4096 else 4092) : Nat) : Int) ∧ f' 5 = I64 k ∧ f' 6 = .bool (!isBad (l.getD k [])) ∧ f' 7 = I64 (((if k = l.length - 1 ∧ marked (l.getD k []) = true then 255 else 251) : Nat) : Int)) ?_ ?_ (fun _ _ _ h => h) (fun _ _ h => h)
    · have hd : ∀ b, (decide (k = l.length - 1) && marked (l.getD k [])) = b → u34 = .bool b := fun b q => e34.trans (congrArg Value.bool q)
      by_cases hend : k = l.length - 1 ∧ marked (l.getD k []) = true
      · have hla : lastS l = l.getD k [] := by rw [hend.1]; rfl
        refine HW.yes (hd true (by rw [hend.2, decide_eq_true hend.1]; rfl)) ?_
        -- region 10
        repeat refine HW.seq ?_
        refine HW.region ?_
        refine HL.still (Runs.assign rfl) ?_
        intro u7 e7
        refine HL.nil ?_
        -- region 11
        repeat refine HW.seq ?_
        refine HW.region ?_
        refine HL.still (Runs.assign rfl) ?_
        intro u4 e4
        refine HL.nil ?_
        exact ⟨rfl, f0, f3', by rw [if_pos ⟨by omega, by rw [hla]; exact hend.2⟩]; exact e4, f5, e6, by rw [if_pos hend]; exact e7⟩
      · refine HW.no (hd false (by rw [Bool.and_eq_false_iff, decide_eq_false_iff_not, Bool.eq_false_iff]; exact Decidable.not_and_iff_or_not.1 hend)) ?_
        refine HW.skip ?_
        exact ⟨rfl, f0, f3', by rw [if_neg (fun q => hend ⟨by omega, by have := q.2; unfold lastS at this; rw [show l.length - 1 = k by omega] at this; exact this⟩)]; exact f4, f5, e6, by rw [if_neg hend]; exact e7⟩
    clear e6 e7 e8 f0 f3' f4 f5
    rintro f g ⟨hg, f0, f3', f4, f5, f6, f7⟩
    rw [hg]
    clear hg
    cases hb : isBad (l.getD k []) with
    | true =>
      rw [hb] at f6 hat
      have hno : isPath s = false := by
        rw [isPath_ref, ← hl, okTo_no (k := k + 1) (by rw [okTo, hok, hat]; rfl) (by omega)]
        rfl
      -- region 12
      repeat refine HW.seq ?_
      refine HW.region ?_
      refine HL.still (Runs.move f6) ?_
      intro u35 e35
      refine HL.still (Runs.notb e35 (t := false) (u := true) rfl) ?_
      intro u36 e36
      refine HL.still (Runs.move e36) ?_
      intro u37 e37
      refine HL.skipG rfl rfl e37 ?_
      intro u38 e38
      refine HL.skipG rfl rfl e37 ?_
      intro u39 e39
      refine HL.skipG rfl rfl e37 ?_
      intro u40 e40
      refine HL.skipG rfl rfl e37 ?_
      intro u41 e41
      refine HL.skipG rfl rfl e37 ?_
      intro u42 e42
      refine HL.skipG rfl rfl e37 ?_
      intro u43 e43
      refine HL.skipG rfl rfl e37 ?_
      intro u44 e44
      refine HL.still (Runs.pick e37 rfl) ?_
      intro u45 e45
      refine HL.nil ?_
      repeat refine HW.seq ?_
      refine HW.yes ?_ ?_
      exact e45
      -- region 13
      repeat refine HW.seq ?_
      refine HW.region ?_
      refine HL.still (Runs.assign rfl) ?_
      intro u2 e2
      refine HL.nil ?_
      refine HW.ret ?_
      exact RT.one rfl e2 ⟨by rw [hno], by rw [hu]; exact X1⟩
    | false =>
      rw [hb] at f6 hat
      by_cases hg : (l.getD k []).length > (if k = l.length - 1 ∧ marked (l.getD k []) = true then 255 else 251)
      · have hno : isPath s = false := by
          rw [isPath_ref, ← hl, okTo_no (k := k + 1) (by rw [okTo, hok, hat, decide_eq_false (by omega)]; rfl) (by omega)]
          rfl
        -- region 12
        repeat refine HW.seq ?_
        refine HW.region ?_
        refine HL.still (Runs.move f6) ?_
        intro u35 e35
        refine HL.still (Runs.notb e35 (t := true) (u := false) rfl) ?_
        intro u36 e36
        refine HL.still (Runs.move e36) ?_
        intro u37 e37
        refine HL.stillG rfl rfl e37 (Runs.move f3') ?_
        intro u38 e38
        refine HL.stillG rfl rfl e37 (Runs.move f5) ?_
        intro u39 e39
        refine HL.stillG rfl rfl e37 (Runs.ixSl (o' := so + k) Tryd.underlying33 sz9 e38 e39 (by omega) (by omega) (by omega)) ?_
        intro u40 e40
        refine HL.stillG rfl rfl e37 (Runs.load Tryd.underlying9 rfl e40 hc) ?_
        intro u41 e41
        refine HL.stillG rfl rfl e37 (Runs.lenS rfl Tryd.underlying9 e41) ?_
        intro u42 e42
        refine HL.stillG rfl rfl e37 (Runs.move f7) ?_
        intro u43 e43
        refine HL.stillG rfl rfl e37 (Runs.gtr e42 e43 (t := true) (decide_eq_true (by omega))) ?_
        intro u44 e44
        refine HL.still (Runs.pick e37 e44) ?_
        intro u45 e45
        refine HL.nil ?_
        repeat refine HW.seq ?_
        refine HW.yes ?_ ?_
        exact e45
        -- region 13
        repeat refine HW.seq ?_
        refine HW.region ?_
        refine HL.still (Runs.assign rfl) ?_
        intro u2 e2
        refine HL.nil ?_
        refine HW.ret ?_
        exact RT.one rfl e2 ⟨by rw [hno], by rw [hu]; exact X1⟩
      · skip
        -- region 12
        repeat refine HW.seq ?_
        refine HW.region ?_
        refine HL.still (Runs.move f6) ?_
        intro u35 e35
        refine HL.still (Runs.notb e35 (t := true) (u := false) rfl) ?_
        intro u36 e36
        refine HL.still (Runs.move e36) ?_
        intro u37 e37
        refine HL.stillG rfl rfl e37 (Runs.move f3') ?_
        intro u38 e38
        refine HL.stillG rfl rfl e37 (Runs.move f5) ?_
        intro u39 e39
        refine HL.stillG rfl rfl e37 (Runs.ixSl (o' := so + k) Tryd.underlying33 sz9 e38 e39 (by omega) (by omega) (by omega)) ?_
        intro u40 e40
        refine HL.stillG rfl rfl e37 (Runs.load Tryd.underlying9 rfl e40 hc) ?_
        intro u41 e41
        refine HL.stillG rfl rfl e37 (Runs.lenS rfl Tryd.underlying9 e41) ?_
        intro u42 e42
        refine HL.stillG rfl rfl e37 (Runs.move f7) ?_
        intro u43 e43
        refine HL.stillG rfl rfl e37 (Runs.gtr e42 e43 (t := false) (decide_eq_false (by omega))) ?_
        intro u44 e44
        refine HL.still (Runs.pick e37 e44) ?_
        intro u45 e45
        refine HL.nil ?_
        repeat refine HW.seq ?_
        refine HW.no ?_ ?_
        exact e45
        refine HW.skip ?_
        -- region 5
        repeat refine HW.seq ?_
        refine HW.region ?_
        refine HL.still (Runs.move f5) ?_
        intro u15 e15
        refine HL.still (Runs.add e15 rfl (i64w (by omega))) ?_
        intro u16 e16
        refine HL.still (Runs.assign e16) ?_
        intro u5 e5
        refine HL.nil ?_
        exact ⟨l.length - (k + 1), by omega, k + 1, by omega, rfl, e5, f0, by rw [ha]; exact f3', f4, by rw [okTo, hok, hat, decide_eq_true (by omega)]; rfl, hu⟩
  · have hkl : k = l.length := by omega
    subst hkl
    have hpm : (if l.length = l.length ∧ marked (lastS l) = true then 4096 else 4092 : Nat) = pathMax s := by
      unfold pathMax
      rw [hl]
      by_cases q : marked (lastS (parts s)) = true
      · rw [if_pos ⟨rfl, q⟩, if_pos q]
      · rw [if_neg (fun r => q r.2), if_neg q]
    rw [hpm] at f4
    -- region 4
    repeat refine HW.seq ?_
    refine HW.region ?_
    refine HL.still (Runs.move f5) ?_
    intro u11 e11
    refine HL.still (Runs.move f3) ?_
    intro u12 e12
    refine HL.still (Runs.lenSl rfl Tryd.underlying33 e12) ?_
    intro u13 e13
    refine HL.still (Runs.lss e11 e13 rfl) ?_
    intro u14 e14
    refine HL.nil ?_
    repeat refine HW.seq ?_
    refine HW.no ?_ ?_
    exact e14.trans (congrArg Value.bool (decide_eq_false (by omega)))
    refine HW.exitHere ?_
    -- region 14
    repeat refine HW.seq ?_
    refine HW.region ?_
    refine HL.still (Runs.move f0) ?_
    intro u46 e46
    refine HL.still (Runs.lenS rfl Tryd.underlying9 e46) ?_
    intro u47 e47
    refine HL.still (Runs.move f4) ?_
    intro u48 e48
    refine HL.still (Runs.leq e47 e48 (t := decide (s.length ≤ pathMax s)) (decide_eq_decide.2 (by omega))) ?_
    intro u49 e49
    refine HL.still (Runs.assign e49) ?_
    intro u2 e2
    refine HL.nil ?_
    refine HW.ret ?_
    exact RT.one rfl e2 ⟨by rw [isPath_ref, ← hl, hok]; rfl, by rw [hu]; exact X1⟩
/-! ### Clean -/
theorem clean_ch (h : Heap) (s : Str) (hs : s.length ≤ 10000) : CH Tryd.prog 9 #[S8 s] h fun v h' => v = .tuple #[S8 (cleanO s).1, .bool (cleanO s).2] ∧ Ext h h' := by
  refine CH.of_body Tryd.func9 rfl rfl rfl ?_
  intro f hf
  have p0 : f 0 = S8 s := by rw [hf]; exact fr0_at rfl
  have hpl := parts_le s
  have hcl := cleanP_le s
  have hfl := List.length_filter_le (fun p => !isDot p) (parts s)
  -- region 0
  repeat refine HW.seq ?_
  refine HW.region ?_
  refine HL.still (Runs.assign rfl) ?_
  intro u2 e2
  refine HL.still (Runs.assign rfl) ?_
  intro u3 e3
  refine HL.nil ?_
  -- region 1
  repeat refine HW.seq ?_
  refine HW.region ?_
  refine HL.still (Runs.move p0) ?_
  intro u6 e6
  refine HL.one (HO.call Tryd.func22 bd22 nm22 (args2 e6 rfl) rfl ((split_ch h s hs).mono ?_))
  rintro _ h1 ⟨rfl, hb1, z1, X1⟩
  intro u7 e7
  refine HL.one (HO.call Tryd.func21 bd21 nm21 (args2 e7 rfl) rfl ((delf_ch h1 (parts s) _ h.size 23 isDot dot_pred rfl hb1 (by omega)).mono ?_))
  rintro _ h2 ⟨rfl, S2, X2⟩
  intro u8 e8
  refine HL.still (Runs.assign e8) ?_
  intro u4 e4
  refine HL.nil ?_
  have XA : Ext h h2 := bel_of_exb X1 X2 (Nat.le_refl _) (Nat.le_refl _)
  -- region 2
  repeat refine HW.seq ?_
  refine HW.region ?_
  refine HL.still (Runs.move e4) ?_
  intro u9 e9
  refine HL.one (HO.call Tryd.func24 bd24 nm24 (args2 e9 rfl) rfl ((join_ch h2 ((parts s).filter fun p => !isDot p) _ _ _ rfl S2 hfl (by omega) (by show (cleanP s).length ≤ _; omega)).mono ?_))
  rintro _ h3 ⟨rfl, X3⟩
  intro u10 e10
  refine HL.still (Runs.assign e10) ?_
  intro u5 e5
  refine HL.nil ?_
  have g5 : u5 = S8 (cleanP s) := e5
  -- region 3
  repeat refine HW.seq ?_
  refine HW.region ?_
  refine HL.still (Runs.move g5) ?_
  intro u11 e11
  refine HL.one (HO.call Tryd.func25 bd25 nm25 (args1 e11) rfl ((is_ch h3 (cleanP s) (by omega)).mono ?_))
  rintro _ h4 ⟨rfl, X4⟩
  intro u12 e12
  refine HL.still (Runs.notb e12 (t := isPath (cleanP s)) (u := !isPath (cleanP s)) rfl) ?_
  intro u13 e13
  refine HL.nil ?_
  have XB : Ext h h4 := (XA.ext X3 (Nat.le_refl _)).ext X4 (Nat.le_refl _)
  cases hp : isPath (cleanP s) with
  | true =>
    rw [hp] at e13
    refine HW.no e13 ?_
    refine HW.skip ?_
    -- region 5
    repeat refine HW.seq ?_
    refine HW.region ?_
    refine HL.still (Runs.move g5) ?_
    intro u14 e14
    refine HL.still (Runs.assign e14) ?_
    intro u2 e2
    refine HL.still (Runs.assign rfl) ?_
    intro u3 e3
    refine HL.nil ?_
    refine HW.ret ?_
    exact RT.two rfl e2 e3 ⟨by unfold cleanO; rw [if_pos hp], XB⟩
  | false =>
    rw [hp] at e13
    refine HW.yes e13 ?_
    -- region 4
    repeat refine HW.seq ?_
    refine HW.region ?_
    refine HL.still (Runs.assign rfl) ?_
    intro u2 e2
    refine HL.still (Runs.assign rfl) ?_
    intro u3 e3
    refine HL.nil ?_
    refine HW.ret ?_
    exact RT.two rfl e2 e3 ⟨by unfold cleanO; rw [hp]; rfl, XB⟩
set_option maxRecDepth 10000 in
theorem rclean_ch (h : Heap) (s : Str) (hs : s.length ≤ 10000) : CH Tryd.prog 10 #[S8 s] h fun v h' => v = .tuple #[S8 (cleanO s).1, .bool (cleanO s).2] ∧ Ext h h' := by
  refine CH.of_body Tryd.func10 rfl rfl rfl ?_
  intro f hf
  have p0 : f 0 = S8 s := by rw [hf]; exact fr0_at rfl
  have hpl := parts_le s
  have hcl := cleanP_le s
  have hmx := maxLen_eq
  have hfl := List.length_filter_le (fun p => !isDot p) (parts s)
  -- region 0
  repeat refine HW.seq ?_
  refine HW.region ?_
  refine HL.still (Runs.assign rfl) ?_
  intro u2 e2
  refine HL.still (Runs.assign rfl) ?_
  intro u3 e3
  refine HL.nil ?_
  -- region 1
  repeat refine HW.seq ?_
  refine HW.region ?_
  refine HL.still (Runs.assign rfl) ?_
  intro u4 e4
  refine HL.nil ?_
  -- region 2
  repeat refine HW.seq ?_
  refine HW.region ?_
  refine HL.still (Runs.move p0) ?_
  intro u9 e9
  refine HL.one (HO.call Tryd.func26 bd26 nm26 (args1 e9) rfl ((rcut_ch h s hs).mono ?_))
  rintro _ h1 ⟨a, c, rfl, hR, X1⟩
  intro u10 e10
  refine HL.still (Runs.assign e10) ?_
  intro u5 e5
  refine HL.nil ?_
  -- region 3
  repeat refine HW.seq ?_
  refine HW.region ?_
  refine HL.still (Runs.assign rfl) ?_
  intro u6 e6
  refine HL.nil ?_
  have hS : Sts h1 a (parts s) := hR.byt
  have hcap := hR.2
  have hlow : ∀ sb so, a = some ⟨sb, so, none⟩ → sb < h1.size := by
    intro sb so q
    rcases hR.blk with r | ⟨g, r, _, r3⟩
    · rw [r] at q; cases q
    · rw [r] at q; cases q; exact r3
  clear hR
  obtain ⟨l, hl⟩ : ∃ l, l = parts s := ⟨_, rfl⟩
  rw [← hl] at hpl hS hcap e5
  repeat refine HW.seq ?_
  refine HW.block ?_
  refine HW.loop (fun m f u => ∃ k : Nat, k ≤ l.length ∧ m = l.length - k ∧ f 6 = I64 k ∧ f 0 = S8 s ∧ f 5 = .slice a l.length c ∧ Ext h1 u ∧ ∃ a' c', f 4 = .slice a' (kept isDot l k).length c' ∧ Rs S8 u h1.size 9 a' c' (kept isDot l k)) l.length
    ⟨0, Nat.zero_le _, rfl, e6, p0, e5, Bel.refl _ _, none, 0, e4, Rs.start h1 h1.size 9⟩ ?_
  clear e2 e3 e4 e5 e6
  rintro m f u ⟨k, hk, hm, f6, f0, f5, hX, a', c', f4, hB⟩
  by_cases hlt : k < l.length
  · have hSu : Sts u a l := hS.bel hX hlow
    obtain ⟨sb, so, ha, hc⟩ := hSu.at hlt
    have f5' := f5
    rw [ha] at f5'
    have hkl := kept_le isDot l k hk
    have hXs := hX.size
    -- region 4
    repeat refine HW.seq ?_
    refine HW.region ?_
    refine HL.still (Runs.move f6) ?_
    intro u11 e11
    refine HL.still (Runs.move f5') ?_
    intro u12 e12
    refine HL.still (Runs.lenSl rfl Tryd.underlying33 e12) ?_
    intro u13 e13
    refine HL.still (Runs.lss e11 e13 rfl) ?_
    intro u14 e14
    refine HL.nil ?_
    repeat refine HW.seq ?_
    refine HW.yes ?_ ?_
    exact e14.trans (congrArg Value.bool (decide_eq_true (by omega)))
    refine HW.skip ?_
    repeat refine HW.seq ?_
    refine HW.block ?_
    -- region 6
    repeat refine HW.seq ?_
    refine HW.region ?_
    refine HL.still (Runs.move f5') ?_
    intro u17 e17
    refine HL.still (Runs.move f6) ?_
    intro u18 e18
    refine HL.still (Runs.ixSl (o' := so + k) Tryd.underlying33 sz9 e17 e18 (by omega) (by omega) (by omega)) ?_
    intro u19 e19
    refine HL.still (Runs.load Tryd.underlying9 rfl e19 hc) ?_
    intro u20 e20
    refine HL.still (Runs.neqS e20 rfl (ys := []) rfl) ?_
    intro u21 e21
    refine HL.still (Runs.move e21) ?_
    intro u22 e22
    refine HL.anyG rfl rfl e22 (fun hg => Runs.move f5') ?_
    intro u23 e23
    refine HL.anyG rfl rfl e22 (fun hg => Runs.move f6) ?_
    intro u24 e24
    refine HL.anyG rfl rfl e22 (fun hg => Runs.ixSl (o' := so + k) Tryd.underlying33 sz9 (e23.trans (if_pos hg)) (e24.trans (if_pos hg)) (by omega) (by omega) (by omega)) ?_
    intro u25 e25
    refine HL.anyG rfl rfl e22 (fun hg => Runs.load Tryd.underlying9 rfl (e25.trans (if_pos hg)) hc) ?_
    intro u26 e26
    refine HL.anyG rfl rfl e22 (fun hg => Runs.neqS (e26.trans (if_pos hg)) rfl (ys := [46]) rfl) ?_
    intro u27 e27
    refine HL.still (Runs.pick e22 (and_pick e27)) ?_
    intro u28 e28
    refine HL.nil ?_
    have hd : (!(l.getD k [] == []) && !(l.getD k [] == [46])) = !isDot (l.getD k []) := by unfold isDot; rw [Bool.not_or]
    cases hp : isDot (l.getD k []) with
    | true =>
      refine HW.no (e28.trans (congrArg Value.bool (hd.trans (by rw [hp]; rfl)))) ?_
      refine HW.skip ?_
      -- region 5
      repeat refine HW.seq ?_
      refine HW.region ?_
      refine HL.still (Runs.move f6) ?_
      intro u15 e15
      refine HL.still (Runs.add e15 rfl (i64w (by omega))) ?_
      intro u16 e16
      refine HL.still (Runs.assign e16) ?_
      intro u6 e6
      refine HL.nil ?_
      exact ⟨l.length - (k + 1), by omega, k + 1, by omega, rfl, e6, f0, f5, hX, a', c', by rw [kept_no hlt hp]; exact f4, by rw [kept_no hlt hp]; exact hB⟩
    | false =>
      refine HW.yes (e28.trans (congrArg Value.bool (hd.trans (by rw [hp]; rfl)))) ?_
      have hnew := kept_yes hlt hp
      -- region 7
      repeat refine HW.seq ?_
      refine HW.region ?_
      refine HL.still (Runs.move f4) ?_
      intro u29 e29
      refine HL.still (Runs.move f5') ?_
      intro u30 e30
      refine HL.still (Runs.move f6) ?_
      intro u31 e31
      refine HL.still (Runs.ixSl (o' := so + k) Tryd.underlying33 sz9 e30 e31 (by omega) (by omega) (by omega)) ?_
      intro u32 e32
      refine HL.still (Runs.load Tryd.underlying9 rfl e32 hc) ?_
      intro u33 e33
      refine HL.one (HO.str1 (l.getD k []) e33 ?_)
      intro h3 w3
      intro u34 e34
      refine HL.one (HO.rapp1 Tryd.underlying33 in9 rfl one9 e29 e34 rfl rfl (hB.ext w3.ext) (row_block (gv := S8) (z0 := []) w3.new) (by simp; omega) (by simp; omega) (by rw [w3.size]; omega) ?_)
      intro a5 c5 h5 B5 G5
      intro u35 e35
      refine HL.still (Runs.assign e35) ?_
      intro u4 e4
      refine HL.nil ?_
      have X5 : Ext h1 h5 := G5.belR (hX.nw w3 (Nat.le_refl _)) (hB.ext w3.ext) (Nat.le_refl _) (Nat.le_refl _)
      rw [← hnew] at B5 e4
      -- region 5
      repeat refine HW.seq ?_
      refine HW.region ?_
      refine HL.still (Runs.move f6) ?_
      intro u15 e15
      refine HL.still (Runs.add e15 rfl (i64w (by omega))) ?_
      intro u16 e16
      refine HL.still (Runs.assign e16) ?_
      intro u6 e6
      refine HL.nil ?_
      exact ⟨l.length - (k + 1), by omega, k + 1, by omega, rfl, e6, f0, f5, X5, a5, c5, e4, B5⟩
  · have hkl : k = l.length := by omega
    subst hkl
    have hfin : kept isDot l l.length = l.filter fun p => !isDot p := by unfold kept; rw [List.take_of_length_le (Nat.le_refl _)]
    have hj : joinS (kept isDot l l.length) = cleanP s := by rw [hfin, hl]; rfl
    rw [hfin] at f4 hB
    rw [hfin] at hj
    have hSB : Sts u a' (l.filter fun p => !isDot p) := hB.byt
    have hfl' := List.length_filter_le (fun p => !isDot p) l
    -- region 4
    repeat refine HW.seq ?_
    refine HW.region ?_
    refine HL.still (Runs.move f6) ?_
    intro u11 e11
    refine HL.still (Runs.move f5) ?_
    intro u12 e12
    refine HL.still (Runs.lenSl rfl Tryd.underlying33 e12) ?_
    intro u13 e13
    refine HL.still (Runs.lss e11 e13 rfl) ?_
    intro u14 e14
    refine HL.nil ?_
    repeat refine HW.seq ?_
    refine HW.no ?_ ?_
    exact e14.trans (congrArg Value.bool (decide_eq_false (by omega)))
    refine HW.exitHere ?_
    have XU : Ext h u := X1.trans (hX.mono X1.size)
    -- region 8
    repeat refine HW.seq ?_
    refine HW.region ?_
    refine HL.still (Runs.move f4) ?_
    intro u36 e36
    refine HL.one (HO.call Tryd.func27 bd27 nm27 (args1 e36) rfl ((rjoin_ch u (l.filter fun p => !isDot p) _ a' c' rfl hSB (by omega) (by rw [hj]; omega)).mono ?_))
    rintro _ h2 ⟨rfl, hh2⟩
    intro u37 e37
    refine HL.still (Runs.assign e37) ?_
    intro u7 e7
    refine HL.nil ?_
    rw [hh2]
    clear hh2
    rw [hj] at e7
    -- region 9
    repeat refine HW.seq ?_
    refine HW.region ?_
    refine HL.still (Runs.move e7) ?_
    intro u38 e38
    refine HL.one (HO.call Tryd.func28 bd28 nm28 (args1 e38) rfl ((ris_ch u (cleanP s) (by omega)).mono ?_))
    rintro _ h4 ⟨rfl, X4⟩
    intro u39 e39
    refine HL.still (Runs.assign e39) ?_
    intro u8 e8
    refine HL.nil ?_
    have XB : Ext h h4 := XU.ext X4 (Nat.le_refl _)
    -- region 10
    repeat refine HW.seq ?_
    refine HW.region ?_
    refine HL.still (Runs.move e8) ?_
    intro u40 e40
    refine HL.still (Runs.notb e40 (t := isPath (cleanP s)) (u := !isPath (cleanP s)) rfl) ?_
    intro u41 e41
    refine HL.nil ?_
    cases hp : isPath (cleanP s) with
    | true =>
      rw [hp] at e41
      refine HW.no e41 ?_
      refine HW.skip ?_
      -- region 12
      repeat refine HW.seq ?_
      refine HW.region ?_
      refine HL.still (Runs.move e7) ?_
      intro u42 e42
      refine HL.still (Runs.assign e42) ?_
      intro u2 e2
      refine HL.still (Runs.assign rfl) ?_
      intro u3 e3
      refine HL.nil ?_
      refine HW.ret ?_
      exact RT.two rfl e2 e3 ⟨by unfold cleanO; rw [if_pos hp], XB⟩
    | false =>
      rw [hp] at e41
      refine HW.yes e41 ?_
      -- region 11
      repeat refine HW.seq ?_
      refine HW.region ?_
      refine HL.still (Runs.assign rfl) ?_
      intro u2 e2
      refine HL.still (Runs.assign rfl) ?_
      intro u3 e3
      refine HL.nil ?_
      refine HW.ret ?_
      exact RT.two rfl e2 e3 ⟨by unfold cleanO; rw [hp]; rfl, XB⟩
/-! ### Parent, Under -/
theorem parent_ch (h : Heap) (s : Str) (hs : s.length < 4611686018427387904) : CH Tryd.prog 13 #[S8 s] h fun v h' => v = S8 (parentO s) ∧ h' = h := by
  refine CH.of_body Tryd.func13 rfl rfl rfl ?_
  intro f hf
  have p0 : f 0 = S8 s := by rw [hf]; exact fr0_at rfl
  -- region 0
  repeat refine HW.seq ?_
  refine HW.region ?_
  refine HL.still (Runs.assign rfl) ?_
  intro u2 e2
  refine HL.nil ?_
  -- region 1
  repeat refine HW.seq ?_
  refine HW.region ?_
  refine HL.still (Runs.move p0) ?_
  intro u6 e6
  refine HL.one (HO.call Tryd.func34 bd34 nm34 (args1 e6) rfl ((split2_ch h s hs).mono ?_))
  rintro _ h1 ⟨rfl, hh1⟩
  intro u7 e7
  refine HL.still (Runs.move e7) ?_
  intro u5 e5
  refine HL.still (Runs.extr e5 rfl) ?_
  intro u8 e8
  refine HL.still (Runs.extr e5 rfl) ?_
  intro u9 e9
  refine HL.still (Runs.assign e8) ?_
  intro u3 e3
  refine HL.still (Runs.assign e9) ?_
  intro u4 e4
  refine HL.nil ?_
  -- region 2
  repeat refine HW.seq ?_
  refine HW.region ?_
  refine HL.still (Runs.move e3) ?_
  intro u10 e10
  refine HL.still (Runs.assign e10) ?_
  intro u2 e2
  refine HL.nil ?_
  refine HW.ret ?_
  exact RT.one rfl e2 ⟨rfl, hh1⟩
theorem rparent_ch (h : Heap) (s : Str) (hs : s.length ≤ 10000) : CH Tryd.prog 14 #[S8 s] h fun v h' => v = S8 (parentO s) ∧ Ext h h' := by
  refine CH.of_body Tryd.func14 rfl rfl rfl ?_
  intro f hf
  have p0 : f 0 = S8 s := by rw [hf]; exact fr0_at rfl
  have hpos := List.length_pos_iff.2 (parts_ne s)
  have hpl := parts_le s
  -- region 0
  repeat refine HW.seq ?_
  refine HW.region ?_
  refine HL.still (Runs.assign rfl) ?_
  intro u2 e2
  refine HL.nil ?_
  -- region 1
  repeat refine HW.seq ?_
  refine HW.region ?_
  refine HL.still (Runs.move p0) ?_
  intro u4 e4
  refine HL.one (HO.call Tryd.func26 bd26 nm26 (args1 e4) rfl ((rcut_ch h s hs).mono ?_))
  rintro _ h1 ⟨a, c, rfl, hR, X1⟩
  intro u5 e5
  refine HL.still (Runs.assign e5) ?_
  intro u3 e3
  refine HL.nil ?_
  have hS : Sts h1 a (parts s) := hR.byt
  have hcap := hR.2
  have htl : ((parts s).take ((parts s).length - 1)).length = (parts s).length - 1 := by rw [List.length_take]; omega
  have hle := joinS_take_le (parts s) ((parts s).length - 1)
  rw [join_parts] at hle
  rcases hR.blk with rfl | ⟨g, rfl, _, _⟩
  · exfalso
    rcases hS with q | ⟨sb, so, q, _⟩
    · exact parts_ne s q
    · cases q
  -- region 2
  repeat refine HW.seq ?_
  refine HW.region ?_
  refine HL.still (Runs.move e3) ?_
  intro u6 e6
  refine HL.still (Runs.move e3) ?_
  intro u7 e7
  refine HL.still (Runs.lenSl rfl Tryd.underlying33 e7) ?_
  intro u8 e8
  refine HL.still (Runs.sub e8 rfl (c := (((parts s).length - 1 : Nat) : Int)) (by rw [i64w (by omega)]; omega)) ?_
  intro u9 e9
  refine HL.still (Runs.sliceSl Tryd.underlying33 sz9 e6 (lo := 0) (hi := (parts s).length - 1) rfl ⟨_, e9⟩ (Nat.zero_le _) (by omega) (show _ = some (⟨g, 0, none⟩ : Addr) by rw [if_neg (by omega)]; simp [addr_add])) ?_
  intro u10 e10
  refine HL.one (HO.call Tryd.func27 bd27 nm27 (args1 e10) rfl ((rjoin_ch h1 ((parts s).take ((parts s).length - 1)) _ _ _ htl.symm (hS.take _) (by omega) (by omega)).mono ?_))
  rintro _ h2 ⟨rfl, hh2⟩
  intro u11 e11
  refine HL.still (Runs.assign e11) ?_
  intro u2 e2
  refine HL.nil ?_
  refine HW.ret ?_
  exact RT.one rfl e2 ⟨rfl, by rw [hh2]; exact X1⟩
theorem under_ch (h : Heap) (p q : Str) (hp : p.length ≤ 100000) : CH Tryd.prog 15 #[S8 p, S8 q] h fun v h' => v = .bool (underO p q) ∧ h' = h := by
  refine CH.of_body Tryd.func15 rfl rfl rfl ?_
  intro f hf
  have p0 : f 0 = S8 p := by rw [hf]; exact fr0_at rfl
  have p1 : f 1 = S8 q := by rw [hf]; exact fr0_at rfl
  -- region 0
  repeat refine HW.seq ?_
  refine HW.region ?_
  refine HL.still (Runs.assign rfl) ?_
  intro u4 e4
  refine HL.nil ?_
  have hne : ∀ x : Str, x ≠ [] → (x == []) = false := fun x hx => beq_eq_false_iff_ne.2 hx
  by_cases he : p = []
  · have hu : underO p q = !(q == []) := by unfold underO; rw [if_pos he]
    by_cases hq : q = []
    · skip
      -- region 1
      repeat refine HW.seq ?_
      refine HW.region ?_
      refine HL.still (Runs.move p0) ?_
      intro u5 e5
      refine HL.still (Runs.eqS e5 rfl (ys := []) (t := true) (by simp [he])) ?_
      intro u6 e6
      refine HL.still (Runs.move e6) ?_
      intro u7 e7
      refine HL.stillG rfl rfl e7 (Runs.move p1) ?_
      intro u8 e8
      refine HL.stillG rfl rfl e7 (Runs.neqS e8 rfl (ys := []) (t := false) (by simp [hq])) ?_
      intro u9 e9
      refine HL.still (Runs.pick e7 e9) ?_
      intro u10 e10
      refine HL.still (Runs.move e10) ?_
      intro u11 e11
      refine HL.stillG rfl rfl e11 (Runs.move p0) ?_
      intro u12 e12
      refine HL.stillG rfl rfl e11 (Runs.neqS e12 rfl (ys := []) (t := false) (by simp [he])) ?_
      intro u13 e13
      refine HL.stillG rfl rfl e11 (Runs.move e13) ?_
      intro u14 e14
      refine HL.skipG rfl rfl e14 ?_
      intro u15 e15
      refine HL.skipG rfl rfl e14 ?_
      intro u16 e16
      refine HL.skipG rfl rfl e14 ?_
      intro u17 e17
      refine HL.skipG rfl rfl e14 ?_
      intro u18 e18
      refine HL.stillG rfl rfl e11 (Runs.pick e14 rfl) ?_
      intro u19 e19
      refine HL.still (Runs.pick e11 e19) ?_
      intro u20 e20
      refine HL.still (Runs.assign e20) ?_
      intro u4 e4
      refine HL.nil ?_
      refine HW.ret ?_
      exact RT.one rfl e4 ⟨by rw [hu, hq]; rfl, rfl⟩
    · skip
      -- region 1
      repeat refine HW.seq ?_
      refine HW.region ?_
      refine HL.still (Runs.move p0) ?_
      intro u5 e5
      refine HL.still (Runs.eqS e5 rfl (ys := []) (t := true) (by simp [he])) ?_
      intro u6 e6
      refine HL.still (Runs.move e6) ?_
      intro u7 e7
      refine HL.stillG rfl rfl e7 (Runs.move p1) ?_
      intro u8 e8
      refine HL.stillG rfl rfl e7 (Runs.neqS e8 rfl (ys := []) (t := true) (by rw [hne q hq]; rfl)) ?_
      intro u9 e9
      refine HL.still (Runs.pick e7 e9) ?_
      intro u10 e10
      refine HL.still (Runs.move e10) ?_
      intro u11 e11
      refine HL.skipG rfl rfl e11 ?_
      intro u12 e12
      refine HL.skipG rfl rfl e11 ?_
      intro u13 e13
      refine HL.skipG rfl rfl e11 ?_
      intro u14 e14
      refine HL.skipU rfl rfl e14 ?_
      intro u15 e15
      refine HL.skipU rfl rfl e14 ?_
      intro u16 e16
      refine HL.skipU rfl rfl e14 ?_
      intro u17 e17
      refine HL.skipU rfl rfl e14 ?_
      intro u18 e18
      refine HL.skipG rfl rfl e11 ?_
      intro u19 e19
      refine HL.still (Runs.pick e11 rfl) ?_
      intro u20 e20
      refine HL.still (Runs.assign e20) ?_
      intro u4 e4
      refine HL.nil ?_
      refine HW.ret ?_
      exact RT.one rfl e4 ⟨by rw [hu, hne q hq]; rfl, rfl⟩
  · skip
    -- region 1
    repeat refine HW.seq ?_
    refine HW.region ?_
    refine HL.still (Runs.move p0) ?_
    intro u5 e5
    refine HL.still (Runs.eqS e5 rfl (ys := []) (t := false) (by rw [hne p he])) ?_
    intro u6 e6
    refine HL.still (Runs.move e6) ?_
    intro u7 e7
    refine HL.skipG rfl rfl e7 ?_
    intro u8 e8
    refine HL.skipG rfl rfl e7 ?_
    intro u9 e9
    refine HL.still (Runs.pick e7 rfl) ?_
    intro u10 e10
    refine HL.still (Runs.move e10) ?_
    intro u11 e11
    refine HL.stillG rfl rfl e11 (Runs.move p0) ?_
    intro u12 e12
    refine HL.stillG rfl rfl e11 (Runs.neqS e12 rfl (ys := []) (t := true) (by rw [hne p he]; rfl)) ?_
    intro u13 e13
    refine HL.stillG rfl rfl e11 (Runs.move e13) ?_
    intro u14 e14
    refine HL.stillG rfl rfl e14 (Runs.move p1) ?_
    intro u15 e15
    refine HL.stillG rfl rfl e14 (Runs.move p0) ?_
    intro u16 e16
    refine HL.stillG rfl rfl e14 (Runs.addS e16 rfl (ys := [47]) (by simp; omega)) ?_
    intro u17 e17
    refine HL.oneG rfl rfl e14 (HO.call Tryd.func35 bd35 nm35 (args2 e15 e17) rfl ((hasPre_ch h q (p ++ [47])).mono ?_))
    rintro _ h1 ⟨rfl, hh1⟩
    intro u18 e18
    refine HL.stillG rfl rfl e11 (Runs.pick e14 e18) ?_
    intro u19 e19
    refine HL.still (Runs.pick e11 e19) ?_
    intro u20 e20
    refine HL.still (Runs.assign e20) ?_
    intro u4 e4
    refine HL.nil ?_
    refine HW.ret ?_
    refine RT.one rfl e4 ⟨?_, hh1⟩
    unfold underO
    rw [if_neg he]
theorem under_alt (p q : Str) : (p ++ [47]).isPrefixOf q = (decide ((q.length : Int) > p.length) && (q.take (p.length + 1) == p ++ [47])) := by
  rw [Bool.eq_iff_iff, List.isPrefixOf_iff_prefix, Bool.and_eq_true, decide_eq_true_eq, beq_iff_eq]
  constructor
  · rintro ⟨t, rfl⟩
    exact ⟨by simp; omega, List.take_left' (by simp)⟩
  · rintro ⟨_, h⟩
    exact ⟨q.drop (p.length + 1), by rw [← h]; exact List.take_append_drop _ q⟩
theorem runder_ch (h : Heap) (p q : Str) (hp : p.length ≤ 100000) : CH Tryd.prog 16 #[S8 p, S8 q] h fun v h' => v = .bool (underO p q) ∧ h' = h := by
  refine CH.of_body Tryd.func16 rfl rfl rfl ?_
  intro f hf
  have p0 : f 0 = S8 p := by rw [hf]; exact fr0_at rfl
  have p1 : f 1 = S8 q := by rw [hf]; exact fr0_at rfl
  -- region 0
  repeat refine HW.seq ?_
  refine HW.region ?_
  refine HL.still (Runs.assign rfl) ?_
  intro u4 e4
  refine HL.nil ?_
  have hne : ∀ x : Str, x ≠ [] → (x == []) = false := fun x hx => beq_eq_false_iff_ne.2 hx
  by_cases he : p = []
  · have hu : underO p q = !(q == []) := by unfold underO; rw [if_pos he]
    -- region 1
    repeat refine HW.seq ?_
    refine HW.region ?_
    refine HL.still (Runs.move p0) ?_
    intro u5 e5
    refine HL.still (Runs.eqS e5 rfl (ys := []) (t := true) (by simp [he])) ?_
    intro u6 e6
    refine HL.nil ?_
    repeat refine HW.seq ?_
    refine HW.yes ?_ ?_
    exact e6
    -- region 2
    repeat refine HW.seq ?_
    refine HW.region ?_
    refine HL.still (Runs.move p1) ?_
    intro u7 e7
    refine HL.still (Runs.neqS e7 rfl (ys := []) rfl) ?_
    intro u8 e8
    refine HL.still (Runs.assign e8) ?_
    intro u4 e4
    refine HL.nil ?_
    refine HW.ret ?_
    exact RT.one rfl e4 ⟨by rw [hu], rfl⟩
  · skip
    -- region 1
    repeat refine HW.seq ?_
    refine HW.region ?_
    refine HL.still (Runs.move p0) ?_
    intro u5 e5
    refine HL.still (Runs.eqS e5 rfl (ys := []) (t := false) (by rw [hne p he])) ?_
    intro u6 e6
    refine HL.nil ?_
    repeat refine HW.seq ?_
    refine HW.no ?_ ?_
    exact e6
    refine HW.skip ?_
    have hu : underO p q = (p ++ [47]).isPrefixOf q := by unfold underO; rw [if_neg he]
    rw [under_alt] at hu
    by_cases hl : q.length > p.length
    · skip
      -- region 3
      repeat refine HW.seq ?_
      refine HW.region ?_
      refine HL.still (Runs.move p1) ?_
      intro u9 e9
      refine HL.still (Runs.lenS rfl Tryd.underlying9 e9) ?_
      intro u10 e10
      refine HL.still (Runs.move p0) ?_
      intro u11 e11
      refine HL.still (Runs.lenS rfl Tryd.underlying9 e11) ?_
      intro u12 e12
      refine HL.still (Runs.gtr e10 e12 (t := true) (decide_eq_true (by omega))) ?_
      intro u13 e13
      refine HL.still (Runs.move e13) ?_
      intro u14 e14
      refine HL.stillG rfl rfl e14 (Runs.move p1) ?_
      intro u15 e15
      refine HL.stillG rfl rfl e14 (Runs.move p0) ?_
      intro u16 e16
      refine HL.stillG rfl rfl e14 (Runs.lenS rfl Tryd.underlying9 e16) ?_
      intro u17 e17
      refine HL.stillG rfl rfl e14 (Runs.add e17 rfl (c := ((p.length + 1 : Nat) : Int)) (by rw [i64w (by omega)]; omega)) ?_
      intro u18 e18
      refine HL.stillG rfl rfl e14 (Runs.sliceS Tryd.underlying9 e15 (lo := 0) (hi := p.length + 1) rfl ⟨_, e18⟩ (Nat.zero_le _) hl) ?_
      intro u19 e19
      refine HL.stillG rfl rfl e14 (Runs.move p0) ?_
      intro u20 e20
      refine HL.stillG rfl rfl e14 (Runs.addS e20 rfl (ys := [47]) (by simp; omega)) ?_
      intro u21 e21
      refine HL.stillG rfl rfl e14 (Runs.eqS e19 e21 rfl) ?_
      intro u22 e22
      refine HL.still (Runs.pick e14 e22) ?_
      intro u23 e23
      refine HL.still (Runs.assign e23) ?_
      intro u4 e4
      refine HL.nil ?_
      refine HW.ret ?_
      exact RT.one rfl e4 ⟨by rw [hu, decide_eq_true (by omega), List.drop_zero]; rfl, rfl⟩
    · skip
      -- region 3
      repeat refine HW.seq ?_
      refine HW.region ?_
      refine HL.still (Runs.move p1) ?_
      intro u9 e9
      refine HL.still (Runs.lenS rfl Tryd.underlying9 e9) ?_
      intro u10 e10
      refine HL.still (Runs.move p0) ?_
      intro u11 e11
      refine HL.still (Runs.lenS rfl Tryd.underlying9 e11) ?_
      intro u12 e12
      refine HL.still (Runs.gtr e10 e12 (t := false) (decide_eq_false (by omega))) ?_
      intro u13 e13
      refine HL.still (Runs.move e13) ?_
      intro u14 e14
      refine HL.skipG rfl rfl e14 ?_
      intro u15 e15
      refine HL.skipG rfl rfl e14 ?_
      intro u16 e16
      refine HL.skipG rfl rfl e14 ?_
      intro u17 e17
      refine HL.skipG rfl rfl e14 ?_
      intro u18 e18
      refine HL.skipG rfl rfl e14 ?_
      intro u19 e19
      refine HL.skipG rfl rfl e14 ?_
      intro u20 e20
      refine HL.skipG rfl rfl e14 ?_
      intro u21 e21
      refine HL.skipG rfl rfl e14 ?_
      intro u22 e22
      refine HL.still (Runs.pick e14 rfl) ?_
      intro u23 e23
      refine HL.still (Runs.assign e23) ?_
      intro u4 e4
      refine HL.nil ?_
      refine HW.ret ?_
      exact RT.one rfl e4 ⟨by rw [hu, decide_eq_false (by omega)]; rfl, rfl⟩
end Go.Proofs.YtfnippeemboljaaDoor
