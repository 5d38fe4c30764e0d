/- What is made: onionskinlaw12.JobjMakes. -/
import Derived.Test.YtjopikfkgjbcgaaGreatDoorYg
import Derived.Test.YtjopikfkgjbcgaaGreatDoorKa
namespace Go.Proofs.YtjopikfkgjbcgaaGreatDoor
set_option linter.unnecessarySimpa false
set_option linter.unusedSimpArgs false
set_option linter.unusedVariables false
open Go.RowKit
theorem Ext.tr {a b c : Heap} (x : Ext a b) (y : Ext b c) : Ext a c := x.ext y (Nat.le_refl _)
theorem lenLs_le {L : List RowJ} (h : ∀ x ∈ L, x.2.2.length ≤ 80) : lenLs (L.map (·.2.2)) ≤ 80 * L.length := by
  unfold lenLs
  induction L with
  | nil => exact Nat.zero_le _
  | cons x L ih =>
    have h1 := h x (List.mem_cons_self ..)
    have h2 := ih fun y hy => h y (List.mem_cons_of_mem _ hy)
    simp only [List.map_cons, List.flatten_cons, List.length_append, List.length_cons]
    omega
theorem made_le (kind : Int) (keys : List (List UInt8)) (Ls : List (List JV)) : (madeO kind keys Ls).length ≤ lenLs Ls + 1 := by
  unfold madeO
  split
  · unfold wholeO
    split
    · rw [List.length_cons, body_len kind keys Ls Ls.length (Nat.le_refl _), List.take_length]; exact Nat.le_refl _
    · exact Nat.zero_le _
  · exact Nat.zero_le _
theorem obj_le (keys : List (List UInt8)) (Ls : List (List JV)) : (objectO keys Ls).length ≤ lenLs Ls + 1 := by
  unfold objectO
  split
  · exact made_le 6 keys Ls
  · exact Nat.zero_le _
set_option maxRecDepth 10000 in
set_option maxHeartbeats 8000000 in
theorem lawMakes_ch (h : Heap) (s : List UInt8) (n : Int) (keys : List (List UInt8)) (L : List RowJ) (ka a : Option Addr) (kc cap : Nat) (hn : (Lit.int .i64 n).wf = true) (hK : Row gS [] h ka keys) (hks : ∀ s ∈ keys, s.length ≤ 140737488355328) (hL : Jvss h a L) (hz : ∀ x ∈ L, x.2.1 ≤ maxLen ∧ InJ x.2.2) (hP : Plc h) :
    CH Tryz.prog 3 #[.string (strOf s), I64 n, .slice ka keys.length kc, .slice a L.length cap] h fun v h' => v = .bool true ∧ Ext h h' := by
  refine CH.of_body Tryz.func3 rfl rfl rfl ?_
  intro f hf
  have p0 : f 0 = .string (strOf s) := by rw [hf]; exact fr0_at rfl
  have p1 : f 1 = I64 n := by rw [hf]; exact fr0_at rfl
  have p2 : f 2 = .slice ka keys.length kc := by rw [hf]; exact fr0_at rfl
  have p3 : f 3 = .slice a L.length cap := by rw [hf]; exact fr0_at rfl
  obtain ⟨hn0, hn1⟩ := wf_i64 hn
  -- region 0
  repeat refine HW.seq ?_
  refine HW.region ?_
  refine HL.still (Runs.assign rfl) ?_
  intro u8 e8
  refine HL.nil ?_
  -- region 1
  repeat refine HW.seq ?_
  refine HW.region ?_
  refine HL.one (HO.call Tryz.func4 bd4 nm4 (args0) rfl ((small_ch h hP).mono ?_))
  rintro _ h1 ⟨rfl, X1⟩
  intro u13 e13
  refine HL.still (Runs.assign e13) ?_
  intro u9 e9
  refine HL.nil ?_
  have g9 : u9 = .bool true := e9
  by_cases hs : s.length > 1000
  · skip
    -- region 2
    repeat refine HW.seq ?_
    refine HW.region ?_
    refine HL.still (Runs.move p0) ?_
    intro u14 e14
    refine HL.still (Runs.lenS rfl Tryz.underlying9 e14) ?_
    intro u15 e15
    refine HL.still (Runs.gtr e15 rfl (t := true) (decide_eq_true (by omega))) ?_
    intro u16 e16
    refine HL.still (Runs.move e16) ?_
    intro u17 e17
    refine HL.skipG rfl rfl e17 ?_
    intro u18 e18
    refine HL.skipG rfl rfl e17 ?_
    intro u19 e19
    refine HL.skipG rfl rfl e17 ?_
    intro u20 e20
    refine HL.still (Runs.pick e17 rfl) ?_
    intro u21 e21
    refine HL.still (Runs.move e21) ?_
    intro u22 e22
    refine HL.skipG rfl rfl e22 ?_
    intro u23 e23
    refine HL.skipG rfl rfl e22 ?_
    intro u24 e24
    refine HL.skipG rfl rfl e22 ?_
    intro u25 e25
    refine HL.still (Runs.pick e22 rfl) ?_
    intro u26 e26
    refine HL.nil ?_
    refine HW.yes e26 ?_
    -- region 3
    repeat refine HW.seq ?_
    refine HW.region ?_
    refine HL.still (Runs.move g9) ?_
    intro u27 e27
    refine HL.still (Runs.assign e27) ?_
    intro u8 e8
    refine HL.nil ?_
    refine HW.ret ?_
    exact RT.one rfl e8 ⟨rfl, X1⟩
  by_cases hk20 : keys.length > 20
  · skip
    -- region 2
    repeat refine HW.seq ?_
    refine HW.region ?_
    refine HL.still (Runs.move p0) ?_
    intro u14 e14
    refine HL.still (Runs.lenS rfl Tryz.underlying9 e14) ?_
    intro u15 e15
    refine HL.still (Runs.gtr e15 rfl (t := false) (decide_eq_false (by omega))) ?_
    intro u16 e16
    refine HL.still (Runs.move e16) ?_
    intro u17 e17
    refine HL.stillG rfl rfl e17 (Runs.move p2) ?_
    intro u18 e18
    refine HL.stillG rfl rfl e17 (Runs.lenSl rfl Tryz.underlying22 e18) ?_
    intro u19 e19
    refine HL.stillG rfl rfl e17 (Runs.gtr e19 rfl (t := true) (decide_eq_true (by omega))) ?_
    intro u20 e20
    refine HL.still (Runs.pick e17 e20) ?_
    intro u21 e21
    refine HL.still (Runs.move e21) ?_
    intro u22 e22
    refine HL.skipG rfl rfl e22 ?_
    intro u23 e23
    refine HL.skipG rfl rfl e22 ?_
    intro u24 e24
    refine HL.skipG rfl rfl e22 ?_
    intro u25 e25
    refine HL.still (Runs.pick e22 rfl) ?_
    intro u26 e26
    refine HL.nil ?_
    refine HW.yes e26 ?_
    -- region 3
    repeat refine HW.seq ?_
    refine HW.region ?_
    refine HL.still (Runs.move g9) ?_
    intro u27 e27
    refine HL.still (Runs.assign e27) ?_
    intro u8 e8
    refine HL.nil ?_
    refine HW.ret ?_
    exact RT.one rfl e8 ⟨rfl, X1⟩
  by_cases hl20 : L.length > 20
  · skip
    -- region 2
    repeat refine HW.seq ?_
    refine HW.region ?_
    refine HL.still (Runs.move p0) ?_
    intro u14 e14
    refine HL.still (Runs.lenS rfl Tryz.underlying9 e14) ?_
    intro u15 e15
    refine HL.still (Runs.gtr e15 rfl (t := false) (decide_eq_false (by omega))) ?_
    intro u16 e16
    refine HL.still (Runs.move e16) ?_
    intro u17 e17
    refine HL.stillG rfl rfl e17 (Runs.move p2) ?_
    intro u18 e18
    refine HL.stillG rfl rfl e17 (Runs.lenSl rfl Tryz.underlying22 e18) ?_
    intro u19 e19
    refine HL.stillG rfl rfl e17 (Runs.gtr e19 rfl (t := false) (decide_eq_false (by omega))) ?_
    intro u20 e20
    refine HL.still (Runs.pick e17 e20) ?_
    intro u21 e21
    refine HL.still (Runs.move e21) ?_
    intro u22 e22
    refine HL.stillG rfl rfl e22 (Runs.move p3) ?_
    intro u23 e23
    refine HL.stillG rfl rfl e22 (Runs.lenSl rfl Tryz.underlying23 e23) ?_
    intro u24 e24
    refine HL.stillG rfl rfl e22 (Runs.gtr e24 rfl (t := true) (decide_eq_true (by omega))) ?_
    intro u25 e25
    refine HL.still (Runs.pick e22 e25) ?_
    intro u26 e26
    refine HL.nil ?_
    refine HW.yes e26 ?_
    -- region 3
    repeat refine HW.seq ?_
    refine HW.region ?_
    refine HL.still (Runs.move g9) ?_
    intro u27 e27
    refine HL.still (Runs.assign e27) ?_
    intro u8 e8
    refine HL.nil ?_
    refine HW.ret ?_
    exact RT.one rfl e8 ⟨rfl, X1⟩
  -- region 2
  repeat refine HW.seq ?_
  refine HW.region ?_
  refine HL.still (Runs.move p0) ?_
  intro u14 e14
  refine HL.still (Runs.lenS rfl Tryz.underlying9 e14) ?_
  intro u15 e15
  refine HL.still (Runs.gtr e15 rfl (t := false) (decide_eq_false (by omega))) ?_
  intro u16 e16
  refine HL.still (Runs.move e16) ?_
  intro u17 e17
  refine HL.stillG rfl rfl e17 (Runs.move p2) ?_
  intro u18 e18
  refine HL.stillG rfl rfl e17 (Runs.lenSl rfl Tryz.underlying22 e18) ?_
  intro u19 e19
  refine HL.stillG rfl rfl e17 (Runs.gtr e19 rfl (t := false) (decide_eq_false (by omega))) ?_
  intro u20 e20
  refine HL.still (Runs.pick e17 e20) ?_
  intro u21 e21
  refine HL.still (Runs.move e21) ?_
  intro u22 e22
  refine HL.stillG rfl rfl e22 (Runs.move p3) ?_
  intro u23 e23
  refine HL.stillG rfl rfl e22 (Runs.lenSl rfl Tryz.underlying23 e23) ?_
  intro u24 e24
  refine HL.stillG rfl rfl e22 (Runs.gtr e24 rfl (t := false) (decide_eq_false (by omega))) ?_
  intro u25 e25
  refine HL.still (Runs.pick e22 e25) ?_
  intro u26 e26
  refine HL.nil ?_
  refine HW.no e26 ?_
  refine HW.skip ?_
  -- region 4
  repeat refine HW.seq ?_
  refine HW.region ?_
  refine HL.still (Runs.assign rfl) ?_
  intro u10 e10
  refine HL.nil ?_
  have hL1 := hL.ext X1
  have hP1 := hP.ext X1
  have hK1 := hK.ext X1
  clear e8 e9 e26
  refine HW.mono (N := fun f v => f 0 = .string (strOf s) ∧ f 1 = I64 n ∧ f 2 = .slice ka keys.length kc ∧ f 3 = .slice a L.length cap ∧ f 9 = .bool true ∧ (∀ x ∈ L, fewJ x.2.2 = true) ∧ h1 = v) ?_ ?_ (fun _ _ _ q => q) (fun _ _ q => q)
  · refine HW.block ?_
    refine HW.loop (fun m f u => ∃ i : Nat, i ≤ L.length ∧ m = L.length - i ∧ f 10 = I64 i ∧ f 0 = .string (strOf s) ∧ f 1 = I64 n ∧ f 2 = .slice ka keys.length kc ∧ f 3 = .slice a L.length cap ∧ f 9 = .bool true ∧ (∀ r x, r < i → L[r]? = some x → fewJ x.2.2 = true) ∧ h1 = u) L.length
      ⟨0, Nat.zero_le _, rfl, e10, p0, p1, p2, p3, g9, (fun r x hr => by cases hr), rfl⟩ ?_
    clear e10 p0 p1 p2 p3 g9
    rintro m f u ⟨i, hi, hm, f10, f0, f1, f2, f3, f9, hall, rfl⟩
    by_cases hlt : i < L.length
    · obtain ⟨y, hy⟩ : ∃ y, L[i]? = some y := ⟨_, List.getElem?_eq_getElem hlt⟩
      have hym : y ∈ L := List.mem_iff_getElem?.2 ⟨i, hy⟩
      obtain ⟨hzc, hzy⟩ := hz y hym
      obtain ⟨sb, so, rfl, hcell, hyv, hyc⟩ := hL1.at hy
      -- region 5
      repeat refine HW.seq ?_
      refine HW.region ?_
      refine HL.still (Runs.move f10) ?_
      intro u28 e28
      refine HL.still (Runs.move f3) ?_
      intro u29 e29
      refine HL.still (Runs.lenSl rfl Tryz.underlying23 e29) ?_
      intro u30 e30
      refine HL.still (Runs.lss e28 e30 rfl) ?_
      intro u31 e31
      refine HL.nil ?_
      repeat refine HW.seq ?_
      refine HW.yes ?_ ?_
      exact e31.trans (congrArg Value.bool (decide_eq_true (by omega)))
      refine HW.skip ?_
      repeat refine HW.seq ?_
      refine HW.block ?_
      -- region 7
      repeat refine HW.seq ?_
      refine HW.region ?_
      refine HL.still (Runs.move f3) ?_
      intro u34 e34
      refine HL.still (Runs.move f10) ?_
      intro u35 e35
      refine HL.still (Runs.ixSl (o' := so + i) Tryz.underlying23 sz26 e34 e35 (by omega) (by omega) (by omega)) ?_
      intro u36 e36
      refine HL.still (Runs.load Tryz.underlying26 rfl e36 hcell) ?_
      intro u37 e37
      refine HL.one (HO.call Tryz.func5 bd5 nm5 (args1 e37) rfl ((fewC_ch h1 y.2.2 y.1 y.2.1 hyv (Nat.le_trans hyc hzc) hzy).mono ?_))
      rintro _ h2 ⟨rfl, rfl⟩
      intro u38 e38
      refine HL.still (Runs.assign e38) ?_
      intro u11 e11
      refine HL.nil ?_
      have g11 : u11 = .bool (fewJ y.2.2) := e11
      cases hfw : fewJ y.2.2 with
      | false =>
        rw [hfw] at g11
        -- region 8
        repeat refine HW.seq ?_
        refine HW.region ?_
        refine HL.still (Runs.move g11) ?_
        intro u39 e39
        refine HL.still (Runs.notb e39 (u := true) rfl) ?_
        intro u40 e40
        refine HL.nil ?_
        refine HW.yes e40 ?_
        -- region 9
        repeat refine HW.seq ?_
        refine HW.region ?_
        refine HL.still (Runs.move f9) ?_
        intro u41 e41
        refine HL.still (Runs.assign e41) ?_
        intro u8 e8
        refine HL.nil ?_
        refine HW.ret ?_
        exact RT.one rfl e8 ⟨rfl, X1⟩
      | true =>
        rw [hfw] at g11
        -- region 8
        repeat refine HW.seq ?_
        refine HW.region ?_
        refine HL.still (Runs.move g11) ?_
        intro u39 e39
        refine HL.still (Runs.notb e39 (u := false) rfl) ?_
        intro u40 e40
        refine HL.nil ?_
        refine HW.no e40 ?_
        refine HW.skip ?_
        -- region 6
        repeat refine HW.seq ?_
        refine HW.region ?_
        refine HL.still (Runs.move f10) ?_
        intro u32 e32
        refine HL.still (Runs.add e32 rfl (i64w (by omega))) ?_
        intro u33 e33
        refine HL.still (Runs.assign e33) ?_
        intro u10 e10
        refine HL.nil ?_
        exact ⟨L.length - (i + 1), by omega, i + 1, by omega, rfl, e10, f0, f1, f2, f3, f9, (fun r x hr hx => by
          by_cases hri : r < i
          · exact hall r x hri hx
          · obtain rfl : r = i := by omega
            rw [hy] at hx
            obtain rfl := Option.some.inj hx
            exact hfw), rfl⟩
    · have hil : i = L.length := by omega
      subst hil
      -- region 5
      repeat refine HW.seq ?_
      refine HW.region ?_
      refine HL.still (Runs.move f10) ?_
      intro u28 e28
      refine HL.still (Runs.move f3) ?_
      intro u29 e29
      refine HL.still (Runs.lenSl rfl Tryz.underlying23 e29) ?_
      intro u30 e30
      refine HL.still (Runs.lss e28 e30 rfl) ?_
      intro u31 e31
      refine HL.nil ?_
      repeat refine HW.seq ?_
      refine HW.no ?_ ?_
      exact e31.trans (congrArg Value.bool (decide_eq_false (by omega)))
      refine HW.exitHere ?_
      exact ⟨f0, f1, f2, f3, f9, (fun x hx => by
        obtain ⟨r, hr⟩ := List.mem_iff_getElem?.1 hx
        exact hall r x (List.getElem?_eq_some_iff.1 hr).1 hr), rfl⟩
  clear e10 p0 p1 p2 p3 g9
  rintro f v ⟨p0, p1, p2, p3, g9, hall, rfl⟩
  -- region 10
  repeat refine HW.seq ?_
  refine HW.region ?_
  refine HL.still (Runs.assign rfl) ?_
  intro u12 e12
  refine HL.nil ?_
  refine HW.mono (N := fun f v => f 0 = .string (strOf s) ∧ f 1 = I64 n ∧ f 2 = .slice ka keys.length kc ∧ f 3 = .slice a L.length cap ∧ f 9 = .bool true ∧ h1 = v) ?_ ?_ (fun _ _ _ q => q) (fun _ _ q => q)
  · refine HW.block ?_
    refine HW.loop (fun m f u => ∃ i : Nat, i ≤ keys.length ∧ m = keys.length - i ∧ f 12 = I64 i ∧ f 0 = .string (strOf s) ∧ f 1 = I64 n ∧ f 2 = .slice ka keys.length kc ∧ f 3 = .slice a L.length cap ∧ f 9 = .bool true ∧ h1 = u) keys.length
      ⟨0, Nat.zero_le _, rfl, e12, p0, p1, p2, p3, g9, rfl⟩ ?_
    clear e12 p0 p1 p2 p3 g9
    rintro m f u ⟨i, hi, hm, f12, f0, f1, f2, f3, f9, rfl⟩
    by_cases hlt : i < keys.length
    · obtain ⟨kb, ko, rfl, hkc⟩ := hK1.at hlt
      -- region 11
      repeat refine HW.seq ?_
      refine HW.region ?_
      refine HL.still (Runs.move f12) ?_
      intro u42 e42
      refine HL.still (Runs.move f2) ?_
      intro u43 e43
      refine HL.still (Runs.lenSl rfl Tryz.underlying22 e43) ?_
      intro u44 e44
      refine HL.still (Runs.lss e42 e44 rfl) ?_
      intro u45 e45
      refine HL.nil ?_
      repeat refine HW.seq ?_
      refine HW.yes ?_ ?_
      exact e45.trans (congrArg Value.bool (decide_eq_true (by omega)))
      refine HW.skip ?_
      repeat refine HW.seq ?_
      refine HW.block ?_
      by_cases h300 : (keys.getD i []).length > 300
      · skip
        -- region 13
        repeat refine HW.seq ?_
        refine HW.region ?_
        refine HL.still (Runs.move f2) ?_
        intro u48 e48
        refine HL.still (Runs.move f12) ?_
        intro u49 e49
        refine HL.still (Runs.ixSl (o' := ko + i) Tryz.underlying22 sz9 e48 e49 (by omega) (by omega) (by omega)) ?_
        intro u50 e50
        refine HL.still (Runs.load Tryz.underlying9 rfl e50 hkc) ?_
        intro u51 e51
        refine HL.still (Runs.lenS rfl Tryz.underlying9 e51) ?_
        intro u52 e52
        refine HL.still (Runs.gtr e52 rfl (t := true) (decide_eq_true (by omega))) ?_
        intro u53 e53
        refine HL.nil ?_
        refine HW.yes e53 ?_
        -- region 14
        repeat refine HW.seq ?_
        refine HW.region ?_
        refine HL.still (Runs.move f9) ?_
        intro u54 e54
        refine HL.still (Runs.assign e54) ?_
        intro u8 e8
        refine HL.nil ?_
        refine HW.ret ?_
        exact RT.one rfl e8 ⟨rfl, X1⟩
      · skip
        -- region 13
        repeat refine HW.seq ?_
        refine HW.region ?_
        refine HL.still (Runs.move f2) ?_
        intro u48 e48
        refine HL.still (Runs.move f12) ?_
        intro u49 e49
        refine HL.still (Runs.ixSl (o' := ko + i) Tryz.underlying22 sz9 e48 e49 (by omega) (by omega) (by omega)) ?_
        intro u50 e50
        refine HL.still (Runs.load Tryz.underlying9 rfl e50 hkc) ?_
        intro u51 e51
        refine HL.still (Runs.lenS rfl Tryz.underlying9 e51) ?_
        intro u52 e52
        refine HL.still (Runs.gtr e52 rfl (t := false) (decide_eq_false (by omega))) ?_
        intro u53 e53
        refine HL.nil ?_
        refine HW.no e53 ?_
        refine HW.skip ?_
        -- region 12
        repeat refine HW.seq ?_
        refine HW.region ?_
        refine HL.still (Runs.move f12) ?_
        intro u46 e46
        refine HL.still (Runs.add e46 rfl (i64w (by omega))) ?_
        intro u47 e47
        refine HL.still (Runs.assign e47) ?_
        intro u12 e12
        refine HL.nil ?_
        exact ⟨keys.length - (i + 1), by omega, i + 1, by omega, rfl, e12, f0, f1, f2, f3, f9, rfl⟩
    · have hil : i = keys.length := by omega
      subst hil
      -- region 11
      repeat refine HW.seq ?_
      refine HW.region ?_
      refine HL.still (Runs.move f12) ?_
      intro u42 e42
      refine HL.still (Runs.move f2) ?_
      intro u43 e43
      refine HL.still (Runs.lenSl rfl Tryz.underlying22 e43) ?_
      intro u44 e44
      refine HL.still (Runs.lss e42 e44 rfl) ?_
      intro u45 e45
      refine HL.nil ?_
      repeat refine HW.seq ?_
      refine HW.no ?_ ?_
      exact e45.trans (congrArg Value.bool (decide_eq_false (by omega)))
      refine HW.exitHere ?_
      exact ⟨f0, f1, f2, f3, f9, rfl⟩
  clear e12 p0 p1 p2 p3 g9
  rintro f v ⟨p0, p1, p2, p3, g9, rfl⟩
  have hO : ∀ x ∈ L, OkJ x.2.2 := fun x hx => (hz x hx).2.ok
  have hlen := lenLs_le fun x hx => (fewJ_of (hall x hx)).1
  have hml := made_le 5 [] (L.map (·.2.2))
  have hol := obj_le keys (L.map (·.2.2))
  have hLi : (listO (L.map (·.2.2))).length ≤ 1000000 := Nat.le_trans hml (by omega)
  have hOi : (objectO keys (L.map (·.2.2))).length ≤ 1000000 := Nat.le_trans hol (by omega)
  have h1T : (textO s).length ≤ 1000000 := (by decide : 1 ≤ 1000000)
  have h1I : (intO n).length ≤ 1000000 := (by decide : 1 ≤ 1000000)
  have cL : ∀ u, Ext h1 u → CH Tryz.prog 11 #[.slice a L.length cap] u fun v h' => ∃ a c, v = .slice a (listO (L.map (·.2.2))).length c ∧ Js h' u.size a c (listO (L.map (·.2.2))) ∧ Ext u h' := fun u X => list_ch u L a L.length cap rfl (hL1.ext X) (hP1.ext X) (by omega) (by omega) hO
  have cLR : ∀ u, Ext h1 u → CH Tryz.prog 12 #[.slice a L.length cap] u fun v h' => ∃ a c, v = .slice a (listO (L.map (·.2.2))).length c ∧ Js h' u.size a c (listO (L.map (·.2.2))) ∧ Ext u h' := fun u X => listR_ch u L a L.length cap rfl (hL1.ext X) (by omega) (by omega) hO
  have cO : ∀ u, Ext h1 u → CH Tryz.prog 13 #[.slice ka keys.length kc, .slice a L.length cap] u fun v h' => ∃ a c, v = .slice a (objectO keys (L.map (·.2.2))).length c ∧ Js h' u.size a c (objectO keys (L.map (·.2.2))) ∧ Ext u h' := fun u X => obj_ch u keys L ka a keys.length kc L.length cap rfl rfl (hK1.ext X) (hL1.ext X) (hP1.ext X) (by omega) (by omega) (by omega) hO hks
  have cOR : ∀ u, Ext h1 u → CH Tryz.prog 14 #[.slice ka keys.length kc, .slice a L.length cap] u fun v h' => ∃ a c, v = .slice a (objectO keys (L.map (·.2.2))).length c ∧ Js h' u.size a c (objectO keys (L.map (·.2.2))) ∧ Ext u h' := fun u X => objR_ch u keys L ka a keys.length kc L.length cap rfl rfl (hK1.ext X) (hL1.ext X) (by omega) (by omega) (by omega) hO hks
  clear hlen hml hol hall hO hz hL hK hP
  generalize listO (L.map (·.2.2)) = LL at hLi cL cLR
  generalize objectO keys (L.map (·.2.2)) = OO at hOi cO cOR
  -- region 15
  repeat refine HW.seq ?_
  refine HW.region ?_
  refine HL.still (Runs.move g9) ?_
  intro u55 e55
  refine HL.still (Runs.move e55) ?_
  intro u56 e56
  refine HL.stillG rfl rfl e56 (Runs.move p0) ?_
  intro u57 e57
  refine HL.oneG rfl rfl e56 (HO.call Tryz.func7 bd7 nm7 (args1 e57) rfl ((textJ_ch h1 s (by omega) hP1).mono ?_))
  rintro _ b1 ⟨a1, c1, rfl, J1, Y1⟩
  intro u58 e58
  refine HL.stillG rfl rfl e56 (Runs.move p0) ?_
  intro u59 e59
  refine HL.oneG rfl rfl e56 (HO.call Tryz.func8 bd8 nm8 (args1 e59) rfl ((textT_ch b1 s (by omega)).mono ?_))
  rintro _ b2 ⟨a2, c2, rfl, J2, Y2⟩
  intro u60 e60
  refine HL.oneG rfl rfl e56 (HO.call Tryz.func6 bd6 nm6 (args2 e58 e60) rfl ((sameC_ch b2 (textO s) (textO s) a1 a2 c1 c2 (J1.ext Y2).jvs J2.jvs h1T h1T rfl).mono ?_))
  rintro _ b3 ⟨rfl, rfl⟩
  intro u61 e61
  refine HL.still (Runs.pick e56 e61) ?_
  intro u62 e62
  refine HL.still (Runs.move e62) ?_
  intro u63 e63
  refine HL.stillG rfl rfl e63 (Runs.move p1) ?_
  intro u64 e64
  refine HL.oneG rfl rfl e63 (HO.call Tryz.func9 bd9 nm9 (args1 e64) rfl ((intJ_ch b2 n hn0 hn1 (hP1.ext (Y1.tr Y2))).mono ?_))
  rintro _ b4 ⟨a4, c4, rfl, J4, Y4⟩
  intro u65 e65
  refine HL.stillG rfl rfl e63 (Runs.move p1) ?_
  intro u66 e66
  refine HL.oneG rfl rfl e63 (HO.call Tryz.func10 bd10 nm10 (args1 e66) rfl ((intT_ch b4 n hn0 hn1).mono ?_))
  rintro _ b5 ⟨a5, c5, rfl, J5, Y5⟩
  intro u67 e67
  refine HL.oneG rfl rfl e63 (HO.call Tryz.func6 bd6 nm6 (args2 e65 e67) rfl ((sameC_ch b5 (intO n) (intO n) a4 a5 c4 c5 (J4.ext Y5).jvs J5.jvs h1I h1I rfl).mono ?_))
  rintro _ b6 ⟨rfl, rfl⟩
  intro u68 e68
  refine HL.still (Runs.pick e63 e68) ?_
  intro u69 e69
  refine HL.still (Runs.move e69) ?_
  intro u70 e70
  refine HL.stillG rfl rfl e70 (Runs.move p3) ?_
  intro u71 e71
  refine HL.oneG rfl rfl e70 (HO.call Tryz.func11 bd11 nm11 (args1 e71) rfl ((cL b5 (((Y1.tr Y2).tr Y4).tr Y5)).mono ?_))
  rintro _ b7 ⟨a7, c7, rfl, J7, Y7⟩
  intro u72 e72
  refine HL.stillG rfl rfl e70 (Runs.move p3) ?_
  intro u73 e73
  refine HL.oneG rfl rfl e70 (HO.call Tryz.func12 bd12 nm12 (args1 e73) rfl ((cLR b7 ((((Y1.tr Y2).tr Y4).tr Y5).tr Y7)).mono ?_))
  rintro _ b8 ⟨a8, c8, rfl, J8, Y8⟩
  intro u74 e74
  refine HL.oneG rfl rfl e70 (HO.call Tryz.func6 bd6 nm6 (args2 e72 e74) rfl ((sameC_ch b8 LL LL a7 a8 c7 c8 (J7.ext Y8).jvs J8.jvs hLi hLi rfl).mono ?_))
  rintro _ b9 ⟨rfl, rfl⟩
  intro u75 e75
  refine HL.still (Runs.pick e70 e75) ?_
  intro u76 e76
  refine HL.still (Runs.move e76) ?_
  intro u77 e77
  refine HL.stillG rfl rfl e77 (Runs.move p2) ?_
  intro u78 e78
  refine HL.stillG rfl rfl e77 (Runs.move p3) ?_
  intro u79 e79
  refine HL.oneG rfl rfl e77 (HO.call Tryz.func13 bd13 nm13 (args2 e78 e79) rfl ((cO b8 (((((Y1.tr Y2).tr Y4).tr Y5).tr Y7).tr Y8)).mono ?_))
  rintro _ b10 ⟨a10, c10, rfl, J10, Y10⟩
  intro u80 e80
  refine HL.stillG rfl rfl e77 (Runs.move p2) ?_
  intro u81 e81
  refine HL.stillG rfl rfl e77 (Runs.move p3) ?_
  intro u82 e82
  refine HL.oneG rfl rfl e77 (HO.call Tryz.func14 bd14 nm14 (args2 e81 e82) rfl ((cOR b10 ((((((Y1.tr Y2).tr Y4).tr Y5).tr Y7).tr Y8).tr Y10)).mono ?_))
  rintro _ b11 ⟨a11, c11, rfl, J11, Y11⟩
  intro u83 e83
  refine HL.oneG rfl rfl e77 (HO.call Tryz.func6 bd6 nm6 (args2 e80 e83) rfl ((sameC_ch b11 OO OO a10 a11 c10 c11 (J10.ext Y11).jvs J11.jvs hOi hOi rfl).mono ?_))
  rintro _ b12 ⟨rfl, rfl⟩
  intro u84 e84
  refine HL.still (Runs.pick e77 e84) ?_
  intro u85 e85
  refine HL.still (Runs.assign e85) ?_
  intro u8 e8
  refine HL.nil ?_
  refine HW.ret ?_
  exact RT.one rfl e8 ⟨rfl, X1.tr (((((((Y1.tr Y2).tr Y4).tr Y5).tr Y7).tr Y8).tr Y10).tr Y11)⟩
end Go.Proofs.YtjopikfkgjbcgaaGreatDoor
