/- What is set is got, what is dropped is not, other keys do not change: onionskinlaw12.JobjBack. -/
import Derived.Test.YtjopikfkgjbcgaaDoorKb
import Derived.Test.YtjopikfkgjbcgaaDoorKc
namespace Go.Proofs.YtjopikfkgjbcgaaDoor
set_option linter.unnecessarySimpa false
set_option linter.unusedSimpArgs false
set_option linter.unusedVariables false
open Go.RowKit
theorem OkJ.nil : OkJ [] := fun x hx => by cases hx
theorem OkJ.whole {l : List JV} (h : OkJ l) : OkJ (wholeO l) := by
  unfold wholeO
  split
  · exact h
  · exact OkJ.nil
theorem OkJ.set {l v : List JV} {key : List UInt8} (h : OkJ l) (k : OkJ v) (hk : key.length ≤ 140737488355328) : OkJ (setO l key v) := by
  by_cases hc : objO l = false ∨ rightO v = false
  · unfold setO; rw [if_pos hc]; exact OkJ.nil
  · have ho : objO l = true := by
      cases q : objO l with
      | true => rfl
      | false => exact absurd (.inl q) hc
    have hr : rightO l = true := by
      unfold objO at ho
      rw [Bool.and_eq_true] at ho
      exact ho.1
    have hlp := List.length_pos_iff.2 (right_ne hr)
    have hcl := count_le hr hlp
    have h5 := ((rightO_iff l).1 hr).1
    unfold setO
    rw [if_neg hc]
    split
    · exact ((h.take _).append ((k.named hk).append (h.drop _))).whole
    · refine ((h.append (k.named hk)).plus ?_).whole
      have e : (l ++ namedO v key).getD 0 zJ = l.getD 0 zJ := by
        cases l with
        | nil => cases hlp
        | cons y r => rfl
      rw [e]
      omega
theorem OkJ.dropO {l : List JV} {key : List UInt8} (h : OkJ l) : OkJ (dropO l key) := by
  unfold Proofs.YtjopikfkgjbcgaaDoor.dropO
  split
  · exact OkJ.nil
  · split
    · exact h
    · refine ((h.take _).append (h.drop _)).plus ?_
      cases hm : l.take (getO l 0 key).toNat ++ l.drop (endO l (getO l 0 key)).toNat with
      | nil => decide
      | cons y r =>
        have : y ∈ l.take (getO l 0 key).toNat ++ l.drop (endO l (getO l 0 key)).toNat := by rw [hm]; exact List.mem_cons_self ..
        have hy : y ∈ l := by
          rcases List.mem_append.1 this with q | q
          · exact List.mem_of_mem_take q
          · exact List.mem_of_mem_drop q
        have := (h y hy).2.2
        show y.2.2.2 + -1 ≤ _
        omega
set_option maxRecDepth 10000 in
set_option maxHeartbeats 8000000 in
theorem lawBack_ch (h : Heap) (l v0 : List JV) (a va : Option Addr) (cap vc : Nat) (key other : List UInt8) (hB : Jvs h a l) (hcap : l.length ≤ cap) (hl : l.length ≤ maxLen) (hz : InJ l) (hV : Jvs h va v0) (hvl : v0.length ≤ maxLen) (hzv : InJ v0) (hP : Plc h) :
    CH Tryd.prog 3 #[.slice a l.length cap, .string (strOf key), .slice va v0.length vc, .string (strOf other)] h fun v h' => v = .bool true ∧ Ext h h' := by
  refine CH.of_body Tryd.func3 rfl rfl rfl ?_
  intro f hf
  have p0 : f 0 = .slice a l.length cap := by rw [hf]; exact fr0_at rfl
  have p1 : f 1 = .string (strOf key) := by rw [hf]; exact fr0_at rfl
  have p2 : f 2 = .slice va v0.length vc := by rw [hf]; exact fr0_at rfl
  have p3 : f 3 = .string (strOf other) := by rw [hf]; exact fr0_at rfl
  -- region 0
  repeat refine HW.seq ?_
  refine HW.region ?_
  refine HL.still (Runs.assign rfl) ?_
  intro u8 e8
  refine HL.nil ?_
  -- region 1
  repeat refine HW.seq ?_
  refine HW.region ?_
  refine HL.one (HO.call Tryd.func7 bd7 nm7 (args0) rfl ((small_ch h hP).mono ?_))
  rintro _ h1 ⟨rfl, X1⟩
  intro u15 e15
  refine HL.still (Runs.assign e15) ?_
  intro u9 e9
  refine HL.nil ?_
  have g9 : u9 = .bool true := e9
  -- region 2
  repeat refine HW.seq ?_
  refine HW.region ?_
  refine HL.still (Runs.move p0) ?_
  intro u16 e16
  refine HL.one (HO.call Tryd.func8 bd8 nm8 (args1 e16) rfl ((fewC_ch h1 l a cap (hB.ext X1) hl hz).mono ?_))
  rintro _ h2 ⟨rfl, rfl⟩
  intro u17 e17
  refine HL.still (Runs.assign e17) ?_
  intro u10 e10
  refine HL.nil ?_
  have g10 : u10 = .bool (fewJ l) := e10
  -- region 3
  repeat refine HW.seq ?_
  refine HW.region ?_
  refine HL.still (Runs.move p2) ?_
  intro u18 e18
  refine HL.one (HO.call Tryd.func8 bd8 nm8 (args1 e18) rfl ((fewC_ch h1 v0 va vc (hV.ext X1) hvl hzv).mono ?_))
  rintro _ h2 ⟨rfl, rfl⟩
  intro u19 e19
  refine HL.still (Runs.assign e19) ?_
  intro u11 e11
  refine HL.nil ?_
  have g11 : u11 = .bool (fewJ v0) := e11
  refine HW.seq ?_
  refine HW.mono (N := fun f v => fewJ l = true ∧ fewJ v0 = true ∧ key.length ≤ 300 ∧ other.length ≤ 300 ∧ f 0 = .slice a l.length cap ∧ f 1 = .string (strOf key) ∧ f 2 = .slice va v0.length vc ∧ f 3 = .string (strOf other) ∧ f 9 = .bool true ∧ h1 = v) ?_ ?_ (fun _ _ _ q => q) (fun _ _ q => q)
  · repeat refine HW.seq ?_
    cases hfw : fewJ l with
    | false =>
      rw [hfw] at g10
      -- region 4
      repeat refine HW.seq ?_
      refine HW.region ?_
      refine HL.still (Runs.move g10) ?_
      intro u20 e20
      refine HL.still (Runs.notb e20 (u := true) rfl) ?_
      intro u21 e21
      refine HL.still (Runs.move e21) ?_
      intro u22 e22
      refine HL.skipG rfl rfl e22 ?_
      intro u23 e23
      refine HL.skipG rfl rfl e22 ?_
      intro u24 e24
      refine HL.still (Runs.pick e22 rfl) ?_
      intro u25 e25
      refine HL.still (Runs.move e25) ?_
      intro u26 e26
      refine HL.skipG rfl rfl e26 ?_
      intro u27 e27
      refine HL.skipG rfl rfl e26 ?_
      intro u28 e28
      refine HL.skipG rfl rfl e26 ?_
      intro u29 e29
      refine HL.still (Runs.pick e26 rfl) ?_
      intro u30 e30
      refine HL.still (Runs.move e30) ?_
      intro u31 e31
      refine HL.skipG rfl rfl e31 ?_
      intro u32 e32
      refine HL.skipG rfl rfl e31 ?_
      intro u33 e33
      refine HL.skipG rfl rfl e31 ?_
      intro u34 e34
      refine HL.still (Runs.pick e31 rfl) ?_
      intro u35 e35
      refine HL.nil ?_
      refine HW.yes e35 ?_
      -- region 5
      repeat refine HW.seq ?_
      refine HW.region ?_
      refine HL.still (Runs.move g9) ?_
      intro u36 e36
      refine HL.still (Runs.assign e36) ?_
      intro u8 e8
      refine HL.nil ?_
      refine HW.ret ?_
      exact RT.one rfl e8 ⟨rfl, X1⟩
    | true =>
      rw [hfw] at g10
      cases hfv : fewJ v0 with
      | false =>
        rw [hfv] at g11
        -- region 4
        repeat refine HW.seq ?_
        refine HW.region ?_
        refine HL.still (Runs.move g10) ?_
        intro u20 e20
        refine HL.still (Runs.notb e20 (u := false) rfl) ?_
        intro u21 e21
        refine HL.still (Runs.move e21) ?_
        intro u22 e22
        refine HL.stillG rfl rfl e22 (Runs.move g11) ?_
        intro u23 e23
        refine HL.stillG rfl rfl e22 (Runs.notb e23 (u := true) rfl) ?_
        intro u24 e24
        refine HL.still (Runs.pick e22 e24) ?_
        intro u25 e25
        refine HL.still (Runs.move e25) ?_
        intro u26 e26
        refine HL.skipG rfl rfl e26 ?_
        intro u27 e27
        refine HL.skipG rfl rfl e26 ?_
        intro u28 e28
        refine HL.skipG rfl rfl e26 ?_
        intro u29 e29
        refine HL.still (Runs.pick e26 rfl) ?_
        intro u30 e30
        refine HL.still (Runs.move e30) ?_
        intro u31 e31
        refine HL.skipG rfl rfl e31 ?_
        intro u32 e32
        refine HL.skipG rfl rfl e31 ?_
        intro u33 e33
        refine HL.skipG rfl rfl e31 ?_
        intro u34 e34
        refine HL.still (Runs.pick e31 rfl) ?_
        intro u35 e35
        refine HL.nil ?_
        refine HW.yes e35 ?_
        -- region 5
        repeat refine HW.seq ?_
        refine HW.region ?_
        refine HL.still (Runs.move g9) ?_
        intro u36 e36
        refine HL.still (Runs.assign e36) ?_
        intro u8 e8
        refine HL.nil ?_
        refine HW.ret ?_
        exact RT.one rfl e8 ⟨rfl, X1⟩
      | true =>
        rw [hfv] at g11
        by_cases hk : key.length > 300
        · skip
          -- region 4
          repeat refine HW.seq ?_
          refine HW.region ?_
          refine HL.still (Runs.move g10) ?_
          intro u20 e20
          refine HL.still (Runs.notb e20 (u := false) rfl) ?_
          intro u21 e21
          refine HL.still (Runs.move e21) ?_
          intro u22 e22
          refine HL.stillG rfl rfl e22 (Runs.move g11) ?_
          intro u23 e23
          refine HL.stillG rfl rfl e22 (Runs.notb e23 (u := false) rfl) ?_
          intro u24 e24
          refine HL.still (Runs.pick e22 e24) ?_
          intro u25 e25
          refine HL.still (Runs.move e25) ?_
          intro u26 e26
          refine HL.stillG rfl rfl e26 (Runs.move p1) ?_
          intro u27 e27
          refine HL.stillG rfl rfl e26 (Runs.lenS rfl Tryd.underlying9 e27) ?_
          intro u28 e28
          refine HL.stillG rfl rfl e26 (Runs.gtr e28 rfl (t := true) (decide_eq_true (by omega))) ?_
          intro u29 e29
          refine HL.still (Runs.pick e26 e29) ?_
          intro u30 e30
          refine HL.still (Runs.move e30) ?_
          intro u31 e31
          refine HL.skipG rfl rfl e31 ?_
          intro u32 e32
          refine HL.skipG rfl rfl e31 ?_
          intro u33 e33
          refine HL.skipG rfl rfl e31 ?_
          intro u34 e34
          refine HL.still (Runs.pick e31 rfl) ?_
          intro u35 e35
          refine HL.nil ?_
          refine HW.yes e35 ?_
          -- region 5
          repeat refine HW.seq ?_
          refine HW.region ?_
          refine HL.still (Runs.move g9) ?_
          intro u36 e36
          refine HL.still (Runs.assign e36) ?_
          intro u8 e8
          refine HL.nil ?_
          refine HW.ret ?_
          exact RT.one rfl e8 ⟨rfl, X1⟩
        · by_cases hko : other.length > 300
          · skip
            -- region 4
            repeat refine HW.seq ?_
            refine HW.region ?_
            refine HL.still (Runs.move g10) ?_
            intro u20 e20
            refine HL.still (Runs.notb e20 (u := false) rfl) ?_
            intro u21 e21
            refine HL.still (Runs.move e21) ?_
            intro u22 e22
            refine HL.stillG rfl rfl e22 (Runs.move g11) ?_
            intro u23 e23
            refine HL.stillG rfl rfl e22 (Runs.notb e23 (u := false) rfl) ?_
            intro u24 e24
            refine HL.still (Runs.pick e22 e24) ?_
            intro u25 e25
            refine HL.still (Runs.move e25) ?_
            intro u26 e26
            refine HL.stillG rfl rfl e26 (Runs.move p1) ?_
            intro u27 e27
            refine HL.stillG rfl rfl e26 (Runs.lenS rfl Tryd.underlying9 e27) ?_
            intro u28 e28
            refine HL.stillG rfl rfl e26 (Runs.gtr e28 rfl (t := false) (decide_eq_false (by omega))) ?_
            intro u29 e29
            refine HL.still (Runs.pick e26 e29) ?_
            intro u30 e30
            refine HL.still (Runs.move e30) ?_
            intro u31 e31
            refine HL.stillG rfl rfl e31 (Runs.move p3) ?_
            intro u32 e32
            refine HL.stillG rfl rfl e31 (Runs.lenS rfl Tryd.underlying9 e32) ?_
            intro u33 e33
            refine HL.stillG rfl rfl e31 (Runs.gtr e33 rfl (t := true) (decide_eq_true (by omega))) ?_
            intro u34 e34
            refine HL.still (Runs.pick e31 e34) ?_
            intro u35 e35
            refine HL.nil ?_
            refine HW.yes e35 ?_
            -- region 5
            repeat refine HW.seq ?_
            refine HW.region ?_
            refine HL.still (Runs.move g9) ?_
            intro u36 e36
            refine HL.still (Runs.assign e36) ?_
            intro u8 e8
            refine HL.nil ?_
            refine HW.ret ?_
            exact RT.one rfl e8 ⟨rfl, X1⟩
          · skip
            -- region 4
            repeat refine HW.seq ?_
            refine HW.region ?_
            refine HL.still (Runs.move g10) ?_
            intro u20 e20
            refine HL.still (Runs.notb e20 (u := false) rfl) ?_
            intro u21 e21
            refine HL.still (Runs.move e21) ?_
            intro u22 e22
            refine HL.stillG rfl rfl e22 (Runs.move g11) ?_
            intro u23 e23
            refine HL.stillG rfl rfl e22 (Runs.notb e23 (u := false) rfl) ?_
            intro u24 e24
            refine HL.still (Runs.pick e22 e24) ?_
            intro u25 e25
            refine HL.still (Runs.move e25) ?_
            intro u26 e26
            refine HL.stillG rfl rfl e26 (Runs.move p1) ?_
            intro u27 e27
            refine HL.stillG rfl rfl e26 (Runs.lenS rfl Tryd.underlying9 e27) ?_
            intro u28 e28
            refine HL.stillG rfl rfl e26 (Runs.gtr e28 rfl (t := false) (decide_eq_false (by omega))) ?_
            intro u29 e29
            refine HL.still (Runs.pick e26 e29) ?_
            intro u30 e30
            refine HL.still (Runs.move e30) ?_
            intro u31 e31
            refine HL.stillG rfl rfl e31 (Runs.move p3) ?_
            intro u32 e32
            refine HL.stillG rfl rfl e31 (Runs.lenS rfl Tryd.underlying9 e32) ?_
            intro u33 e33
            refine HL.stillG rfl rfl e31 (Runs.gtr e33 rfl (t := false) (decide_eq_false (by omega))) ?_
            intro u34 e34
            refine HL.still (Runs.pick e31 e34) ?_
            intro u35 e35
            refine HL.nil ?_
            refine HW.no e35 ?_
            refine HW.skip ?_
            exact ⟨rfl, rfl, by omega, by omega, p0, p1, p2, p3, g9, rfl⟩
  clear p0 p1 p2 p3 g9 g10 g11 e9 e10 e11
  rintro f v ⟨hfw, hfv, hk, hko, p0, p1, p2, p3, g9, rfl⟩
  obtain ⟨hl80, _⟩ := fewJ_of hfw
  obtain ⟨hv80, _⟩ := fewJ_of hfv
  have hOk := hz.ok
  have hOv := hzv.ok
  have hB1 := hB.ext X1
  have hsl := setO_le l key v0
  have hdl := dropO_le l key
  have hOs : OkJ (setO l key v0) := hOk.set hOv (by omega)
  have hOd : OkJ (dropO l key) := OkJ.dropO hOk
  have s1 := @set_right l v0 key
  have s2 := @set_get l v0 key
  have s3 := @set_other l v0 key other
  have s4 := @set_drop l v0 key
  have d1 := @drop_right l key
  have d2 := @drop_get l key
  have d3 := @drop_other l key other
  -- region 6
  repeat refine HW.seq ?_
  refine HW.region ?_
  refine HL.still (Runs.move p0) ?_
  intro u37 e37
  refine HL.still (Runs.move p1) ?_
  intro u38 e38
  refine HL.still (Runs.move p2) ?_
  intro u39 e39
  refine HL.one (HO.call Tryd.func9 bd9 nm9 (args3 e37 e38 e39) rfl ((set_ch h1 l v0 a va l.length cap v0.length vc key rfl hcap rfl hB1 (hV.ext X1) (hP.ext X1) (by omega) (by omega) hOk hOv (by omega)).mono ?_))
  rintro _ h5 ⟨sa, cs, rfl, Js5, X5⟩
  intro u40 e40
  refine HL.still (Runs.assign e40) ?_
  intro u12 e12
  refine HL.nil ?_
  have g12 := e12
  have X05 : Ext h h5 := X1.ext X5 (Nat.le_refl _)
  -- region 7
  repeat refine HW.seq ?_
  refine HW.region ?_
  refine HL.still (Runs.move p0) ?_
  intro u41 e41
  refine HL.still (Runs.move p1) ?_
  intro u42 e42
  refine HL.one (HO.call Tryd.func10 bd10 nm10 (args2 e41 e42) rfl ((drop_ch h5 l a l.length cap key rfl hcap (hB.ext X05) (hP.ext X05) (by omega) hOk).mono ?_))
  rintro _ h6 ⟨ad, cd, rfl, Jd6, X6⟩
  intro u43 e43
  refine HL.still (Runs.assign e43) ?_
  intro u13 e13
  refine HL.nil ?_
  have g13 := e13
  have X06 : Ext h h6 := X05.ext X6 (Nat.le_refl _)
  have Js6 := Js5.ext X6
  obtain ⟨S, hS⟩ : ∃ S, S = setO l key v0 := ⟨_, rfl⟩
  obtain ⟨D, hD⟩ : ∃ D, D = dropO l key := ⟨_, rfl⟩
  rw [← hS] at g12 Js6 hsl hOs s1 s2 s3 s4
  rw [← hD] at g13 Jd6 hdl hOd d1 d2 d3
  have hcs := Js6.2
  have hcd := Jd6.2
  have jS := Js6.jvs
  have jD := Jd6.jvs
  have hbase : h.size ≤ h6.size := X06.size
  clear e12 e13 Js5 X5 X6 X05 X1 hB1 hS hD
  -- contracts, wherever the heap has grown to
  have cRs : ∀ u, Ext h6 u → CH Tryd.prog 11 #[.slice sa S.length cs] u fun v h' => v = .bool (rightO S) ∧ Ext u h' := fun u X => right_ch u S sa S.length cs rfl (jS.ext X) (hP.ext (X06.ext X (Nat.le_refl _))) (by omega) hOs
  have cGs : ∀ u k, Ext h6 u → CH Tryd.prog 14 #[.slice sa S.length cs, I64 0, .string (strOf k)] u fun v h' => v = I64 (getO S 0 k) ∧ Ext u h' := fun u k X => get_ch u S sa S.length cs 0 k rfl (jS.ext X) (hP.ext (X06.ext X (Nat.le_refl _))) (by omega) hOs
  have cCs : ∀ u p, Ext h6 u → CH Tryd.prog 13 #[.slice sa S.length cs, I64 p] u fun v h' => ∃ a' c', v = .slice a' (cutO S p).length c' ∧ Js h' u.size a' c' (cutO S p) ∧ Ext u h' := fun u p X => cut_ch u S sa S.length cs p rfl hcs (jS.ext X) (hP.ext (X06.ext X (Nat.le_refl _))) (by omega) hOs
  have cRd : ∀ u, Ext h6 u → CH Tryd.prog 11 #[.slice ad D.length cd] u fun v h' => v = .bool (rightO D) ∧ Ext u h' := fun u X => right_ch u D ad D.length cd rfl (jD.ext X) (hP.ext (X06.ext X (Nat.le_refl _))) (by omega) hOd
  have cGd : ∀ u k, Ext h6 u → CH Tryd.prog 14 #[.slice ad D.length cd, I64 0, .string (strOf k)] u fun v h' => v = I64 (getO D 0 k) ∧ Ext u h' := fun u k X => get_ch u D ad D.length cd 0 k rfl (jD.ext X) (hP.ext (X06.ext X (Nat.le_refl _))) (by omega) hOd
  have cCd : ∀ u p, Ext h6 u → CH Tryd.prog 13 #[.slice ad D.length cd, I64 p] u fun v h' => ∃ a' c', v = .slice a' (cutO D p).length c' ∧ Js h' u.size a' c' (cutO D p) ∧ Ext u h' := fun u p X => cut_ch u D ad D.length cd p rfl hcd (jD.ext X) (hP.ext (X06.ext X (Nat.le_refl _))) (by omega) hOd
  have cGl : ∀ u k, Ext h6 u → CH Tryd.prog 14 #[.slice a l.length cap, I64 0, .string (strOf k)] u fun v h' => v = I64 (getO l 0 k) ∧ Ext u h' := fun u k X => get_ch u l a l.length cap 0 k rfl (hB.ext (X06.ext X (Nat.le_refl _))) (hP.ext (X06.ext X (Nat.le_refl _))) (by omega) hOk
  have cCl : ∀ u p, Ext h6 u → CH Tryd.prog 13 #[.slice a l.length cap, I64 p] u fun v h' => ∃ a' c', v = .slice a' (cutO l p).length c' ∧ Js h' u.size a' c' (cutO l p) ∧ Ext u h' := fun u p X => cut_ch u l a l.length cap p rfl hcap (hB.ext (X06.ext X (Nat.le_refl _))) (hP.ext (X06.ext X (Nat.le_refl _))) (by omega) hOk
  have lS : ∀ p, (cutO S p).length ≤ 1000 := fun p => by have := cutO_le S p; omega
  have lD : ∀ p, (cutO D p).length ≤ 1000 := fun p => by have := cutO_le D p; omega
  have lL : ∀ p, (cutO l p).length ≤ 1000 := fun p => by have := cutO_le l p; omega
  -- what was set is got
  refine HW.seq ?_
  refine HW.mono (N := fun f v => f 0 = .slice a l.length cap ∧ f 1 = .string (strOf key) ∧ f 2 = .slice va v0.length vc ∧ f 3 = .string (strOf other) ∧ f 9 = .bool true ∧ f 12 = .slice sa S.length cs ∧ f 13 = .slice ad D.length cd ∧ Ext h6 v) ?_ ?_ (fun _ _ _ q => q) (fun _ _ q => q)
  · repeat refine HW.seq ?_
    by_cases hs0 : S = []
    · have hlS : S.length = 0 := by rw [hs0]; rfl
      -- region 8
      repeat refine HW.seq ?_
      refine HW.region ?_
      refine HL.still (Runs.move g12) ?_
      intro u44 e44
      refine HL.still (Runs.lenSl rfl Tryd.underlying22 e44) ?_
      intro u45 e45
      refine HL.still (Runs.gtr e45 rfl (t := false) (decide_eq_false (by omega))) ?_
      intro u46 e46
      refine HL.still (Runs.move e46) ?_
      intro u47 e47
      refine HL.skipG rfl rfl e47 ?_
      intro u48 e48
      refine HL.skipG rfl rfl e47 ?_
      intro u49 e49
      refine HL.skipG rfl rfl e47 ?_
      intro u50 e50
      refine HL.skipG rfl rfl e47 ?_
      intro u51 e51
      refine HL.skipU rfl rfl e51 ?_
      intro u52 e52
      refine HL.skipU rfl rfl e51 ?_
      intro u53 e53
      refine HL.skipU rfl rfl e51 ?_
      intro u54 e54
      refine HL.skipU rfl rfl e51 ?_
      intro u55 e55
      refine HL.skipU rfl rfl e51 ?_
      intro u56 e56
      refine HL.skipU rfl rfl e51 ?_
      intro u57 e57
      refine HL.skipU rfl rfl e51 ?_
      intro u58 e58
      refine HL.skipU rfl rfl e51 ?_
      intro u59 e59
      refine HL.skipG rfl rfl e47 ?_
      intro u60 e60
      refine HL.still (Runs.pick e47 rfl) ?_
      intro u61 e61
      refine HL.nil ?_
      refine HW.no e61 ?_
      refine HW.skip ?_
      exact ⟨p0, p1, p2, p3, g9, g12, g13, Bel.refl _ _⟩
    · have hlS : 0 < S.length := List.length_pos_iff.2 hs0
      have q1 := cRs h6 (Bel.refl _ _)
      rw [s1 hs0] at q1
      have q2 := s2 hs0
      -- region 8
      repeat refine HW.seq ?_
      refine HW.region ?_
      refine HL.still (Runs.move g12) ?_
      intro u44 e44
      refine HL.still (Runs.lenSl rfl Tryd.underlying22 e44) ?_
      intro u45 e45
      refine HL.still (Runs.gtr e45 rfl (t := true) (decide_eq_true (by omega))) ?_
      intro u46 e46
      refine HL.still (Runs.move e46) ?_
      intro u47 e47
      refine HL.stillG rfl rfl e47 (Runs.move g12) ?_
      intro u48 e48
      refine HL.oneG rfl rfl e47 (HO.call Tryd.func11 bd11 nm11 (args1 e48) rfl ((q1).mono ?_))
      rintro _ b1 ⟨rfl, Y1⟩
      intro u49 e49
      refine HL.stillG rfl rfl e47 (Runs.notb e49 (u := false) rfl) ?_
      intro u50 e50
      refine HL.stillG rfl rfl e47 (Runs.move e50) ?_
      intro u51 e51
      refine HL.stillG rfl rfl e51 (Runs.move g12) ?_
      intro u52 e52
      refine HL.stillG rfl rfl e51 (Runs.move g12) ?_
      intro u53 e53
      refine HL.stillG rfl rfl e51 (Runs.move p1) ?_
      intro u54 e54
      refine HL.oneG rfl rfl e51 (HO.call Tryd.func14 bd14 nm14 (args3 e53 rfl e54) rfl ((cGs b1 key Y1).mono ?_))
      rintro _ b2 ⟨rfl, Y2⟩
      intro u55 e55
      refine HL.oneG rfl rfl e51 (HO.call Tryd.func13 bd13 nm13 (args2 e52 e55) rfl ((cCs b2 _ (Y1.ext Y2 (Nat.le_refl _))).mono ?_))
      rintro _ b3 ⟨a3, c3, rfl, J3, Y3⟩
      intro u56 e56
      refine HL.stillG rfl rfl e51 (Runs.move p2) ?_
      intro u57 e57
      refine HL.oneG rfl rfl e51 (HO.call Tryd.func12 bd12 nm12 (args2 e56 e57) rfl ((sameC_ch b3 (cutO S (getO S 0 key)) v0 a3 va c3 vc J3.jvs (hV.ext (X06.ext ((Y1.ext Y2 (Nat.le_refl _)).ext Y3 (Nat.le_refl _)) (Nat.le_refl _))) (Nat.le_trans (lS _) (by decide)) (by omega) q2).mono ?_))
      rintro _ b4 ⟨rfl, rfl⟩
      intro u58 e58
      refine HL.stillG rfl rfl e51 (Runs.notb e58 (u := false) rfl) ?_
      intro u59 e59
      refine HL.stillG rfl rfl e47 (Runs.pick e51 e59) ?_
      intro u60 e60
      refine HL.still (Runs.pick e47 e60) ?_
      intro u61 e61
      refine HL.nil ?_
      refine HW.no e61 ?_
      refine HW.skip ?_
      exact ⟨p0, p1, p2, p3, g9, g12, g13, (Y1.ext Y2 (Nat.le_refl _)).ext Y3 (Nat.le_refl _)⟩
  clear p0 p1 p2 p3 g9 g12 g13
  rintro f v7 ⟨p0, p1, p2, p3, g9, g12, g13, X7⟩
  -- what was dropped is not
  refine HW.seq ?_
  refine HW.mono (N := fun f v => f 0 = .slice a l.length cap ∧ f 1 = .string (strOf key) ∧ f 2 = .slice va v0.length vc ∧ f 3 = .string (strOf other) ∧ f 9 = .bool true ∧ f 12 = .slice sa S.length cs ∧ f 13 = .slice ad D.length cd ∧ Ext h6 v) ?_ ?_ (fun _ _ _ q => q) (fun _ _ q => q)
  · repeat refine HW.seq ?_
    by_cases hs0 : D = []
    · have hlS : D.length = 0 := by rw [hs0]; rfl
      -- region 10
      repeat refine HW.seq ?_
      refine HW.region ?_
      refine HL.still (Runs.move g13) ?_
      intro u62 e62
      refine HL.still (Runs.lenSl rfl Tryd.underlying22 e62) ?_
      intro u63 e63
      refine HL.still (Runs.gtr e63 rfl (t := false) (decide_eq_false (by omega))) ?_
      intro u64 e64
      refine HL.still (Runs.move e64) ?_
      intro u65 e65
      refine HL.skipG rfl rfl e65 ?_
      intro u66 e66
      refine HL.skipG rfl rfl e65 ?_
      intro u67 e67
      refine HL.skipG rfl rfl e65 ?_
      intro u68 e68
      refine HL.skipG rfl rfl e65 ?_
      intro u69 e69
      refine HL.skipU rfl rfl e69 ?_
      intro u70 e70
      refine HL.skipU rfl rfl e69 ?_
      intro u71 e71
      refine HL.skipU rfl rfl e69 ?_
      intro u72 e72
      refine HL.skipU rfl rfl e69 ?_
      intro u73 e73
      refine HL.skipG rfl rfl e65 ?_
      intro u74 e74
      refine HL.still (Runs.pick e65 rfl) ?_
      intro u75 e75
      refine HL.nil ?_
      refine HW.no e75 ?_
      refine HW.skip ?_
      exact ⟨p0, p1, p2, p3, g9, g12, g13, X7⟩
    · have hlS : 0 < D.length := List.length_pos_iff.2 hs0
      have q1 := cRd v7 X7
      rw [d1 hs0] at q1
      have q2 : ∀ u, Ext h6 u → CH Tryd.prog 14 #[.slice ad D.length cd, I64 0, .string (strOf key)] u fun v h' => v = I64 (-1) ∧ Ext u h' := fun u X => by
        have := cGd u key X
        rwa [d2 hs0] at this
      -- region 10
      repeat refine HW.seq ?_
      refine HW.region ?_
      refine HL.still (Runs.move g13) ?_
      intro u62 e62
      refine HL.still (Runs.lenSl rfl Tryd.underlying22 e62) ?_
      intro u63 e63
      refine HL.still (Runs.gtr e63 rfl (t := true) (decide_eq_true (by omega))) ?_
      intro u64 e64
      refine HL.still (Runs.move e64) ?_
      intro u65 e65
      refine HL.stillG rfl rfl e65 (Runs.move g13) ?_
      intro u66 e66
      refine HL.oneG rfl rfl e65 (HO.call Tryd.func11 bd11 nm11 (args1 e66) rfl ((q1).mono ?_))
      rintro _ b1 ⟨rfl, Y1⟩
      intro u67 e67
      refine HL.stillG rfl rfl e65 (Runs.notb e67 (u := false) rfl) ?_
      intro u68 e68
      refine HL.stillG rfl rfl e65 (Runs.move e68) ?_
      intro u69 e69
      refine HL.stillG rfl rfl e69 (Runs.move g13) ?_
      intro u70 e70
      refine HL.stillG rfl rfl e69 (Runs.move p1) ?_
      intro u71 e71
      refine HL.oneG rfl rfl e69 (HO.call Tryd.func14 bd14 nm14 (args3 e70 rfl e71) rfl ((q2 b1 (X7.ext Y1 (Nat.le_refl _))).mono ?_))
      rintro _ b2 ⟨rfl, Y2⟩
      intro u72 e72
      refine HL.stillG rfl rfl e69 (Runs.neq e72 rfl (t := false) rfl) ?_
      intro u73 e73
      refine HL.stillG rfl rfl e65 (Runs.pick e69 e73) ?_
      intro u74 e74
      refine HL.still (Runs.pick e65 e74) ?_
      intro u75 e75
      refine HL.nil ?_
      refine HW.no e75 ?_
      refine HW.skip ?_
      exact ⟨p0, p1, p2, p3, g9, g12, g13, (X7.ext Y1 (Nat.le_refl _)).ext Y2 (Nat.le_refl _)⟩
  clear p0 p1 p2 p3 g9 g12 g13 X7
  rintro f v8 ⟨p0, p1, p2, p3, g9, g12, g13, X8⟩
  by_cases hne : other = key
  · skip
    -- region 12
    repeat refine HW.seq ?_
    refine HW.region ?_
    refine HL.still (Runs.move p3) ?_
    intro u76 e76
    refine HL.still (Runs.move p1) ?_
    intro u77 e77
    refine HL.still (Runs.eqS e76 e77 (t := true) (by rw [hne]; simp)) ?_
    intro u78 e78
    refine HL.nil ?_
    refine HW.yes e78 ?_
    -- region 13
    repeat refine HW.seq ?_
    refine HW.region ?_
    refine HL.still (Runs.move g9) ?_
    intro u79 e79
    refine HL.still (Runs.assign e79) ?_
    intro u8 e8
    refine HL.nil ?_
    refine HW.ret ?_
    exact RT.one rfl e8 ⟨rfl, X06.ext X8 (Nat.le_refl _)⟩
  · skip
    -- region 12
    repeat refine HW.seq ?_
    refine HW.region ?_
    refine HL.still (Runs.move p3) ?_
    intro u76 e76
    refine HL.still (Runs.move p1) ?_
    intro u77 e77
    refine HL.still (Runs.eqS e76 e77 (t := false) (by simpa using hne)) ?_
    intro u78 e78
    refine HL.nil ?_
    refine HW.no e78 ?_
    refine HW.skip ?_
    -- region 14
    repeat refine HW.seq ?_
    refine HW.region ?_
    refine HL.still (Runs.move p0) ?_
    intro u80 e80
    refine HL.still (Runs.move p0) ?_
    intro u81 e81
    refine HL.still (Runs.move p3) ?_
    intro u82 e82
    refine HL.one (HO.call Tryd.func14 bd14 nm14 (args3 e81 rfl e82) rfl ((cGl v8 other X8).mono ?_))
    rintro _ b1 ⟨rfl, Y1⟩
    intro u83 e83
    refine HL.one (HO.call Tryd.func13 bd13 nm13 (args2 e80 e83) rfl ((cCl b1 _ (X8.ext Y1 (Nat.le_refl _))).mono ?_))
    rintro _ b2 ⟨ax, cx, rfl, Jx, Y2⟩
    intro u84 e84
    refine HL.still (Runs.assign e84) ?_
    intro u14 e14
    refine HL.nil ?_
    have g14 := e14
    have X9 : Ext h6 b2 := (X8.ext Y1 (Nat.le_refl _)).ext Y2 (Nat.le_refl _)
    clear e14 X8 Y1 Y2
    -- other keys do not change
    refine HW.seq ?_
    refine HW.mono (N := fun f v => f 0 = .slice a l.length cap ∧ f 1 = .string (strOf key) ∧ f 9 = .bool true ∧ f 12 = .slice sa S.length cs ∧ Ext h6 v) ?_ ?_ (fun _ _ _ q => q) (fun _ _ q => q)
    · repeat refine HW.seq ?_
      by_cases hs0 : S = []
      · have hlS : S.length = 0 := by rw [hs0]; rfl
        by_cases hd0 : D = []
        · have hlD : D.length = 0 := by rw [hd0]; rfl
          -- region 15
          repeat refine HW.seq ?_
          refine HW.region ?_
          refine HL.still (Runs.move g12) ?_
          intro u85 e85
          refine HL.still (Runs.lenSl rfl Tryd.underlying22 e85) ?_
          intro u86 e86
          refine HL.still (Runs.gtr e86 rfl (t := false) (decide_eq_false (by omega))) ?_
          intro u87 e87
          refine HL.still (Runs.move e87) ?_
          intro u88 e88
          refine HL.skipG rfl rfl e88 ?_
          intro u89 e89
          refine HL.skipG rfl rfl e88 ?_
          intro u90 e90
          refine HL.skipG rfl rfl e88 ?_
          intro u91 e91
          refine HL.skipG rfl rfl e88 ?_
          intro u92 e92
          refine HL.skipG rfl rfl e88 ?_
          intro u93 e93
          refine HL.skipG rfl rfl e88 ?_
          intro u94 e94
          refine HL.skipG rfl rfl e88 ?_
          intro u95 e95
          refine HL.skipG rfl rfl e88 ?_
          intro u96 e96
          refine HL.still (Runs.pick e88 rfl) ?_
          intro u97 e97
          refine HL.still (Runs.move e97) ?_
          intro u98 e98
          refine HL.stillG rfl rfl e98 (Runs.move g13) ?_
          intro u99 e99
          refine HL.stillG rfl rfl e98 (Runs.lenSl rfl Tryd.underlying22 e99) ?_
          intro u100 e100
          refine HL.stillG rfl rfl e98 (Runs.gtr e100 rfl (t := false) (decide_eq_false (by omega))) ?_
          intro u101 e101
          refine HL.stillG rfl rfl e98 (Runs.move e101) ?_
          intro u102 e102
          refine HL.skipG rfl rfl e102 ?_
          intro u103 e103
          refine HL.skipG rfl rfl e102 ?_
          intro u104 e104
          refine HL.skipG rfl rfl e102 ?_
          intro u105 e105
          refine HL.skipG rfl rfl e102 ?_
          intro u106 e106
          refine HL.skipG rfl rfl e102 ?_
          intro u107 e107
          refine HL.skipG rfl rfl e102 ?_
          intro u108 e108
          refine HL.skipG rfl rfl e102 ?_
          intro u109 e109
          refine HL.skipG rfl rfl e102 ?_
          intro u110 e110
          refine HL.stillG rfl rfl e98 (Runs.pick e102 rfl) ?_
          intro u111 e111
          refine HL.still (Runs.pick e98 e111) ?_
          intro u112 e112
          refine HL.nil ?_
          refine HW.no e112 ?_
          refine HW.skip ?_
          exact ⟨p0, p1, g9, g12, X9⟩
        · have hlD : 0 < D.length := List.length_pos_iff.2 hd0
          have q2 := d3 hd0 hne
          -- region 15
          repeat refine HW.seq ?_
          refine HW.region ?_
          refine HL.still (Runs.move g12) ?_
          intro u85 e85
          refine HL.still (Runs.lenSl rfl Tryd.underlying22 e85) ?_
          intro u86 e86
          refine HL.still (Runs.gtr e86 rfl (t := false) (decide_eq_false (by omega))) ?_
          intro u87 e87
          refine HL.still (Runs.move e87) ?_
          intro u88 e88
          refine HL.skipG rfl rfl e88 ?_
          intro u89 e89
          refine HL.skipG rfl rfl e88 ?_
          intro u90 e90
          refine HL.skipG rfl rfl e88 ?_
          intro u91 e91
          refine HL.skipG rfl rfl e88 ?_
          intro u92 e92
          refine HL.skipG rfl rfl e88 ?_
          intro u93 e93
          refine HL.skipG rfl rfl e88 ?_
          intro u94 e94
          refine HL.skipG rfl rfl e88 ?_
          intro u95 e95
          refine HL.skipG rfl rfl e88 ?_
          intro u96 e96
          refine HL.still (Runs.pick e88 rfl) ?_
          intro u97 e97
          refine HL.still (Runs.move e97) ?_
          intro u98 e98
          refine HL.stillG rfl rfl e98 (Runs.move g13) ?_
          intro u99 e99
          refine HL.stillG rfl rfl e98 (Runs.lenSl rfl Tryd.underlying22 e99) ?_
          intro u100 e100
          refine HL.stillG rfl rfl e98 (Runs.gtr e100 rfl (t := true) (decide_eq_true (by omega))) ?_
          intro u101 e101
          refine HL.stillG rfl rfl e98 (Runs.move e101) ?_
          intro u102 e102
          refine HL.stillG rfl rfl e102 (Runs.move g13) ?_
          intro u103 e103
          refine HL.stillG rfl rfl e102 (Runs.move g13) ?_
          intro u104 e104
          refine HL.stillG rfl rfl e102 (Runs.move p3) ?_
          intro u105 e105
          refine HL.oneG rfl rfl e102 (HO.call Tryd.func14 bd14 nm14 (args3 e104 rfl e105) rfl ((cGd b2 other X9).mono ?_))
          rintro _ b3 ⟨rfl, Y3⟩
          intro u106 e106
          refine HL.oneG rfl rfl e102 (HO.call Tryd.func13 bd13 nm13 (args2 e103 e106) rfl ((cCd b3 _ (X9.ext Y3 (Nat.le_refl _))).mono ?_))
          rintro _ b4 ⟨a4, c4, rfl, J4, Y4⟩
          intro u107 e107
          refine HL.stillG rfl rfl e102 (Runs.move g14) ?_
          intro u108 e108
          refine HL.oneG rfl rfl e102 (HO.call Tryd.func12 bd12 nm12 (args2 e107 e108) rfl ((sameC_ch b4 (cutO D (getO D 0 other)) (cutO l (getO l 0 other)) a4 ax c4 cx J4.jvs ((Jx.ext Y3).ext Y4).jvs (Nat.le_trans (lD _) (by decide)) (Nat.le_trans (lL _) (by decide)) q2).mono ?_))
          rintro _ b5 ⟨rfl, rfl⟩
          intro u109 e109
          refine HL.stillG rfl rfl e102 (Runs.notb e109 (u := false) rfl) ?_
          intro u110 e110
          refine HL.stillG rfl rfl e98 (Runs.pick e102 e110) ?_
          intro u111 e111
          refine HL.still (Runs.pick e98 e111) ?_
          intro u112 e112
          refine HL.nil ?_
          refine HW.no e112 ?_
          refine HW.skip ?_
          exact ⟨p0, p1, g9, g12, (X9.ext Y3 (Nat.le_refl _)).ext Y4 (Nat.le_refl _)⟩
      · have hlS : 0 < S.length := List.length_pos_iff.2 hs0
        have q1 := s3 hs0 hne
        by_cases hd0 : D = []
        · have hlD : D.length = 0 := by rw [hd0]; rfl
          -- region 15
          repeat refine HW.seq ?_
          refine HW.region ?_
          refine HL.still (Runs.move g12) ?_
          intro u85 e85
          refine HL.still (Runs.lenSl rfl Tryd.underlying22 e85) ?_
          intro u86 e86
          refine HL.still (Runs.gtr e86 rfl (t := true) (decide_eq_true (by omega))) ?_
          intro u87 e87
          refine HL.still (Runs.move e87) ?_
          intro u88 e88
          refine HL.stillG rfl rfl e88 (Runs.move g12) ?_
          intro u89 e89
          refine HL.stillG rfl rfl e88 (Runs.move g12) ?_
          intro u90 e90
          refine HL.stillG rfl rfl e88 (Runs.move p3) ?_
          intro u91 e91
          refine HL.oneG rfl rfl e88 (HO.call Tryd.func14 bd14 nm14 (args3 e90 rfl e91) rfl ((cGs b2 other X9).mono ?_))
          rintro _ b3 ⟨rfl, Y3⟩
          intro u92 e92
          refine HL.oneG rfl rfl e88 (HO.call Tryd.func13 bd13 nm13 (args2 e89 e92) rfl ((cCs b3 _ (X9.ext Y3 (Nat.le_refl _))).mono ?_))
          rintro _ b4 ⟨a4, c4, rfl, J4, Y4⟩
          intro u93 e93
          refine HL.stillG rfl rfl e88 (Runs.move g14) ?_
          intro u94 e94
          refine HL.oneG rfl rfl e88 (HO.call Tryd.func12 bd12 nm12 (args2 e93 e94) rfl ((sameC_ch b4 (cutO S (getO S 0 other)) (cutO l (getO l 0 other)) a4 ax c4 cx J4.jvs ((Jx.ext Y3).ext Y4).jvs (Nat.le_trans (lS _) (by decide)) (Nat.le_trans (lL _) (by decide)) q1).mono ?_))
          rintro _ b5 ⟨rfl, rfl⟩
          intro u95 e95
          refine HL.stillG rfl rfl e88 (Runs.notb e95 (u := false) rfl) ?_
          intro u96 e96
          refine HL.still (Runs.pick e88 e96) ?_
          intro u97 e97
          refine HL.still (Runs.move e97) ?_
          intro u98 e98
          refine HL.stillG rfl rfl e98 (Runs.move g13) ?_
          intro u99 e99
          refine HL.stillG rfl rfl e98 (Runs.lenSl rfl Tryd.underlying22 e99) ?_
          intro u100 e100
          refine HL.stillG rfl rfl e98 (Runs.gtr e100 rfl (t := false) (decide_eq_false (by omega))) ?_
          intro u101 e101
          refine HL.stillG rfl rfl e98 (Runs.move e101) ?_
          intro u102 e102
          refine HL.skipG rfl rfl e102 ?_
          intro u103 e103
          refine HL.skipG rfl rfl e102 ?_
          intro u104 e104
          refine HL.skipG rfl rfl e102 ?_
          intro u105 e105
          refine HL.skipG rfl rfl e102 ?_
          intro u106 e106
          refine HL.skipG rfl rfl e102 ?_
          intro u107 e107
          refine HL.skipG rfl rfl e102 ?_
          intro u108 e108
          refine HL.skipG rfl rfl e102 ?_
          intro u109 e109
          refine HL.skipG rfl rfl e102 ?_
          intro u110 e110
          refine HL.stillG rfl rfl e98 (Runs.pick e102 rfl) ?_
          intro u111 e111
          refine HL.still (Runs.pick e98 e111) ?_
          intro u112 e112
          refine HL.nil ?_
          refine HW.no e112 ?_
          refine HW.skip ?_
          exact ⟨p0, p1, g9, g12, (X9.ext Y3 (Nat.le_refl _)).ext Y4 (Nat.le_refl _)⟩
        · have hlD : 0 < D.length := List.length_pos_iff.2 hd0
          have q2 := d3 hd0 hne
          -- region 15
          repeat refine HW.seq ?_
          refine HW.region ?_
          refine HL.still (Runs.move g12) ?_
          intro u85 e85
          refine HL.still (Runs.lenSl rfl Tryd.underlying22 e85) ?_
          intro u86 e86
          refine HL.still (Runs.gtr e86 rfl (t := true) (decide_eq_true (by omega))) ?_
          intro u87 e87
          refine HL.still (Runs.move e87) ?_
          intro u88 e88
          refine HL.stillG rfl rfl e88 (Runs.move g12) ?_
          intro u89 e89
          refine HL.stillG rfl rfl e88 (Runs.move g12) ?_
          intro u90 e90
          refine HL.stillG rfl rfl e88 (Runs.move p3) ?_
          intro u91 e91
          refine HL.oneG rfl rfl e88 (HO.call Tryd.func14 bd14 nm14 (args3 e90 rfl e91) rfl ((cGs b2 other X9).mono ?_))
          rintro _ b3 ⟨rfl, Y3⟩
          intro u92 e92
          refine HL.oneG rfl rfl e88 (HO.call Tryd.func13 bd13 nm13 (args2 e89 e92) rfl ((cCs b3 _ (X9.ext Y3 (Nat.le_refl _))).mono ?_))
          rintro _ b4 ⟨a4, c4, rfl, J4, Y4⟩
          intro u93 e93
          refine HL.stillG rfl rfl e88 (Runs.move g14) ?_
          intro u94 e94
          refine HL.oneG rfl rfl e88 (HO.call Tryd.func12 bd12 nm12 (args2 e93 e94) rfl ((sameC_ch b4 (cutO S (getO S 0 other)) (cutO l (getO l 0 other)) a4 ax c4 cx J4.jvs ((Jx.ext Y3).ext Y4).jvs (Nat.le_trans (lS _) (by decide)) (Nat.le_trans (lL _) (by decide)) q1).mono ?_))
          rintro _ b5 ⟨rfl, rfl⟩
          intro u95 e95
          refine HL.stillG rfl rfl e88 (Runs.notb e95 (u := false) rfl) ?_
          intro u96 e96
          refine HL.still (Runs.pick e88 e96) ?_
          intro u97 e97
          refine HL.still (Runs.move e97) ?_
          intro u98 e98
          refine HL.stillG rfl rfl e98 (Runs.move g13) ?_
          intro u99 e99
          refine HL.stillG rfl rfl e98 (Runs.lenSl rfl Tryd.underlying22 e99) ?_
          intro u100 e100
          refine HL.stillG rfl rfl e98 (Runs.gtr e100 rfl (t := true) (decide_eq_true (by omega))) ?_
          intro u101 e101
          refine HL.stillG rfl rfl e98 (Runs.move e101) ?_
          intro u102 e102
          refine HL.stillG rfl rfl e102 (Runs.move g13) ?_
          intro u103 e103
          refine HL.stillG rfl rfl e102 (Runs.move g13) ?_
          intro u104 e104
          refine HL.stillG rfl rfl e102 (Runs.move p3) ?_
          intro u105 e105
          refine HL.oneG rfl rfl e102 (HO.call Tryd.func14 bd14 nm14 (args3 e104 rfl e105) rfl ((cGd b4 other ((X9.ext Y3 (Nat.le_refl _)).ext Y4 (Nat.le_refl _))).mono ?_))
          rintro _ b5 ⟨rfl, Y5⟩
          intro u106 e106
          refine HL.oneG rfl rfl e102 (HO.call Tryd.func13 bd13 nm13 (args2 e103 e106) rfl ((cCd b5 _ (((X9.ext Y3 (Nat.le_refl _)).ext Y4 (Nat.le_refl _)).ext Y5 (Nat.le_refl _))).mono ?_))
          rintro _ b6 ⟨a6, c6, rfl, J6, Y6⟩
          intro u107 e107
          refine HL.stillG rfl rfl e102 (Runs.move g14) ?_
          intro u108 e108
          refine HL.oneG rfl rfl e102 (HO.call Tryd.func12 bd12 nm12 (args2 e107 e108) rfl ((sameC_ch b6 (cutO D (getO D 0 other)) (cutO l (getO l 0 other)) a6 ax c6 cx J6.jvs ((((Jx.ext Y3).ext Y4).ext Y5).ext Y6).jvs (Nat.le_trans (lD _) (by decide)) (Nat.le_trans (lL _) (by decide)) q2).mono ?_))
          rintro _ b7 ⟨rfl, rfl⟩
          intro u109 e109
          refine HL.stillG rfl rfl e102 (Runs.notb e109 (u := false) rfl) ?_
          intro u110 e110
          refine HL.stillG rfl rfl e98 (Runs.pick e102 e110) ?_
          intro u111 e111
          refine HL.still (Runs.pick e98 e111) ?_
          intro u112 e112
          refine HL.nil ?_
          refine HW.no e112 ?_
          refine HW.skip ?_
          exact ⟨p0, p1, g9, g12, (((X9.ext Y3 (Nat.le_refl _)).ext Y4 (Nat.le_refl _)).ext Y5 (Nat.le_refl _)).ext Y6 (Nat.le_refl _)⟩
    clear p0 p1 p2 p3 g9 g12 g13 g14 X9
    rintro f v10 ⟨p0, p1, g9, g12, X10⟩
    -- what was set anew and is dropped again
    refine HW.seq ?_
    refine HW.mono (N := fun f v => f 9 = .bool true ∧ Ext h6 v) ?_ ?_ (fun _ _ _ q => q) (fun _ _ q => q)
    · repeat refine HW.seq ?_
      by_cases hs0 : S = []
      · have hlS : S.length = 0 := by rw [hs0]; rfl
        -- region 17
        repeat refine HW.seq ?_
        refine HW.region ?_
        refine HL.still (Runs.move g12) ?_
        intro u113 e113
        refine HL.still (Runs.lenSl rfl Tryd.underlying22 e113) ?_
        intro u114 e114
        refine HL.still (Runs.gtr e114 rfl (t := false) (decide_eq_false (by omega))) ?_
        intro u115 e115
        refine HL.still (Runs.move e115) ?_
        intro u116 e116
        refine HL.skipG rfl rfl e116 ?_
        intro u117 e117
        refine HL.skipG rfl rfl e116 ?_
        intro u118 e118
        refine HL.skipG rfl rfl e116 ?_
        intro u119 e119
        refine HL.skipG rfl rfl e116 ?_
        intro u120 e120
        refine HL.still (Runs.pick e116 rfl) ?_
        intro u121 e121
        refine HL.nil ?_
        refine HW.no e121 ?_
        refine HW.skip ?_
        exact ⟨g9, X10⟩
      · have hlS : 0 < S.length := List.length_pos_iff.2 hs0
        by_cases hg : getO l 0 key = -1
        · have q1 := s4 hs0 hg
          have c1 := drop_ch v10 S sa S.length cs key rfl hcs (jS.ext X10) (hP.ext (X06.ext X10 (Nat.le_refl _))) (by omega) hOs
          have c0 := cGl v10 key X10
          rw [hg] at c0
          have c1' : ∀ u, Ext v10 u → CH Tryd.prog 10 #[.slice sa S.length cs, .string (strOf key)] u fun v h' => ∃ a' c', v = .slice a' l.length c' ∧ Js h' u.size a' c' l ∧ Ext u h' := fun u X => by
            have := drop_ch u S sa S.length cs key rfl hcs (jS.ext (X10.ext X (Nat.le_refl _))) (hP.ext (X06.ext (X10.ext X (Nat.le_refl _)) (Nat.le_refl _))) (by omega) hOs
            rwa [q1] at this
          -- region 17
          repeat refine HW.seq ?_
          refine HW.region ?_
          refine HL.still (Runs.move g12) ?_
          intro u113 e113
          refine HL.still (Runs.lenSl rfl Tryd.underlying22 e113) ?_
          intro u114 e114
          refine HL.still (Runs.gtr e114 rfl (t := true) (decide_eq_true (by omega))) ?_
          intro u115 e115
          refine HL.still (Runs.move e115) ?_
          intro u116 e116
          refine HL.stillG rfl rfl e116 (Runs.move p0) ?_
          intro u117 e117
          refine HL.stillG rfl rfl e116 (Runs.move p1) ?_
          intro u118 e118
          refine HL.oneG rfl rfl e116 (HO.call Tryd.func14 bd14 nm14 (args3 e117 rfl e118) rfl ((c0).mono ?_))
          rintro _ b3 ⟨rfl, Y3⟩
          intro u119 e119
          refine HL.stillG rfl rfl e116 (Runs.eql e119 rfl (t := true) rfl) ?_
          intro u120 e120
          refine HL.still (Runs.pick e116 e120) ?_
          intro u121 e121
          refine HL.nil ?_
          refine HW.yes e121 ?_
          -- region 18
          repeat refine HW.seq ?_
          refine HW.region ?_
          refine HL.still (Runs.move g9) ?_
          intro u122 e122
          refine HL.still (Runs.move e122) ?_
          intro u123 e123
          refine HL.stillG rfl rfl e123 (Runs.move g12) ?_
          intro u124 e124
          refine HL.stillG rfl rfl e123 (Runs.move p1) ?_
          intro u125 e125
          refine HL.oneG rfl rfl e123 (HO.call Tryd.func10 bd10 nm10 (args2 e124 e125) rfl ((c1' b3 Y3).mono ?_))
          rintro _ b4 ⟨a4, c4, rfl, J4, Y4⟩
          intro u126 e126
          refine HL.stillG rfl rfl e123 (Runs.move p0) ?_
          intro u127 e127
          refine HL.oneG rfl rfl e123 (HO.call Tryd.func12 bd12 nm12 (args2 e126 e127) rfl ((sameC_ch b4 l l a4 a c4 cap J4.jvs (hB.ext (X06.ext ((X10.ext Y3 (Nat.le_refl _)).ext Y4 (Nat.le_refl _)) (Nat.le_refl _))) (by omega) (by omega) rfl).mono ?_))
          rintro _ b5 ⟨rfl, rfl⟩
          intro u128 e128
          refine HL.still (Runs.pick e123 e128) ?_
          intro u129 e129
          refine HL.still (Runs.assign e129) ?_
          intro u8 e8
          refine HL.nil ?_
          refine HW.ret ?_
          exact RT.one rfl e8 ⟨rfl, X06.ext ((X10.ext Y3 (Nat.le_refl _)).ext Y4 (Nat.le_refl _)) (Nat.le_refl _)⟩
        · have c0 := cGl v10 key X10
          -- region 17
          repeat refine HW.seq ?_
          refine HW.region ?_
          refine HL.still (Runs.move g12) ?_
          intro u113 e113
          refine HL.still (Runs.lenSl rfl Tryd.underlying22 e113) ?_
          intro u114 e114
          refine HL.still (Runs.gtr e114 rfl (t := true) (decide_eq_true (by omega))) ?_
          intro u115 e115
          refine HL.still (Runs.move e115) ?_
          intro u116 e116
          refine HL.stillG rfl rfl e116 (Runs.move p0) ?_
          intro u117 e117
          refine HL.stillG rfl rfl e116 (Runs.move p1) ?_
          intro u118 e118
          refine HL.oneG rfl rfl e116 (HO.call Tryd.func14 bd14 nm14 (args3 e117 rfl e118) rfl ((c0).mono ?_))
          rintro _ b3 ⟨rfl, Y3⟩
          intro u119 e119
          refine HL.stillG rfl rfl e116 (Runs.eql e119 rfl (t := false) (by simpa using hg)) ?_
          intro u120 e120
          refine HL.still (Runs.pick e116 e120) ?_
          intro u121 e121
          refine HL.nil ?_
          refine HW.no e121 ?_
          refine HW.skip ?_
          exact ⟨g9, X10.ext Y3 (Nat.le_refl _)⟩
    clear p0 p1 g9 g12 X10
    rintro f v11 ⟨g9, X11⟩
    -- region 19
    repeat refine HW.seq ?_
    refine HW.region ?_
    refine HL.still (Runs.move g9) ?_
    intro u130 e130
    refine HL.still (Runs.assign e130) ?_
    intro u8 e8
    refine HL.nil ?_
    refine HW.ret ?_
    exact RT.one rfl e8 ⟨rfl, X06.ext X11 (Nat.le_refl _)⟩
end Go.Proofs.YtjopikfkgjbcgaaDoor
